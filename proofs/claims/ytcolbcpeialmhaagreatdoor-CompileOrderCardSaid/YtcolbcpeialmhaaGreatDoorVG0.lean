/- They stand for their bodies. -/
import Derived.Test.YtcolbcpeialmhaaGreatDoorVF
import Derived.Test.YtcolbcpeialmhaaGreatDoorA2
import Derived.KernelRfl
namespace Go.Proofs.YtcolbcpeialmhaaGreatDoor
open Go.Ab
set_option maxRecDepth 100000
theorem S3_ok : SO n3 S3 :=
 st3 30 [.tmp 6] fun call => (cv _ se)
theorem S4_ok : SO n4 S4 :=
 st2 44 [.tmp 4] fun call => (cv _ (sq (sq (sq (sq (sq (cv (fun e H => S4_0 call e.x0.x0 e.x0.x1 e.x0.x5 H) se) (sq (bl (lp (fun n e H => S4_1 call n e.x0.x0 e.x0.x1 e.x0.x5 e.x0.x6 H) fun _ => cv _ se)) se)) se) (sq se (sq (sq (cv (fun e H => S4_2 call e.x0.x0 e.x0.x1 e.x0.x11 e.x0.x13 H) se) se) se))) se) se))
theorem S5_ok : SO n5 S5 :=
 st3 88 [.tmp 6] fun call => (cv _ (sq (sq (sq (sq (cv (fun e H => S5_10 call e.x0.x0 e.x0.x1 e.x0.x2 e.x0.x7 H) (sq (cv (fun e H => S5_9 call e.x0.x0 e.x0.x1 e.x0.x2 e.x0.x7 H) (sq (sq (sq (sq (sq (sq (sq se (sq (sq (cv (fun e H => S5_1 call e.x0.x1 e.x4.x1 e.x4.x2 H) (sq (sq (cv (fun e H => S5_0 call e.x4.x4 e.x4.x6 H) se) se) se)) se) se)) se) se) (sq se (sq (sq (cv (fun e H => S5_4 call e.x0.x0 e.x0.x1 e.x0.x8 e.x2.x10 e.x2.x14 H) (sq (sq (cv (fun e H => S5_3 call e.x0.x0 e.x0.x1 e.x0.x8 e.x2.x10 e.x2.x14 e.x2.x18 H) (sq (sq (cv (fun e H => S5_2 call e.x0.x0 e.x0.x1 e.x0.x8 e.x2.x10 e.x2.x19 H) se) se) se)) se) se)) se) se))) (sq se (sq (sq (cv (fun e H => S5_8 call e.x0.x0 e.x0.x1 e.x0.x8 e.x1.x8 e.x1.x12 H) (sq (sq (cv (fun e H => S5_7 call e.x0.x0 e.x0.x1 e.x0.x8 e.x1.x14 e.x1.x19 H) (sq (sq (cv (fun e H => S5_6 call e.x0.x0 e.x0.x1 e.x0.x8 e.x1.x14 e.x1.x19 e.x2.x4 H) (sq (sq (cv (fun e H => S5_5 call e.x0.x0 e.x0.x1 e.x0.x8 e.x1.x14 e.x2.x5 H) se) se) se)) se) se)) se) se)) se) se))) se) se)) se)) se) se) se) se))
theorem S7_ok : SO n7 S7 :=
 st7 50 [.tmp 14] fun call => (cv _ (sq (sq (sq (sq (sq se (sq (sq (cv (fun e H => S7_1 call e.x0.x4 e.x0.x15 e.x1.x18 e.x2.x2 H) (sq (sq (cv (fun e H => S7_0 call e.x2.x4 e.x2.x8 H) se) se) se)) se) se)) se) se) se) se))
theorem S8_ok : SO n8 S8 :=
 st1 4 [.tmp 2] fun call => (cv _ se)
theorem S9_ok : SO n9 S9 :=
 st2 33 [.tmp 4] fun call => (cv _ (sq (sq (sq (cv (fun e H => S9_3 call e.x0.x0 e.x0.x1 e.x0.x5 H) (sq (sq (cv (fun e H => S9_2 call e.x0.x0 e.x0.x1 e.x0.x5 H) (sq (cv (fun e H => S9_0 call e.x0.x5 H) se) (sq se (sq (sq (cv (fun e H => S9_1 call e.x0.x5 e.x1.x4 e.x1.x5 H) se) se) se)))) se) se)) se) se) se))
theorem S10_ok : SO n10 S10 :=
 st1 29 [.tmp 2] fun call => (cv _ se)
theorem S11_ok : SO n11 S11 :=
 st4 49 [.cell (.some 7) 8, .tmp 9] fun call => (cv _ (sq (sq (sq (sq (sq (cv (fun e H => S11_0 call e.x0.x1 e.x0.x8 e.x0.x10 e.x0.x12 H) se) (sq (bl (lp (fun n e H => S11_1 call n e.x0.x1 e.x0.x2 e.x0.x3 e.x0.x8 e.x0.x10 e.x0.x12 e.x0.x13 H) fun _ => cv _ se)) se)) se) se) se) se))
theorem S14_ok : SO n14 S14 :=
 st3 39 [.cell (.some 7) 6, .tmp 7] fun call => (cv _ (sq (sq (sq (sq (sq (cv (fun e H => S14_0 call e.x0.x6 e.x0.x8 e.x0.x10 H) se) (sq (bl (lp (fun n e H => S14_1 call n e.x0.x6 e.x0.x8 e.x0.x10 e.x1.x3 e.x1.x4 e.x1.x5 H) fun _ => cv _ se)) se)) se) se) se) se))
theorem S16_ok : SO n16 S16 :=
 st2 26 [.tmp 4] fun call => (cv _ (sq (sq (sq se (sq (bl (lp (fun n e H => S16_0 call n e.x0.x0 e.x0.x1 e.x0.x5 H) fun _ => cv _ se)) se)) se) se))
theorem S17_ok : SO n17 S17 :=
 st2 18 [.tmp 4] fun call => (cv _ (sq (sq se (sq (sq (cv (fun e H => S17_0 call e.x0.x10 e.x0.x16 H) se) se) se)) se))
theorem S24_ok : SO n24 S24 :=
 st2 55 [.tmp 4] fun call => (cv _ (sq (sq (sq (cv (fun e H => S24_0 call e.x0.x0 e.x0.x1 H) se) se) se) se))
theorem S25_ok : SO n25 S25 :=
 st2 27 [.cell (.some 7) 4] fun call => (cv _ se)
theorem S29_ok : SO n29 S29 :=
 st1 11 [.tmp 2] fun call => (cv _ (sq (sq se (sq (sq (cv (fun e H => S29_0 call e.x0.x5 e.x0.x9 H) se) se) se)) se))
theorem S31_ok : SO n31 S31 :=
 st2 33 [] fun call => (cv _ (sq (sq (cv (fun e H => S31_1 call e.x0.x0 e.x0.x3 H) (sq (bl (lp (fun n e H => S31_0 call n e.x0.x0 e.x1.x3 e.x1.x4 e.x1.x5 H) fun _ => cv _ se)) se)) se) se))
theorem S32_ok : SO n32 S32 :=
 st3 27 [.cell (.some 4) 6, .tmp 7] fun call => (cv _ se)
theorem S33_ok : SO n33 S33 :=
 st3 12 [] fun call => (cv _ se)
theorem S36_ok : SO n36 S36 :=
 st2 28 [.tmp 4] fun call => (cv _ (sq (sq (sq se (sq (bl (lp (fun n e H => S36_0 call n e.x0.x1 e.x0.x5 e.x0.x12 e.x0.x13 e.x0.x14 H) fun n0 => cv _ (sq (sq (sq (cv (fun e H => S36_1 call (S36_0 call n0) e.x0.x1 e.x0.x5 e.x0.x12 e.x0.x13 e.x0.x14 H) se) se) se) se))) se)) se) se))
theorem S54_ok : SO n54 S54 :=
 st1 23 [] fun call => (cv _ (sq se (sq (sq (cv (fun e H => S54_10 call e.x0.x0 e.x0.x7 e.x0.x8 H) (sq (sq (cv (fun e H => S54_9 call e.x0.x0 e.x0.x7 e.x0.x9 H) (sq (sq (cv (fun e H => S54_8 call e.x0.x0 e.x0.x7 e.x0.x10 H) (sq (sq (cv (fun e H => S54_7 call e.x0.x0 e.x0.x7 e.x0.x11 H) (sq (sq (cv (fun e H => S54_6 call e.x0.x0 e.x0.x7 e.x0.x11 e.x0.x12 H) (sq (sq (cv (fun e H => S54_5 call e.x0.x0 e.x0.x7 e.x0.x11 e.x0.x13 H) (sq (sq (cv (fun e H => S54_4 call e.x0.x0 e.x0.x7 e.x0.x11 e.x0.x14 H) (sq (sq (cv (fun e H => S54_3 call e.x0.x0 e.x0.x7 e.x0.x11 e.x0.x15 H) (sq (sq (cv (fun e H => S54_2 call e.x0.x0 e.x0.x7 e.x0.x16 H) (sq (sq (cv (fun e H => S54_1 call e.x0.x0 e.x0.x7 e.x0.x17 H) (sq (sq (cv (fun e H => S54_0 call e.x0.x0 e.x0.x7 e.x0.x18 H) se) se) se)) se) se)) se) se)) se) se)) se) se)) se) se)) se) se)) se) se)) se) se)) se) se)) se) se)))
theorem S55_ok : SO n55 S55 :=
 st1 12 [.tmp 2, .tmp 3] fun call => (cv _ se)
theorem S56_ok : SO n56 S56 :=
 st1 17 [.tmp 2] fun call => (cv _ se)
theorem S57_ok : SO n57 S57 :=
 st1 23 [.tmp 2] fun call => (cv _ se)
theorem S58_ok : SO n58 S58 :=
 st3 112 [.tmp 6] fun call => (cv _ (sq (sq (sq (sq (sq (sq (sq (sq (sq (sq (cv (fun e H => S58_0 call e.x0.x0 H) se) (sq se (sq (sq (cv (fun e H => S58_2 call e.x0.x0 e.x0.x1 e.x0.x2 e.x0.x7 e.x0.x9 e.x0.x11 e.x3.x15 e.x4.x0 H) (sq (sq (cv (fun e H => S58_1 call e.x0.x0 e.x0.x1 e.x0.x2 e.x0.x7 e.x0.x9 e.x0.x11 e.x4.x2 e.x4.x7 H) se) se) se)) se) se))) se) se) se) se) se) se) (sq se (sq (sq (cv (fun e H => S58_3 call e.x0.x0 e.x0.x1 e.x0.x2 e.x0.x7 e.x1.x0 e.x1.x4 H) se) se) se))) se) se))
theorem S59_ok : SO n59 S59 :=
 st2 9 [.tmp 4] fun call => (cv _ se)
theorem S62_ok : SO n62 S62 :=
 st1 7 [.tmp 2] fun call => (cv _ se)
theorem S67_ok : SO n67 S67 :=
 st1 42 [.tmp 2] fun call => (cv _ (sq (sq (sq se (bl (lp (fun n e H => S67_0 call n e.x0.x0 e.x0.x3 H) fun n0 => cv _ (sq (bl (sq (bl (sq se (sq (sq (cv (fun e H => S67_3 call (S67_0 call n0) e.x0.x0 e.x0.x3 e.x0.x4 e.x0.x16 e.x0.x18 H) (sq (sq (cv (fun e H => S67_2 call (S67_0 call n0) e.x0.x0 e.x0.x3 e.x0.x4 e.x1.x0 e.x1.x2 H) (sq (sq (cv (fun e H => S67_1 call (S67_0 call n0) e.x0.x0 e.x0.x3 e.x1.x4 e.x1.x6 H) se) se) se)) se) se)) se) se))) se)) se)))) se) se))
theorem S68_ok : SO n68 S68 :=
 st1 64 [.cell (.some 3) 2] fun call => (cv _ (sq (sq (sq (cv (fun e H => S68_0 call e.x0.x2 H) se) (sq (bl (lp (fun n e H => S68_1 call n e.x0.x0 e.x0.x2 e.x2.x11 e.x2.x12 e.x2.x13 H) fun _ => cv _ se)) se)) (bl (sq (cn (sq (sq (cv (fun e H => S68_2 call e.x0.x2 e.x0.x3 H) se) se) se) (sq (cn (sq (sq se (sq (sq se (sq (sq (cv (fun e H => S68_3 call e.x0.x2 e.x0.x4 e.x2.x5 e.x2.x7 H) se) se) se)) se)) se) se) se)) se))) se))
theorem S69_ok : SO n69 S69 :=
 st2 10 [.cell (.some 4) 4] fun call => (cv _ se)
theorem S70_ok : SO n70 S70 :=
 st1 13 [.cell (.some 3) 2] fun call => (cv _ se)
theorem S72_ok : SO n72 S72 :=
 st1 64 [.tmp 2] fun call => (cv _ (sq (sq (sq (sq se (sq (bl (lp (fun n e H => S72_0 call n e.x0.x3 e.x2.x0 e.x2.x1 e.x2.x2 H) fun n0 => cv _ (sq (sq (sq se (bl (sq (sq (sq (cv (fun e H => S72_1 call (S72_0 call n0) e.x0.x3 e.x0.x6 e.x0.x7 e.x2.x0 e.x2.x1 e.x2.x2 H) se) se) se) se))) se) se))) se)) (sq se (sq (sq (cv (fun e H => S72_5 call e.x0.x1 e.x0.x3 e.x0.x16 e.x1.x3 H) (sq (sq (cv (fun e H => S72_4 call e.x0.x1 e.x0.x3 e.x1.x5 e.x1.x9 H) (sq (sq (cv (fun e H => S72_3 call e.x0.x1 e.x0.x3 e.x1.x5 e.x1.x9 e.x1.x16 H) (sq (sq (cv (fun e H => S72_2 call e.x0.x1 e.x0.x3 e.x1.x5 e.x1.x17 H) se) se) se)) se) se)) se) se)) se) se))) se) se))
theorem S73_ok : SO n73 S73 :=
 st2 9 [.tmp 4] fun call => (cv _ se)
theorem S74_ok : SO n74 S74 :=
 st1 6 [.tmp 2] fun call => (cv _ se)
theorem S75_ok : SO n75 S75 :=
 st2 19 [.tmp 4] fun call => (cv _ (sq (sq se (sq (bl (lp (fun n e H => S75_0 call n e.x0.x0 e.x0.x1 e.x0.x7 e.x0.x8 H) fun _ => cv _ se)) se)) se))
theorem S76_ok : SO n76 S76 :=
 st3 15 [.tmp 4] fun call => (cv _ (sq (sq se (sq (sq (cv (fun e H => S76_0 call e.x0.x9 e.x0.x13 H) se) se) se)) se))
theorem S81_ok : SO n81 S81 :=
 st1 11 [.tmp 2] fun call => (cv _ (sq (sq se (sq (sq (cv (fun e H => S81_0 call e.x0.x6 e.x0.x9 H) se) se) se)) se))
theorem S83_ok : SO n83 S83 :=
 st2 63 [.tmp 4] fun call => (cv _ (sq (sq (cv (fun e H => S83_0 call e.x0.x0 e.x0.x1 H) se) (sq (bl (lp (fun n e H => S83_1 call n e.x0.x0 e.x0.x1 e.x0.x10 e.x0.x11 e.x0.x12 H) fun n0 => cv _ (sq (sq (sq se (bl (sq (sq se (sq (sq (cv (fun e H => S83_2 call (S83_1 call n0) e.x0.x0 e.x0.x1 e.x0.x5 e.x0.x10 e.x0.x11 e.x0.x12 e.x0.x19 e.x1.x8 H) se) se) se)) se))) se) se))) se)) se))
theorem S86_ok : SO n86 S86 :=
 st2 21 [.tmp 4] fun call => (cv _ se)
theorem S91_ok : SO n91 S91 :=
 st2 45 [.tmp 4, .tmp 5] fun call => (cv _ (sq (sq se (sq se (sq (sq (cv (fun e H => S91_3 call e.x0.x2 e.x0.x3 e.x0.x9 e.x0.x12 H) (sq (sq (cv (fun e H => S91_2 call e.x0.x2 e.x0.x3 e.x0.x14 e.x0.x17 H) (sq (sq (cv (fun e H => S91_1 call e.x0.x2 e.x0.x3 e.x0.x19 e.x1.x5 H) (sq (sq (cv (fun e H => S91_0 call e.x0.x3 e.x1.x7 e.x1.x16 H) se) se) se)) se) se)) se) se)) se) se))) se))
theorem S97_ok : SO n97 S97 :=
 st1 7 [.tmp 2] fun call => (cv _ se)
theorem S101_ok : SO n101 S101 :=
 st1 8 [.tmp 2] fun call => (cv _ se)
theorem S107_ok : SO n107 S107 :=
 st2 9 [.tmp 4] fun call => (cv _ se)
theorem S108_ok : SO n108 S108 :=
 st2 81 [.tmp 4] fun call => (cv _ se)
theorem S110_ok : SO n110 S110 :=
 st2 20 [.tmp 4] fun call => (cv _ se)
theorem S111_ok : SO n111 S111 :=
 st2 11 [.tmp 4] fun call => (cv _ se)
theorem S112_ok : SO n112 S112 :=
 st2 68 [.cell (.some 5) 4, .tmp 5] fun call => (cv _ (sq (sq (sq se (sq se (sq (sq (cv (fun e H => S112_32 call e.x0.x3 e.x0.x4 e.x0.x6 e.x0.x11 e.x0.x12 H) (sq (sq (cv (fun e H => S112_31 call e.x0.x3 e.x0.x4 e.x0.x6 e.x0.x11 e.x0.x13 H) (sq (sq (cv (fun e H => S112_30 call e.x0.x3 e.x0.x4 e.x0.x6 e.x0.x11 e.x0.x14 H) (sq (sq (cv (fun e H => S112_29 call e.x0.x3 e.x0.x4 e.x0.x6 e.x0.x11 e.x0.x15 H) (sq (sq (cv (fun e H => S112_28 call e.x0.x3 e.x0.x4 e.x0.x6 e.x0.x11 e.x0.x16 H) (sq (sq (cv (fun e H => S112_27 call e.x0.x3 e.x0.x4 e.x0.x6 e.x0.x18 e.x0.x19 H) (sq (sq (cv (fun e H => S112_26 call e.x0.x3 e.x0.x4 e.x0.x6 e.x0.x18 e.x1.x0 H) (sq (sq (cv (fun e H => S112_25 call e.x0.x3 e.x0.x4 e.x0.x6 e.x0.x18 e.x1.x1 H) (sq (sq (cv (fun e H => S112_24 call e.x0.x3 e.x0.x4 e.x0.x6 e.x0.x18 e.x1.x2 H) (sq (sq (cv (fun e H => S112_23 call e.x0.x3 e.x0.x4 e.x0.x6 e.x0.x18 e.x1.x2 e.x1.x3 H) (sq (sq (cv (fun e H => S112_22 call e.x0.x3 e.x0.x4 e.x0.x6 e.x0.x18 e.x1.x2 e.x1.x4 H) (sq (sq (cv (fun e H => S112_21 call e.x0.x3 e.x0.x4 e.x0.x6 e.x0.x18 e.x1.x2 e.x1.x5 H) (sq (sq (cv (fun e H => S112_20 call e.x0.x3 e.x0.x4 e.x0.x6 e.x0.x18 e.x1.x6 H) (sq (sq (cv (fun e H => S112_19 call e.x0.x3 e.x0.x4 e.x0.x6 e.x1.x8 e.x1.x9 H) (sq (sq (cv (fun e H => S112_18 call e.x0.x3 e.x0.x4 e.x0.x6 e.x1.x8 e.x1.x10 H) (sq (sq (cv (fun e H => S112_17 call e.x0.x3 e.x0.x4 e.x0.x6 e.x1.x8 e.x1.x11 H) (sq (sq (cv (fun e H => S112_16 call e.x0.x3 e.x0.x4 e.x0.x6 e.x1.x8 e.x1.x12 H) (sq (sq (cv (fun e H => S112_15 call e.x0.x3 e.x0.x4 e.x0.x6 e.x1.x8 e.x1.x13 H) (sq (sq (cv (fun e H => S112_14 call e.x0.x3 e.x0.x4 e.x0.x6 e.x1.x15 e.x1.x16 H) (sq (sq (cv (fun e H => S112_13 call e.x0.x3 e.x0.x4 e.x0.x6 e.x1.x15 e.x1.x17 H) (sq (sq (cv (fun e H => S112_12 call e.x0.x3 e.x0.x4 e.x0.x6 e.x1.x15 e.x1.x18 H) (sq (sq (cv (fun e H => S112_11 call e.x0.x3 e.x0.x4 e.x0.x6 e.x1.x15 e.x1.x19 H) (sq (sq (cv (fun e H => S112_10 call e.x0.x3 e.x0.x4 e.x0.x6 e.x1.x15 e.x1.x19 e.x2.x0 H) (sq (sq (cv (fun e H => S112_9 call e.x0.x3 e.x0.x4 e.x0.x6 e.x1.x15 e.x1.x19 e.x2.x1 H) (sq (sq (cv (fun e H => S112_8 call e.x0.x3 e.x0.x4 e.x0.x6 e.x1.x15 e.x1.x19 e.x2.x1 e.x2.x2 H) (sq (sq (cv (fun e H => S112_7 call e.x0.x3 e.x0.x4 e.x0.x6 e.x1.x15 e.x1.x19 e.x2.x1 e.x2.x3 H) (sq (sq (cv (fun e H => S112_6 call e.x0.x3 e.x0.x4 e.x0.x6 e.x1.x15 e.x1.x19 e.x2.x1 e.x2.x4 H) (sq (sq (cv (fun e H => S112_5 call e.x0.x3 e.x0.x4 e.x0.x6 e.x1.x15 e.x1.x19 e.x2.x1 e.x2.x5 H) (sq (sq (cv (fun e H => S112_4 call e.x0.x3 e.x0.x4 e.x0.x6 e.x1.x15 e.x1.x19 e.x2.x6 H) (sq (sq (cv (fun e H => S112_3 call e.x0.x3 e.x0.x4 e.x0.x6 e.x1.x15 e.x1.x19 e.x2.x7 H) (sq (sq (cv (fun e H => S112_2 call e.x0.x3 e.x0.x4 e.x0.x6 e.x1.x15 e.x1.x19 e.x2.x8 H) (sq (sq (cv (fun e H => S112_1 call e.x0.x3 e.x0.x4 e.x0.x6 e.x1.x15 e.x1.x19 e.x2.x9 H) (sq (sq (cv (fun e H => S112_0 call e.x0.x3 e.x0.x4 e.x0.x6 e.x1.x15 e.x2.x10 H) se) se) se)) se) se)) se) se)) se) se)) se) se)) se) se)) se) se)) se) se)) se) se)) se) se)) se) se)) se) se)) se) se)) se) se)) se) se)) se) se)) se) se)) se) se)) se) se)) se) se)) se) se)) se) se)) se) se)) se) se)) se) se)) se) se)) se) se)) se) se)) se) se)) se) se)) se) se)) se) se)) se) se))) se) se))
theorem S113_ok : SO n113 S113 :=
 st1 14 [.cell (.some 3) 2, .tmp 3] fun call => (cv _ se)
theorem S114_ok : SO n114 S114 :=
 st2 23 [.tmp 4] fun call => (cv _ (sq (sq se (sq (sq (cv (fun e H => S114_4 call e.x0.x0 e.x0.x1 e.x0.x7 e.x0.x9 H) (sq (sq (cv (fun e H => S114_3 call e.x0.x0 e.x0.x1 e.x0.x11 e.x0.x13 H) (sq (sq (cv (fun e H => S114_2 call e.x0.x1 e.x0.x15 e.x0.x18 H) (sq (sq (cv (fun e H => S114_1 call e.x0.x15 e.x0.x18 e.x1.x0 H) (sq (sq (cv (fun e H => S114_0 call e.x0.x15 e.x1.x1 H) se) se) se)) se) se)) se) se)) se) se)) se) se)) se))
theorem S115_ok : SO n115 S115 :=
 st1 8 [.tmp 2] fun call => (cv _ se)
theorem S116_ok : SO n116 S116 :=
 st1 98 [] fun call => (cv _ (sq (bl (sq (cn se (sq (cn se (sq (cn se (sq (cn se (sq (cn (sq (cv (fun e H => S116_0 call e.x0.x0 H) se) se) se) se)) se)) (sq (sq (cv (fun e H => S116_3 call e.x0.x0 e.x0.x2 e.x1.x7 e.x1.x9 H) (sq (sq (cv (fun e H => S116_2 call e.x0.x0 e.x0.x2 e.x1.x11 e.x1.x13 H) (sq (sq (cv (fun e H => S116_1 call e.x0.x0 e.x0.x2 e.x1.x15 e.x1.x17 H) se) se) se)) se) se)) se) se))) se)) (sq (sq (cv (fun e H => S116_4 call e.x0.x0 e.x0.x2 e.x0.x13 e.x0.x15 H) se) se) se))) se))
theorem S120_ok : SO n120 S120 :=
 st2 9 [.tmp 4] fun call => (cv _ se)
theorem S121_ok : SO n121 S121 :=
 st2 52 [.tmp 4] fun call => (cv _ se)
theorem S122_ok : SO n122 S122 :=
 st2 8 [.tmp 4] fun call => (cv _ se)
theorem S123_ok : SO n123 S123 :=
 st2 20 [.tmp 4] fun call => (cv _ (sq (sq (sq se (bl (lp (fun n e H => S123_0 call n e.x0.x0 e.x0.x1 e.x0.x5 H) fun n0 => cv _ (sq se (sq se (sq (sq (cv (fun e H => S123_1 call (S123_0 call n0) e.x0.x0 e.x0.x1 e.x0.x5 e.x0.x10 e.x0.x15 H) se) se) se)))))) se) se))
theorem S125_ok : SO n125 S125 :=
 st1 21 [.tmp 2] fun call => (cv _ (sq (sq se (sq (sq (cv (fun e H => S125_4 call e.x0.x0 e.x0.x5 e.x0.x7 H) (sq (sq (cv (fun e H => S125_3 call e.x0.x0 e.x0.x9 e.x0.x12 H) (sq (sq (cv (fun e H => S125_2 call e.x0.x0 e.x0.x9 e.x0.x12 e.x0.x14 H) (sq (sq (cv (fun e H => S125_1 call e.x0.x0 e.x0.x9 e.x0.x15 H) (sq (sq (cv (fun e H => S125_0 call e.x0.x17 e.x0.x19 H) se) se) se)) se) se)) se) se)) se) se)) se) se)) se))
theorem S126_ok : SO n126 S126 :=
 st1 9 [.tmp 2] fun call => (cv _ (sq (sq se (sq (sq (cv (fun e H => S126_0 call e.x0.x5 e.x0.x7 H) se) se) se)) se))
theorem S127_ok : SO n127 S127 :=
 st1 29 [.tmp 2] fun call => (cv _ (sq (sq se (sq (bl (sq (cv (fun e H => S127_0 call e.x0.x4 H) se) se)) se)) se))
theorem S128_ok : SO n128 S128 :=
 st1 9 [.tmp 2] fun call => (cv _ (sq (sq se (sq (sq (cv (fun e H => S128_0 call e.x0.x5 e.x0.x7 H) se) se) se)) se))
theorem S130_ok : SO n130 S130 :=
 st0 2 [.tmp 0] fun call => (cv _ se)
theorem S131_ok : SO n131 S131 :=
 st2 12 [.tmp 4] fun call => (cv _ se)
theorem S133_ok : SO n133 S133 :=
 st2 15 [.cell (.some 3) 4] fun call => (cv _ se)
end Go.Proofs.YtcolbcpeialmhaaGreatDoor
