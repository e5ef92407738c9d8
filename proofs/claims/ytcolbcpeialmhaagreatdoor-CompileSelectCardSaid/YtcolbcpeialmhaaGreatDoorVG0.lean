/- They stand for their bodies. -/
import Derived.Test.YtcolbcpeialmhaaGreatDoorVF
import Derived.Test.YtcolbcpeialmhaaGreatDoorA2
import Derived.KernelRfl
namespace Go.Proofs.YtcolbcpeialmhaaGreatDoor
open Go.Ab
set_option maxRecDepth 100000
theorem a3n : SO n3 S3 :=
 st3 30 [.tmp 6] fun call => (cv _ se)
theorem a2D : SO n4 S4 :=
 st2 44 [.tmp 4] fun call => (cv _ (sq (sq (sq (sq (sq (cv (fun e H => a2F call e.x0.x0 e.x0.x1 e.x0.x5 H) se) (sq (bl (lp (fun n e H => a2E call n e.x0.x0 e.x0.x1 e.x0.x5 e.x0.x6 H) fun _ => cv _ se)) se)) se) (sq se (sq (sq (cv (fun e H => UO call e.x0.x0 e.x0.x1 e.x0.x11 e.x0.x13 H) se) se) se))) se) se))
theorem a2t : SO n5 S5 :=
 st3 88 [.tmp 6] fun call => (cv _ (sq (sq (sq (sq (cv (fun e H => qA call e.x0.x0 e.x0.x1 e.x0.x2 e.x0.x7 H) (sq (cv (fun e H => FJ call e.x0.x0 e.x0.x1 e.x0.x2 e.x0.x7 H) (sq (sq (sq (sq (sq (sq (sq se (sq (sq (cv (fun e H => FQ call e.x0.x1 e.x4.x1 e.x4.x2 H) (sq (sq (cv (fun e H => FT call e.x4.x4 e.x4.x6 H) se) se) se)) se) se)) se) se) (sq se (sq (sq (cv (fun e H => FN call e.x0.x0 e.x0.x1 e.x0.x8 e.x2.x10 e.x2.x14 H) (sq (sq (cv (fun e H => FO call e.x0.x0 e.x0.x1 e.x0.x8 e.x2.x10 e.x2.x14 e.x2.x18 H) (sq (sq (cv (fun e H => FP call e.x0.x0 e.x0.x1 e.x0.x8 e.x2.x10 e.x2.x19 H) se) se) se)) se) se)) se) se))) (sq se (sq (sq (cv (fun e H => wF call e.x0.x0 e.x0.x1 e.x0.x8 e.x1.x8 e.x1.x12 H) (sq (sq (cv (fun e H => FK call e.x0.x0 e.x0.x1 e.x0.x8 e.x1.x14 e.x1.x19 H) (sq (sq (cv (fun e H => FL call e.x0.x0 e.x0.x1 e.x0.x8 e.x1.x14 e.x1.x19 e.x2.x4 H) (sq (sq (cv (fun e H => FM call e.x0.x0 e.x0.x1 e.x0.x8 e.x1.x14 e.x2.x5 H) se) se) se)) se) se)) se) se)) se) se))) se) se)) se)) se) se) se) se))
theorem a2p : SO n6 S6 :=
 st0 64 [.tmp 0] fun call => (cv _ (sq (sq (sq (sq (sq (sq se (sq (sq (cv (fun e H => Us call e.x0.x4 e.x0.x5 e.x0.x6 e.x0.x7 e.x0.x8 e.x1.x10 e.x1.x12 H) (sq (sq (cv (fun e H => Ut call e.x0.x5 e.x0.x6 e.x0.x7 e.x0.x8 e.x1.x14 e.x1.x17 H) (sq (sq (cv (fun e H => Uu call e.x0.x5 e.x0.x7 e.x0.x8 e.x1.x19 e.x2.x2 H) (sq (sq (cv (fun e H => Uv call e.x0.x7 e.x0.x8 e.x2.x4 e.x2.x7 H) (sq (sq (cv (fun e H => Uw call e.x0.x7 e.x2.x9 e.x2.x11 H) (sq (sq (cv (fun e H => Ux call e.x0.x7 e.x2.x13 e.x2.x16 H) (sq (sq (cv (fun e H => Uy call e.x2.x18 e.x3.x2 H) se) se) se)) se) se)) se) se)) se) se)) se) se)) se) se)) se) se)) se) se) se) se) se))
theorem a2j : SO n7 S7 :=
 st7 50 [.tmp 14] fun call => (cv _ (sq (sq (sq (sq (sq se (sq (sq (cv (fun e H => Ul call e.x0.x4 e.x0.x15 e.x1.x18 e.x2.x2 H) (sq (sq (cv (fun e H => Um call e.x2.x4 e.x2.x8 H) se) se) se)) se) se)) se) se) se) se))
theorem a2f : SO n8 S8 :=
 st1 4 [.tmp 2] fun call => (cv _ se)
theorem a2b : SO n9 S9 :=
 st2 33 [.tmp 4] fun call => (cv _ (sq (sq (sq (cv (fun e H => MK call e.x0.x0 e.x0.x1 e.x0.x5 H) (sq (sq (cv (fun e H => Ua call e.x0.x0 e.x0.x1 e.x0.x5 H) (sq (cv (fun e H => Uc call e.x0.x5 H) se) (sq se (sq (sq (cv (fun e H => Ub call e.x0.x5 e.x1.x4 e.x1.x5 H) se) se) se)))) se) se)) se) se) se))
theorem Yo : SO n10 S10 :=
 st1 29 [.tmp 2] fun call => (cv _ se)
theorem Yh : SO n11 S11 :=
 st4 49 [.cell (.some 7) 8, .tmp 9] fun call => (cv _ (sq (sq (sq (sq (sq (cv (fun e H => wJ call e.x0.x1 e.x0.x8 e.x0.x10 e.x0.x12 H) se) (sq (bl (lp (fun n e H => wI call n e.x0.x1 e.x0.x2 e.x0.x3 e.x0.x8 e.x0.x10 e.x0.x12 e.x0.x13 H) fun _ => cv _ se)) se)) se) se) se) se))
theorem Y4 : SO n13 S13 :=
 st1 18 [.tmp 2, .cell (.some 2) 3] fun call => (cv _ se)
theorem XY : SO n14 S14 :=
 st3 39 [.cell (.some 7) 6, .tmp 7] fun call => (cv _ (sq (sq (sq (sq (sq (cv (fun e H => pf call e.x0.x6 e.x0.x8 e.x0.x10 H) se) (sq (bl (lp (fun n e H => wH call n e.x0.x6 e.x0.x8 e.x0.x10 e.x1.x3 e.x1.x4 e.x1.x5 H) fun _ => cv _ se)) se)) se) se) se) se))
theorem XK : SO n16 S16 :=
 st2 26 [.tmp 4] fun call => (cv _ (sq (sq (sq se (sq (bl (lp (fun n e H => Ri call n e.x0.x0 e.x0.x1 e.x0.x5 H) fun _ => cv _ se)) se)) se) se))
theorem Xz : SO n17 S17 :=
 st2 18 [.tmp 4] fun call => (cv _ (sq (sq se (sq (sq (cv (fun e H => Jp call e.x0.x10 e.x0.x16 H) se) se) se)) se))
theorem Xg : SO n22 S22 :=
 st1 113 [.tmp 2] fun call => (cv _ (sq (sq (sq (sq (cv (fun e H => Ra call e.x0.x1 e.x0.x3 H) (sq (sq (sq (cv (fun e H => Rc call e.x0.x1 e.x0.x3 H) (sq (sq (cv (fun e H => Rf call e.x0.x1 e.x0.x3 H) (sq (sq (cv (fun e H => Rh call e.x0.x1 e.x0.x3 H) se) (sq (bl (lp (fun n e H => Rg call n e.x0.x1 e.x0.x3 e.x4.x14 e.x4.x15 e.x4.x16 H) fun _ => cv _ se)) se)) se)) (sq (bl (lp (fun n e H => Re call n e.x0.x1 e.x0.x3 e.x3.x9 e.x3.x10 e.x3.x11 H) fun _ => cv _ se)) se)) se)) (sq (bl (lp (fun n e H => Rb call n e.x0.x1 e.x0.x3 e.x2.x11 e.x2.x12 e.x2.x13 H) fun _ => cv _ se)) se)) se) se)) (sq (bl (lp (fun n e H => R9 call n e.x0.x1 e.x0.x3 e.x1.x2 e.x1.x3 e.x1.x4 H) fun _ => cv _ se)) se)) se) se) se))
theorem X3 : SO n24 S24 :=
 st2 55 [.tmp 4] fun call => (cv _ (sq (sq (sq (cv (fun e H => iE call e.x0.x0 e.x0.x1 H) se) se) se) se))
theorem WT : SO n25 S25 :=
 st2 27 [.cell (.some 7) 4] fun call => (cv _ se)
theorem Ws : SO n29 S29 :=
 st1 11 [.tmp 2] fun call => (cv _ (sq (sq se (sq (sq (cv (fun e H => J7 call e.x0.x5 e.x0.x9 H) se) se) se)) se))
theorem Wk : SO n31 S31 :=
 st2 33 [] fun call => (cv _ (sq (sq (cv (fun e H => J4 call e.x0.x0 e.x0.x3 H) (sq (bl (lp (fun n e H => R8 call n e.x0.x0 e.x1.x3 e.x1.x4 e.x1.x5 H) fun _ => cv _ se)) se)) se) se))
theorem Wf : SO n33 S33 :=
 st3 12 [] fun call => (cv _ se)
theorem V8 : SO n44 S44 :=
 st0 2 [.tmp 0] fun call => (cv _ se)
theorem V6 : SO n45 S45 :=
 st2 32 [] fun call => (cv _ (sq (cv (fun e H => R7 call e.x0.x0 e.x0.x1 H) se) (bl (lp (fun n e H => R6 call n e.x0.x0 e.x0.x1 H) fun _ => cv _ se))))
theorem V0 : SO n46 S46 :=
 st2 17 [] fun call => (cv _ (sq (bl (lp (fun n e H => R5 call n e.x0.x0 e.x0.x6 e.x0.x7 e.x0.x8 H) fun _ => cv _ se)) se))
theorem UU : SO n47 S47 :=
 st2 23 [] fun call => (cv _ (sq (sq (bl (lp (fun n e H => IM call n e.x0.x0 e.x0.x11 e.x0.x12 e.x0.x13 H) fun n0 => cv _ (sq (sq (sq (cv (fun e H => IL call (IM call n0) e.x0.x0 e.x0.x11 e.x0.x12 e.x0.x13 H) se) se) se) se))) se) se))
theorem UR : SO n48 S48 :=
 st1 10 [.tmp 2] fun call => (cv _ se)
theorem UP : SO n49 S49 :=
 st2 67 [] fun call => (cv _ (sq (sq (sq (sq (sq (cv (fun e H => R3 call e.x0.x0 e.x0.x3 H) (sq (sq (bl (lp (fun n e H => R4 call n e.x0.x0 e.x2.x17 e.x2.x18 e.x2.x19 H) fun _ => cv _ se)) se) se)) (sq (bl (lp (fun n e H => R0 call n e.x0.x0 e.x0.x3 e.x1.x10 e.x1.x11 e.x1.x12 H) fun _ => cv _ se)) se)) se) se) se) se))
theorem UI : SO n54 S54 :=
 st1 23 [] fun call => (cv _ (sq se (sq (sq (cv (fun e H => yk call e.x0.x0 e.x0.x7 e.x0.x8 H) (sq (sq (cv (fun e H => IB call e.x0.x0 e.x0.x7 e.x0.x9 H) (sq (sq (cv (fun e H => IC call e.x0.x0 e.x0.x7 e.x0.x10 H) (sq (sq (cv (fun e H => ID call e.x0.x0 e.x0.x7 e.x0.x11 H) (sq (sq (cv (fun e H => IE call e.x0.x0 e.x0.x7 e.x0.x11 e.x0.x12 H) (sq (sq (cv (fun e H => IF call e.x0.x0 e.x0.x7 e.x0.x11 e.x0.x13 H) (sq (sq (cv (fun e H => IG call e.x0.x0 e.x0.x7 e.x0.x11 e.x0.x14 H) (sq (sq (cv (fun e H => IH call e.x0.x0 e.x0.x7 e.x0.x11 e.x0.x15 H) (sq (sq (cv (fun e H => II call e.x0.x0 e.x0.x7 e.x0.x16 H) (sq (sq (cv (fun e H => IJ call e.x0.x0 e.x0.x7 e.x0.x17 H) (sq (sq (cv (fun e H => IK call e.x0.x0 e.x0.x7 e.x0.x18 H) se) se) se)) se) se)) se) se)) se) se)) se) se)) se) se)) se) se)) se) se)) se) se)) se) se)) se) se)))
theorem UH : SO n55 S55 :=
 st1 12 [.tmp 2, .tmp 3] fun call => (cv _ se)
theorem UG : SO n56 S56 :=
 st1 17 [.tmp 2] fun call => (cv _ se)
theorem UF : SO n57 S57 :=
 st1 23 [.tmp 2] fun call => (cv _ se)
theorem UE : SO n58 S58 :=
 st3 112 [.tmp 6] fun call => (cv _ (sq (sq (sq (sq (sq (sq (sq (sq (sq (sq (cv (fun e H => IA call e.x0.x0 H) se) (sq se (sq (sq (cv (fun e H => Iy call e.x0.x0 e.x0.x1 e.x0.x2 e.x0.x7 e.x0.x9 e.x0.x11 e.x3.x15 e.x4.x0 H) (sq (sq (cv (fun e H => Iz call e.x0.x0 e.x0.x1 e.x0.x2 e.x0.x7 e.x0.x9 e.x0.x11 e.x4.x2 e.x4.x7 H) se) se) se)) se) se))) se) se) se) se) se) se) (sq se (sq (sq (cv (fun e H => Ix call e.x0.x0 e.x0.x1 e.x0.x2 e.x0.x7 e.x1.x0 e.x1.x4 H) se) se) se))) se) se))
theorem UD : SO n59 S59 :=
 st2 9 [.tmp 4] fun call => (cv _ se)
theorem UC : SO n62 S62 :=
 st1 7 [.tmp 2] fun call => (cv _ se)
theorem UB : SO n67 S67 :=
 st1 42 [.tmp 2] fun call => (cv _ (sq (sq (sq se (bl (lp (fun n e H => wE call n e.x0.x0 e.x0.x3 H) fun n0 => cv _ (sq (bl (sq (bl (sq se (sq (sq (cv (fun e H => Iu call (wE call n0) e.x0.x0 e.x0.x3 e.x0.x4 e.x0.x16 e.x0.x18 H) (sq (sq (cv (fun e H => Iv call (wE call n0) e.x0.x0 e.x0.x3 e.x0.x4 e.x1.x0 e.x1.x2 H) (sq (sq (cv (fun e H => Iw call (wE call n0) e.x0.x0 e.x0.x3 e.x1.x4 e.x1.x6 H) se) se) se)) se) se)) se) se))) se)) se)))) se) se))
theorem UA : SO n68 S68 :=
 st1 64 [.cell (.some 3) 2] fun call => (cv _ (sq (sq (sq (cv (fun e H => QZ call e.x0.x2 H) se) (sq (bl (lp (fun n e H => QY call n e.x0.x0 e.x0.x2 e.x2.x11 e.x2.x12 e.x2.x13 H) fun _ => cv _ se)) se)) (bl (sq (cn (sq (sq (cv (fun e H => It call e.x0.x2 e.x0.x3 H) se) se) se) (sq (cn (sq (sq se (sq (sq se (sq (sq (cv (fun e H => Is call e.x0.x2 e.x0.x4 e.x2.x5 e.x2.x7 H) se) se) se)) se)) se) se) se)) se))) se))
theorem Uz : SO n69 S69 :=
 st2 10 [.cell (.some 4) 4] fun call => (cv _ se)
theorem Ur : SO n70 S70 :=
 st1 13 [.cell (.some 3) 2] fun call => (cv _ se)
theorem Uq : SO n72 S72 :=
 st1 64 [.tmp 2] fun call => (cv _ (sq (sq (sq (sq se (sq (bl (lp (fun n e H => Ir call n e.x0.x3 e.x2.x0 e.x2.x1 e.x2.x2 H) fun n0 => cv _ (sq (sq (sq se (bl (sq (sq (sq (cv (fun e H => Iq call (Ir call n0) e.x0.x3 e.x0.x6 e.x0.x7 e.x2.x0 e.x2.x1 e.x2.x2 H) se) se) se) se))) se) se))) se)) (sq se (sq (sq (cv (fun e H => Il call e.x0.x1 e.x0.x3 e.x0.x16 e.x1.x3 H) (sq (sq (cv (fun e H => Im call e.x0.x1 e.x0.x3 e.x1.x5 e.x1.x9 H) (sq (sq (cv (fun e H => Io call e.x0.x1 e.x0.x3 e.x1.x5 e.x1.x9 e.x1.x16 H) (sq (sq (cv (fun e H => Ip call e.x0.x1 e.x0.x3 e.x1.x5 e.x1.x17 H) se) se) se)) se) se)) se) se)) se) se))) se) se))
theorem Up : SO n73 S73 :=
 st2 9 [.tmp 4] fun call => (cv _ se)
theorem Uo : SO n74 S74 :=
 st1 6 [.tmp 2] fun call => (cv _ se)
theorem Un : SO n75 S75 :=
 st2 19 [.tmp 4] fun call => (cv _ (sq (sq se (sq (bl (lp (fun n e H => QX call n e.x0.x0 e.x0.x1 e.x0.x7 e.x0.x8 H) fun _ => cv _ se)) se)) se))
theorem Uk : SO n80 S80 :=
 st1 52 [.tmp 2] fun call => (cv _ (sq (sq (sq (sq se (sq (bl (sq (cn se (sq (cn se (sq (cn (sq se (sq (sq (cv (fun e H => Ii call e.x0.x3 e.x1.x10 e.x1.x16 H) (sq (sq (cv (fun e H => Ij call e.x0.x3 e.x1.x18 e.x2.x3 H) (sq (sq (cv (fun e H => Ik call e.x2.x5 e.x2.x10 H) se) se) se)) se) se)) se) se)) se) se)) se)) se)) se)) se) se) se))
theorem Uj : SO n81 S81 :=
 st1 11 [.tmp 2] fun call => (cv _ (sq (sq se (sq (sq (cv (fun e H => Ih call e.x0.x6 e.x0.x9 H) se) se) se)) se))
theorem Ui : SO n86 S86 :=
 st2 21 [.tmp 4] fun call => (cv _ se)
theorem Uh : SO n91 S91 :=
 st2 45 [.tmp 4, .tmp 5] fun call => (cv _ (sq (sq se (sq se (sq (sq (cv (fun e H => Ib call e.x0.x2 e.x0.x3 e.x0.x9 e.x0.x12 H) (sq (sq (cv (fun e H => Ic call e.x0.x2 e.x0.x3 e.x0.x14 e.x0.x17 H) (sq (sq (cv (fun e H => Ie call e.x0.x2 e.x0.x3 e.x0.x19 e.x1.x5 H) (sq (sq (cv (fun e H => Ig call e.x0.x3 e.x1.x7 e.x1.x16 H) se) se) se)) se) se)) se) se)) se) se))) se))
theorem Uf : SO n95 S95 :=
 st3 109 [.tmp 6] fun call => (cv _ (sq (sq (sq (sq (sq (sq (sq (sq (sq (sq se (sq (sq (cv (fun e H => I9 call e.x0.x10 e.x5.x0 e.x5.x2 H) (sq (sq (cv (fun e H => Ia call e.x5.x4 e.x5.x7 H) se) se) se)) se) se)) (sq (cn (sq se (sq (sq (cv (fun e H => yj call e.x0.x7 e.x0.x10 e.x4.x5 e.x4.x6 H) (sq (sq (cv (fun e H => I1 call e.x0.x7 e.x0.x10 e.x4.x5 e.x4.x7 H) (sq (sq (cv (fun e H => I2 call e.x0.x7 e.x4.x9 e.x4.x10 H) (sq (sq (cv (fun e H => I3 call e.x0.x7 e.x4.x9 e.x4.x10 e.x4.x11 H) (sq (sq (cv (fun e H => I4 call e.x4.x9 e.x4.x10 e.x4.x11 e.x4.x12 H) (sq (sq (cv (fun e H => I5 call e.x4.x9 e.x4.x10 e.x4.x11 e.x4.x13 H) (sq (sq (cv (fun e H => I6 call e.x4.x9 e.x4.x10 e.x4.x11 e.x4.x14 H) (sq (sq (cv (fun e H => I7 call e.x4.x9 e.x4.x15 H) (sq (sq (cv (fun e H => I8 call e.x4.x9 e.x4.x16 H) se) se) se)) se) se)) se) se)) se) se)) se) se)) se) se)) se) se)) se) se)) se) se)) se) se)) se) se) (sq se (sq (sq (cv (fun e H => yi call e.x0.x1 e.x0.x2 e.x0.x7 e.x0.x8 e.x3.x1 e.x3.x8 H) se) se) se))) (sq se (sq (sq (cv (fun e H => yf call e.x0.x1 e.x0.x2 e.x0.x3 e.x0.x7 e.x0.x8 e.x2.x0 e.x2.x3 H) (sq (sq (cv (fun e H => yg call e.x0.x1 e.x0.x2 e.x0.x3 e.x0.x7 e.x0.x8 e.x2.x5 e.x2.x8 H) (sq (sq (cv (fun e H => yh call e.x0.x1 e.x0.x2 e.x0.x3 e.x0.x7 e.x0.x8 e.x2.x10 e.x2.x13 H) se) se) se)) se) se)) se) se))) (sq se (sq (sq (cv (fun e H => yd call e.x0.x1 e.x0.x2 e.x0.x3 e.x0.x7 e.x0.x8 e.x1.x7 e.x1.x10 H) (sq (sq (cv (fun e H => ye call e.x0.x1 e.x0.x2 e.x0.x3 e.x0.x7 e.x0.x8 e.x1.x12 e.x1.x15 H) se) se) se)) se) se))) (sq (sq (cv (fun e H => yc call e.x0.x1 e.x0.x2 e.x0.x3 e.x0.x7 e.x1.x0 e.x1.x3 H) se) se) se)) se) se))
theorem Ue : SO n97 S97 :=
 st1 7 [.tmp 2] fun call => (cv _ se)
theorem Ud : SO n98 S98 :=
 st2 54 [.tmp 4, .tmp 5] fun call => (cv _ se)
theorem Qy : SO a1c a6r :=
 st1 8 [.tmp 2] fun call => (cv _ se)
theorem Qx : SO SK a6q :=
 st2 9 [.tmp 4] fun call => (cv _ se)
theorem Qw : SO a1b a6p :=
 st2 81 [.tmp 4] fun call => (cv _ se)
theorem Qv : SO a1a a6o :=
 st2 26 [.tmp 4] fun call => (cv _ se)
theorem Qu : SO SJ a6m :=
 st2 20 [.tmp 4] fun call => (cv _ se)
theorem Qt : SO LV a6l :=
 st2 11 [.tmp 4] fun call => (cv _ se)
theorem Qr : SO H5 a6k :=
 st2 68 [.cell (.some 5) 4, .tmp 5] fun call => (cv _ (sq (sq (sq se (sq se (sq (sq (cv (fun e H => sZ call e.x0.x3 e.x0.x4 e.x0.x6 e.x0.x11 e.x0.x12 H) (sq (sq (cv (fun e H => ta call e.x0.x3 e.x0.x4 e.x0.x6 e.x0.x11 e.x0.x13 H) (sq (sq (cv (fun e H => te call e.x0.x3 e.x0.x4 e.x0.x6 e.x0.x11 e.x0.x14 H) (sq (sq (cv (fun e H => tf call e.x0.x3 e.x0.x4 e.x0.x6 e.x0.x11 e.x0.x15 H) (sq (sq (cv (fun e H => tg call e.x0.x3 e.x0.x4 e.x0.x6 e.x0.x11 e.x0.x16 H) (sq (sq (cv (fun e H => th call e.x0.x3 e.x0.x4 e.x0.x6 e.x0.x18 e.x0.x19 H) (sq (sq (cv (fun e H => ti call e.x0.x3 e.x0.x4 e.x0.x6 e.x0.x18 e.x1.x0 H) (sq (sq (cv (fun e H => tj call e.x0.x3 e.x0.x4 e.x0.x6 e.x0.x18 e.x1.x1 H) (sq (sq (cv (fun e H => tk call e.x0.x3 e.x0.x4 e.x0.x6 e.x0.x18 e.x1.x2 H) (sq (sq (cv (fun e H => tp call e.x0.x3 e.x0.x4 e.x0.x6 e.x0.x18 e.x1.x2 e.x1.x3 H) (sq (sq (cv (fun e H => tq call e.x0.x3 e.x0.x4 e.x0.x6 e.x0.x18 e.x1.x2 e.x1.x4 H) (sq (sq (cv (fun e H => tt call e.x0.x3 e.x0.x4 e.x0.x6 e.x0.x18 e.x1.x2 e.x1.x5 H) (sq (sq (cv (fun e H => tv call e.x0.x3 e.x0.x4 e.x0.x6 e.x0.x18 e.x1.x6 H) (sq (sq (cv (fun e H => tw call e.x0.x3 e.x0.x4 e.x0.x6 e.x1.x8 e.x1.x9 H) (sq (sq (cv (fun e H => tz call e.x0.x3 e.x0.x4 e.x0.x6 e.x1.x8 e.x1.x10 H) (sq (sq (cv (fun e H => tA call e.x0.x3 e.x0.x4 e.x0.x6 e.x1.x8 e.x1.x11 H) (sq (sq (cv (fun e H => tB call e.x0.x3 e.x0.x4 e.x0.x6 e.x1.x8 e.x1.x12 H) (sq (sq (cv (fun e H => tC call e.x0.x3 e.x0.x4 e.x0.x6 e.x1.x8 e.x1.x13 H) (sq (sq (cv (fun e H => tD call e.x0.x3 e.x0.x4 e.x0.x6 e.x1.x15 e.x1.x16 H) (sq (sq (cv (fun e H => tF call e.x0.x3 e.x0.x4 e.x0.x6 e.x1.x15 e.x1.x17 H) (sq (sq (cv (fun e H => tG call e.x0.x3 e.x0.x4 e.x0.x6 e.x1.x15 e.x1.x18 H) (sq (sq (cv (fun e H => tH call e.x0.x3 e.x0.x4 e.x0.x6 e.x1.x15 e.x1.x19 H) (sq (sq (cv (fun e H => tI call e.x0.x3 e.x0.x4 e.x0.x6 e.x1.x15 e.x1.x19 e.x2.x0 H) (sq (sq (cv (fun e H => Ct call e.x0.x3 e.x0.x4 e.x0.x6 e.x1.x15 e.x1.x19 e.x2.x1 H) (sq (sq (cv (fun e H => Cu call e.x0.x3 e.x0.x4 e.x0.x6 e.x1.x15 e.x1.x19 e.x2.x1 e.x2.x2 H) (sq (sq (cv (fun e H => Cv call e.x0.x3 e.x0.x4 e.x0.x6 e.x1.x15 e.x1.x19 e.x2.x1 e.x2.x3 H) (sq (sq (cv (fun e H => Cw call e.x0.x3 e.x0.x4 e.x0.x6 e.x1.x15 e.x1.x19 e.x2.x1 e.x2.x4 H) (sq (sq (cv (fun e H => Cx call e.x0.x3 e.x0.x4 e.x0.x6 e.x1.x15 e.x1.x19 e.x2.x1 e.x2.x5 H) (sq (sq (cv (fun e H => Cy call e.x0.x3 e.x0.x4 e.x0.x6 e.x1.x15 e.x1.x19 e.x2.x6 H) (sq (sq (cv (fun e H => Cz call e.x0.x3 e.x0.x4 e.x0.x6 e.x1.x15 e.x1.x19 e.x2.x7 H) (sq (sq (cv (fun e H => CA call e.x0.x3 e.x0.x4 e.x0.x6 e.x1.x15 e.x1.x19 e.x2.x8 H) (sq (sq (cv (fun e H => CB call e.x0.x3 e.x0.x4 e.x0.x6 e.x1.x15 e.x1.x19 e.x2.x9 H) (sq (sq (cv (fun e H => CC call e.x0.x3 e.x0.x4 e.x0.x6 e.x1.x15 e.x2.x10 H) se) se) se)) se) se)) se) se)) se) se)) se) se)) se) se)) se) se)) se) se)) se) se)) se) se)) se) se)) se) se)) se) se)) se) se)) se) se)) se) se)) se) se)) se) se)) se) se)) se) se)) se) se)) se) se)) se) se)) se) se)) se) se)) se) se)) se) se)) se) se)) se) se)) se) se)) se) se)) se) se)) se) se))) se) se))
theorem Qq : SO H4 a6j :=
 st1 14 [.cell (.some 3) 2, .tmp 3] fun call => (cv _ se)
theorem Qp : SO a19 a6i :=
 st2 23 [.tmp 4] fun call => (cv _ (sq (sq se (sq (sq (cv (fun e H => Cn call e.x0.x0 e.x0.x1 e.x0.x7 e.x0.x9 H) (sq (sq (cv (fun e H => Co call e.x0.x0 e.x0.x1 e.x0.x11 e.x0.x13 H) (sq (sq (cv (fun e H => Cp call e.x0.x1 e.x0.x15 e.x0.x18 H) (sq (sq (cv (fun e H => Cq call e.x0.x15 e.x0.x18 e.x1.x0 H) (sq (sq (cv (fun e H => Cr call e.x0.x15 e.x1.x1 H) se) se) se)) se) se)) se) se)) se) se)) se) se)) se))
theorem Qo : SO a18 a6h :=
 st1 8 [.tmp 2] fun call => (cv _ se)
theorem Qn : SO a17 a6g :=
 st1 98 [] fun call => (cv _ (sq (bl (sq (cn se (sq (cn se (sq (cn se (sq (cn se (sq (cn (sq (cv (fun e H => Cm call e.x0.x0 H) se) se) se) se)) se)) (sq (sq (cv (fun e H => Ch call e.x0.x0 e.x0.x2 e.x1.x7 e.x1.x9 H) (sq (sq (cv (fun e H => Ci call e.x0.x0 e.x0.x2 e.x1.x11 e.x1.x13 H) (sq (sq (cv (fun e H => Cj call e.x0.x0 e.x0.x2 e.x1.x15 e.x1.x17 H) se) se) se)) se) se)) se) se))) se)) (sq (sq (cv (fun e H => Cg call e.x0.x0 e.x0.x2 e.x0.x13 e.x0.x15 H) se) se) se))) se))
theorem Qm : SO a16 a6f :=
 st2 9 [.tmp 4] fun call => (cv _ se)
theorem Ql : SO a83 a6e :=
 st2 52 [.tmp 4] fun call => (cv _ se)
end Go.Proofs.YtcolbcpeialmhaaGreatDoor
