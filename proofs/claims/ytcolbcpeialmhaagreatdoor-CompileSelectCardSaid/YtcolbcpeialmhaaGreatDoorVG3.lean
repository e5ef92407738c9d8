/- They stand for their bodies. -/
import Derived.Test.YtcolbcpeialmhaaGreatDoorVE
import Derived.Test.YtcolbcpeialmhaaGreatDoorA2
import Derived.KernelRfl
namespace Go.Proofs.YtcolbcpeialmhaaGreatDoor
open Go.Ab
set_option maxRecDepth 100000
theorem O8 : SO a0c a43 :=
 st3 20 [] fun call => (cv _ (sq (bl (lp (fun n e H => J0 call n e.x0.x0 e.x0.x1 e.x0.x7 e.x0.x8 H) fun _ => cv _ se)) se))
theorem O7 : SO a7b a42 :=
 st2 21 [.tmp 4] fun call => (cv _ (sq (sq (sq se (sq (cn (sq (bl (lp (fun n e H => IZ call n e.x0.x0 e.x0.x5 e.x0.x9 e.x0.x10 H) fun _ => cv _ se)) se) se) se)) se) se))
theorem O6 : SO a7a a40 :=
 st2 20 [.cell (.some 7) 4] fun call => (cv _ (sq (sq se (sq se (sq (sq (cv (fun e H => zN call e.x0.x1 e.x0.x2 e.x0.x4 e.x0.x7 e.x0.x12 H) se) se) se))) se))
theorem O5 : SO a0a a3Z :=
 st1 8 [.tmp 2] fun call => (cv _ se)
theorem O4 : SO Sm a3Y :=
 st2 14 [] fun call => (cv _ (sq (bl (lp (fun n e H => W8 call n e.x0.x0 H) fun _ => cv _ se)) se))
theorem O2 : SO LL a3X :=
 st7 78 [.cell (.some 4) 14] fun call => (cv _ (sq (sq (sq (sq (sq (sq se (sq (sq (cv (fun e H => rZ call e.x0.x1 e.x0.x6 e.x0.x14 e.x0.x15 e.x0.x18 e.x3.x0 e.x3.x1 H) (sq (sq (cv (fun e H => sc call e.x0.x1 e.x0.x6 e.x0.x14 e.x0.x15 e.x0.x18 e.x3.x0 e.x3.x1 e.x3.x2 H) (sq (sq (cv (fun e H => zD call e.x0.x1 e.x0.x6 e.x0.x14 e.x0.x15 e.x0.x18 e.x3.x0 e.x3.x1 e.x3.x3 H) (sq (sq (cv (fun e H => zE call e.x0.x1 e.x0.x6 e.x0.x14 e.x0.x15 e.x0.x18 e.x3.x0 e.x3.x4 H) (sq (sq (cv (fun e H => zF call e.x0.x6 e.x0.x14 e.x0.x15 e.x0.x18 e.x3.x6 e.x3.x7 H) (sq (sq (cv (fun e H => zG call e.x0.x6 e.x0.x14 e.x0.x15 e.x0.x18 e.x3.x6 e.x3.x7 e.x3.x8 H) (sq (sq (cv (fun e H => zH call e.x0.x6 e.x0.x14 e.x0.x15 e.x0.x18 e.x3.x6 e.x3.x7 e.x3.x9 H) (sq (sq (cv (fun e H => zI call e.x0.x6 e.x0.x14 e.x0.x15 e.x3.x6 e.x3.x7 e.x3.x9 e.x3.x10 H) (sq (sq (cv (fun e H => zJ call e.x0.x14 e.x0.x15 e.x3.x6 e.x3.x7 e.x3.x9 e.x3.x10 e.x3.x11 H) (sq (sq (cv (fun e H => zK call e.x0.x14 e.x0.x15 e.x3.x6 e.x3.x7 e.x3.x9 e.x3.x12 H) (sq (sq (cv (fun e H => zL call e.x0.x14 e.x0.x15 e.x3.x6 e.x3.x7 e.x3.x9 e.x3.x13 H) (sq (sq (cv (fun e H => zM call e.x0.x14 e.x0.x15 e.x3.x6 e.x3.x14 H) se) se) se)) se) se)) se) se)) se) se)) se) se)) se) se)) se) se)) se) se)) se) se)) se) se)) se) se)) se) se)) se) se) (sq (cn (sq se (sq (sq (cv (fun e H => rY call e.x0.x14 e.x0.x15 e.x1.x15 e.x1.x19 H) se) se) se)) se) (sq (sq (cv (fun e H => rX call e.x0.x0 e.x0.x1 e.x0.x2 e.x0.x6 e.x0.x14 e.x0.x15 e.x1.x7 e.x1.x9 H) se) se) se))) se) se))
theorem O1 : SO GS a3W :=
 st2 21 [.tmp 4] fun call => (cv _ (sq (sq (sq se (sq (sq (cv (fun e H => zC call e.x0.x15 e.x0.x19 H) se) se) se)) se) se))
theorem O0 : SO vy a3V :=
 st2 18 [.tmp 4] fun call => (cv _ se)
theorem NZ : SO vx a3U :=
 st2 18 [.tmp 4] fun call => (cv _ se)
theorem NY : SO xi a3T :=
 st3 18 [.tmp 6, .tmp 7] fun call => (cv _ se)
theorem NX : SO Sk a3S :=
 st1 28 [.cell (.some 3) 2, .tmp 3] fun call => (cv _ (sq (sq (sq (sq se (sq se (sq (sq (cv (fun e H => zB call e.x0.x2 e.x0.x5 e.x1.x1 e.x1.x4 H) se) se) se))) se) se) se))
theorem NW : SO LK a3R :=
 st1 11 [.tmp 2] fun call => (cv _ (sq (sq se (sq se (sq (sq (cv (fun e H => zA call e.x0.x0 e.x0.x5 e.x0.x7 H) se) se) se))) se))
theorem NV : SO Sj a3Q :=
 st2 25 [.cell (.some 3) 4, .tmp 5] fun call => (cv _ (sq (sq se (sq se (sq (sq (cv (fun e H => zz call e.x0.x0 e.x0.x1 e.x0.x4 e.x0.x8 e.x0.x15 H) se) se) se))) se))
theorem NU : SO a09 a3P :=
 st3 47 [.tmp 6] fun call => (cv _ (sq (sq (sq se (sq (bl (sq (cv (fun e H => zx call e.x0.x1 e.x0.x3 e.x1.x0 e.x1.x1 H) (cn se (sq (cn se (sq (cn (sq se (sq (sq (cv (fun e H => zy call e.x2.x3 e.x2.x5 H) se) se) se)) se) se)) se))) se)) se)) (sq se (sq (sq (cv (fun e H => zv call e.x0.x1 e.x0.x2 e.x0.x3 e.x0.x9 e.x0.x11 H) (sq (sq (cv (fun e H => zw call e.x0.x1 e.x0.x3 e.x0.x13 e.x0.x17 H) se) se) se)) se) se))) se))
theorem NT : SO Si a3O :=
 st2 32 [.tmp 4] fun call => (cv _ (sq (sq (sq se (sq se (sq (sq (cv (fun e H => zu call e.x0.x5 e.x0.x6 e.x0.x15 e.x1.x2 H) se) se) se))) se) se))
theorem NS : SO a08 a3N :=
 st2 14 [] fun call => (cv _ se)
theorem NR : SO Sh a3M :=
 st2 16 [.tmp 4] fun call => (cv _ (sq (sq se (sq (sq (cv (fun e H => zt call e.x0.x7 e.x0.x14 H) se) se) se)) se))
theorem NQ : SO a07 a3L :=
 st2 47 [.tmp 4] fun call => (cv _ se)
theorem NO : SO a06 a3K :=
 st1 35 [.tmp 2] fun call => (cv _ se)
theorem NN : SO GR a3J :=
 st3 31 [] fun call => (cv _ (sq (sq se (sq (sq (cv (fun e H => zq call e.x0.x1 e.x0.x2 e.x0.x6 e.x0.x11 e.x0.x13 H) (sq (sq (cv (fun e H => zr call e.x0.x1 e.x0.x2 e.x0.x6 e.x0.x15 e.x1.x2 H) se) se) se)) se) se)) se))
theorem NM : SO a05 a3I :=
 st2 9 [.tmp 4] fun call => (cv _ se)
theorem NL : SO a04 a3H :=
 st2 9 [.tmp 4] fun call => (cv _ se)
theorem NK : SO a03 a3G :=
 st2 9 [.tmp 4] fun call => (cv _ se)
theorem NJ : SO a02 a3F :=
 st4 39 [.tmp 8] fun call => (cv _ se)
theorem NI : SO LJ a3E :=
 st2 51 [.cell (.some 3) 4, .cell (.some 3) 5, .tmp 6] fun call => (cv _ se)
theorem NH : SO vw a3D :=
 st1 7 [.tmp 2] fun call => (cv _ se)
theorem NG : SO a01 a3C :=
 st1 29 [.tmp 2] fun call => (cv _ (sq (sq (cv (fun e H => zp call e.x0.x0 H) se) se) se))
theorem NF : SO a00 a3B :=
 st2 9 [] fun call => (cv _ se)
theorem ND : SO ZZ a3A :=
 st2 9 [] fun call => (cv _ se)
theorem NC : SO Sg a3z :=
 st2 31 [.tmp 4, .tmp 5] fun call => (cv _ (sq (sq (sq se (sq se (sq (sq (cv (fun e H => zo call e.x0.x0 e.x0.x6 e.x0.x7 e.x0.x19 e.x1.x1 H) se) se) se))) se) se))
theorem NB : SO ZY a3y :=
 st1 21 [.tmp 2, .tmp 3] fun call => (cv _ se)
theorem NA : SO LI a3x :=
 st4 19 [.tmp 8] fun call => (cv _ se)
theorem Nz : SO LH a3w :=
 st4 29 [.tmp 8] fun call => (cv _ se)
theorem Ny : SO vu a3v :=
 st4 16 [] fun call => (cv _ se)
theorem Nx : SO ZX a3u :=
 st6 45 [] fun call => (cv _ (sq (cv (fun e H => zn call e.x0.x0 e.x0.x1 e.x0.x2 e.x0.x3 H) se) se))
theorem Nw : SO Sf a3t :=
 st4 45 [.tmp 8] fun call => (cv _ (sq (sq (sq se (bl (sq (cn se (sq se (sq (sq (cv (fun e H => zm call e.x1.x18 e.x2.x3 H) se) se) se))) (sq (sq (cv (fun e H => zk call e.x0.x2 e.x0.x3 e.x0.x9 e.x0.x10 e.x1.x2 e.x1.x5 H) (sq (sq (cv (fun e H => zl call e.x0.x2 e.x0.x9 e.x1.x7 e.x1.x13 H) se) se) se)) se) se)))) se) se))
theorem Nv : SO qR a3s :=
 st3 21 [.tmp 6] fun call => (cv _ (sq (sq (sq se (sq (sq (cv (fun e H => zj call e.x0.x16 e.x0.x19 H) se) se) se)) se) se))
theorem Nt : SO ZW a3r :=
 st2 11 [.tmp 4] fun call => (cv _ se)
theorem Ns : SO ZV a3q :=
 st4 64 [.tmp 8] fun call => (cv _ (sq (sq (sq (sq (cv (fun e H => zi call e.x0.x0 e.x0.x1 e.x0.x2 e.x0.x9 H) se) se) se) (sq se (sq (sq (cv (fun e H => zh call e.x0.x0 e.x0.x1 e.x0.x2 e.x0.x3 e.x0.x15 e.x1.x2 H) se) se) se))) se))
theorem Nr : SO vt a3p :=
 st3 20 [.tmp 6] fun call => (cv _ se)
theorem Nq : SO xg a3o :=
 st2 25 [.tmp 4, .tmp 5] fun call => (cv _ se)
theorem Np : SO ZU a3m :=
 st3 15 [.tmp 4] fun call => (cv _ se)
theorem Nn : SO a72 a3l :=
 st5 35 [.tmp 10] fun call => (cv _ (sq (sq se (sq (bl (lp (fun n e H => IV call n e.x0.x0 e.x0.x2 e.x0.x3 e.x0.x6 e.x0.x12 e.x0.x13 H) fun _ => cv _ se)) se)) se))
theorem Nm : SO Se a3k :=
 st1 13 [.cell (.some 4) 2] fun call => (cv _ se)
theorem Nl : SO a71 a3j :=
 st1 28 [.cell (.some 4) 2] fun call => (cv _ (sq (sq (sq (sq (cv (fun e H => zg call e.x0.x0 e.x0.x2 e.x0.x3 H) se) se) se) se) se))
theorem Nk : SO a70 a3i :=
 st1 33 [.cell (.some 4) 2] fun call => (cv _ (sq (sq (sq (cv (fun e H => IU call e.x0.x2 e.x0.x3 H) se) (sq (bl (lp (fun n e H => IT call n e.x0.x2 e.x0.x3 e.x0.x16 e.x0.x17 e.x0.x18 H) fun _ => cv _ se)) se)) se) se))
theorem Nj : SO ZT a3h :=
 st3 63 [] fun call => (cv _ se)
theorem Ni : SO ZS a3g :=
 st1 30 [.tmp 2] fun call => (cv _ (sq (sq se (sq (bl (sq (cn se (sq (cn se (sq (cn se (sq (cn se (sq (cn se (sq (cn se (sq (cn se (sq (cn se (sq (cn se (sq (cn se (sq (cv (fun e H => ze call e.x0.x3 e.x1.x4 H) (cn se (sq (cv (fun e H => zf call e.x1.x7 H) se) se))) se)) se)) se)) se)) se)) se)) se)) se)) se)) se)) se)) se)) se))
theorem Nh : SO ZR a3f :=
 st2 8 [.tmp 3] fun call => (cv _ se)
theorem Ng : SO ZQ a3e :=
 st3 48 [.tmp 6] fun call => (cv _ (sq (sq se (sq (bl (lp (fun n e H => oY call n e.x0.x0 e.x0.x1 e.x0.x10 e.x0.x11 e.x0.x12 H) fun n0 => cv _ (sq (sq (sq se (bl (sq (sq (sq se (sq (sq (cv (fun e H => zb call (oY call n0) e.x0.x0 e.x0.x1 e.x0.x8 e.x0.x9 e.x0.x10 e.x0.x11 e.x0.x12 e.x1.x7 e.x1.x15 H) (sq (sq (cv (fun e H => zc call (oY call n0) e.x0.x0 e.x0.x1 e.x0.x10 e.x0.x11 e.x0.x12 e.x1.x7 e.x1.x15 e.x2.x4 H) (sq (sq (cv (fun e H => zd call (oY call n0) e.x0.x0 e.x0.x1 e.x0.x10 e.x0.x11 e.x0.x12 e.x1.x7 e.x2.x5 H) se) se) se)) se) se)) se) se)) se) se))) se) se))) se)) se))
theorem Nf : SO a6Y a3d :=
 st1 5 [.tmp 2] fun call => (cv _ se)
theorem Nc : SO a6X a3c :=
 st3 49 [] fun call => (cv _ (sq (bl (lp (fun n e H => bu call n e.x0.x0 e.x0.x1 e.x0.x2 e.x0.x6 H) fun n0 => cv _ (sq (sq (cv (fun e H => IS call (bu call n0) e.x0.x0 e.x0.x1 e.x0.x2 e.x0.x6 H) se) (bl (sq (bl (lp (fun n e H => dP call (bu call n0) n e.x0.x0 e.x0.x1 e.x0.x2 e.x0.x6 e.x0.x7 H) fun n1 => cv _ (sq se (sq se (sq (sq (cv (fun e H => rU call (bu call n0) (dP call (bu call n0) n1) e.x0.x0 e.x0.x1 e.x0.x2 e.x0.x6 e.x0.x7 e.x0.x19 e.x1.x0 H) (sq (sq (cv (fun e H => rV call (bu call n0) (dP call (bu call n0) n1) e.x0.x0 e.x0.x1 e.x0.x2 e.x0.x6 e.x0.x7 e.x0.x19 e.x1.x0 e.x1.x1 H) (sq (sq (cv (fun e H => rW call (bu call n0) (dP call (bu call n0) n1) e.x0.x0 e.x0.x1 e.x0.x2 e.x0.x6 e.x0.x7 e.x0.x19 e.x1.x2 H) (sq (sq (cv (fun e H => yV call (bu call n0) (dP call (bu call n0) n1) e.x0.x0 e.x0.x1 e.x0.x2 e.x0.x6 e.x0.x7 e.x0.x19 e.x1.x3 H) (sq (sq (cv (fun e H => yW call (bu call n0) (dP call (bu call n0) n1) e.x0.x0 e.x0.x1 e.x0.x2 e.x0.x6 e.x0.x7 e.x0.x19 e.x1.x3 e.x1.x4 H) (sq (sq (cv (fun e H => yX call (bu call n0) (dP call (bu call n0) n1) e.x0.x0 e.x0.x1 e.x0.x2 e.x0.x6 e.x0.x7 e.x0.x19 e.x1.x3 e.x1.x4 e.x1.x5 H) (sq (sq (cv (fun e H => yY call (bu call n0) (dP call (bu call n0) n1) e.x0.x0 e.x0.x1 e.x0.x2 e.x0.x6 e.x0.x7 e.x0.x19 e.x1.x3 e.x1.x4 e.x1.x6 H) (sq (sq (cv (fun e H => yZ call (bu call n0) (dP call (bu call n0) n1) e.x0.x0 e.x0.x1 e.x0.x2 e.x0.x6 e.x0.x7 e.x0.x19 e.x1.x3 e.x1.x7 H) (sq (sq (cv (fun e H => z1 call (bu call n0) (dP call (bu call n0) n1) e.x0.x0 e.x0.x1 e.x0.x2 e.x0.x6 e.x0.x7 e.x0.x19 e.x1.x3 e.x1.x8 H) (sq (sq (cv (fun e H => z8 call (bu call n0) (dP call (bu call n0) n1) e.x0.x0 e.x0.x1 e.x0.x2 e.x0.x6 e.x0.x7 e.x0.x19 e.x1.x9 H) se) se) se)) se) se)) se) se)) se) se)) se) se)) se) se)) se) se)) se) se)) se) se)) se) se))))) se))) se))) se))
theorem Nb : SO ZP a3b :=
 st1 25 [.tmp 2] fun call => (cv _ (sq (sq (cv (fun e H => yS call e.x0.x0 e.x0.x2 H) (sq (cv (fun e H => yT call e.x0.x0 e.x0.x2 H) (sq (cv (fun e H => yU call e.x0.x0 e.x0.x2 H) se) se)) se)) se) se))
theorem Na : SO Sc a3a :=
 st3 38 [.tmp 6] fun call => (cv _ (sq (sq (sq se (sq se (sq (sq (cv (fun e H => yQ call e.x0.x0 e.x0.x1 e.x0.x2 e.x0.x7 e.x0.x17 e.x0.x19 H) (sq (sq (cv (fun e H => yR call e.x0.x0 e.x0.x1 e.x0.x2 e.x1.x1 e.x1.x8 H) se) se) se)) se) se))) se) se))
theorem N9 : SO LG a39 :=
 st3 18 [.tmp 6] fun call => (cv _ se)
theorem N8 : SO Sb a38 :=
 st1 31 [.tmp 2] fun call => (cv _ (sq (sq se (sq (sq (cv (fun e H => yL call e.x0.x1 e.x0.x6 e.x0.x9 H) (sq (sq (cv (fun e H => yM call e.x0.x1 e.x0.x11 e.x0.x14 H) (sq (sq (cv (fun e H => yN call e.x0.x1 e.x0.x16 e.x0.x19 H) (sq (sq (cv (fun e H => yO call e.x0.x1 e.x1.x1 e.x1.x4 H) (sq (sq (cv (fun e H => yP call e.x1.x6 e.x1.x9 H) se) se) se)) se) se)) se) se)) se) se)) se) se)) se))
theorem N7 : SO Sa a37 :=
 st2 43 [.tmp 4, .tmp 5] fun call => (cv _ (sq (sq (sq (sq (sq se (sq se (sq (sq (cv (fun e H => yK call e.x0.x0 e.x0.x6 e.x0.x8 e.x0.x19 e.x1.x12 H) se) se) se))) se) se) se) se))
theorem N6 : SO ZO a34 :=
 st2 119 [.tmp 4, .tmp 5] fun call => (cv _ (sq (sq (sq (sq (sq (cv (fun e H => IQ call e.x0.x0 e.x0.x6 H) (sq se (sq (bl (lp (fun n e H => yJ call n e.x0.x0 e.x0.x6 e.x4.x14 e.x4.x15 e.x4.x16 H) fun n0 => cv _ (sq (sq (sq (cv (fun e H => yI call (yJ call n0) e.x0.x0 e.x0.x6 e.x4.x14 e.x4.x15 e.x4.x16 H) se) se) se) se))) se))) (sq (bl (lp (fun n e H => IP call n e.x0.x0 e.x0.x6 e.x0.x8 H) fun _ => cv _ se)) se)) (sq (bl (lp (fun n e H => oX call n e.x0.x0 e.x0.x6 e.x0.x19 e.x1.x0 H) fun n2 => cv _ (sq (sq (sq (cv (fun e H => yH call (oX call n2) e.x0.x0 e.x0.x6 e.x0.x19 e.x1.x0 H) se) (bl (sq (sq (sq (cv (fun e H => yF call (oX call n2) e.x0.x0 e.x0.x6 e.x0.x7 e.x0.x19 e.x1.x0 H) (sq se (sq (sq (cv (fun e H => yG call (oX call n2) e.x0.x0 e.x0.x6 e.x0.x7 e.x0.x19 e.x1.x0 e.x2.x9 e.x2.x18 H) se) se) se))) se) se) se))) se) se))) se)) se) se) se))
theorem N5 : SO S2 a31 :=
 st2 21 [.tmp 4] fun call => (cv _ (sq (sq se (sq (sq (cv (fun e H => yC call e.x0.x0 e.x0.x1 e.x0.x7 e.x0.x9 H) (sq (sq (cv (fun e H => yD call e.x0.x0 e.x0.x1 e.x0.x11 e.x0.x13 H) (sq (sq (cv (fun e H => yE call e.x0.x15 e.x0.x19 H) se) se) se)) se) se)) se) se)) se))
theorem N4 : SO LF a30 :=
 st1 7 [.tmp 2] fun call => (cv _ se)
set_option maxRecDepth 100000
theorem N3 : SO F0 a2Z :=
 st4 36 [.cell (.some 4) 8] fun call => (cv _ (sq (sq (sq (cv (fun e H => IN call e.x0.x8 e.x0.x9 H) se) (sq (bl (lp (fun n e H => yB call n e.x0.x0 e.x0.x1 e.x0.x2 e.x0.x3 e.x0.x8 e.x0.x9 e.x0.x10 H) fun n0 => cv _ (sq se (sq se (sq (sq (cv (fun e H => yA call (yB call n0) e.x0.x0 e.x0.x1 e.x0.x2 e.x0.x3 e.x0.x8 e.x0.x9 e.x0.x10 e.x0.x17 e.x1.x0 H) se) se) se))))) se)) se) se))
theorem N2 : SO ZN a2X :=
 st1 13 [.cell (.some 4) 2] fun call => (cv _ se)
theorem N1 : SO ZM a2W :=
 st2 25 [.tmp 4] fun call => (cv _ (sq (sq se (sq se (sq (sq (cv (fun e H => yz call e.x0.x0 e.x0.x1 e.x0.x9 e.x0.x12 H) se) se) se))) se))
theorem N0 : SO ZL a2V :=
 st1 17 [.tmp 2] fun call => (cv _ (sq (sq se (sq (bl (lp (fun n e H => yy call n e.x0.x0 e.x0.x4 H) fun n0 => cv _ (sq (sq (sq se (bl (sq (sq se (sq (sq (cv (fun e H => yx call (yy call n0) e.x0.x0 e.x0.x3 e.x0.x4 e.x0.x9 e.x0.x13 H) se) se) se)) se))) se) se))) se)) se))
theorem MZ : SO ZK a2U :=
 st1 6 [.tmp 2] fun call => (cv _ se)
theorem MY : SO S1 a2T :=
 st2 65 [.tmp 4, .tmp 5] fun call => (cv _ se)
theorem MX : SO S0 a2S :=
 st3 29 [.tmp 6, .tmp 7] fun call => (cv _ se)
theorem MW : SO ZJ a2R :=
 st1 8 [.cell (.some 4) 2] fun call => (cv _ se)
theorem MV : SO LD a2P :=
 st1 9 [.tmp 2] fun call => (cv _ se)
theorem MU : SO ZI a2O :=
 st1 6 [.tmp 2] fun call => (cv _ se)
theorem MT : SO ZH a2N :=
 st3 30 [.tmp 6] fun call => (cv _ (sq (sq se (sq se (sq (sq (cv (fun e H => yr call e.x0.x0 e.x0.x1 e.x0.x2 e.x0.x9 e.x0.x11 H) (sq (sq (cv (fun e H => yu call e.x0.x0 e.x0.x1 e.x0.x2 e.x0.x13 e.x0.x15 H) (sq (sq (cv (fun e H => yw call e.x0.x0 e.x0.x1 e.x0.x2 e.x0.x17 e.x1.x1 H) se) se) se)) se) se)) se) se))) se))
theorem MS : SO ZG a2M :=
 st3 35 [.tmp 6] fun call => (cv _ (sq (sq se (bl (sq se (sq (sq (cv (fun e H => yq call e.x0.x0 e.x0.x1 e.x0.x2 e.x0.x12 e.x0.x15 H) se) se) se)))) se))
theorem MR : SO ZF a2K :=
 st1 13 [.cell (.some 4) 2] fun call => (cv _ se)
theorem MQ : SO ZE a2J :=
 st1 14 [.tmp 2] fun call => (cv _ se)
theorem MP : SO ZD a2H :=
 st1 13 [.cell (.some 4) 2] fun call => (cv _ se)
theorem MO : SO a6T a2C :=
 st1 34 [.tmp 2] fun call => (cv _ (sq (sq (sq se (sq (bl (lp (fun n e H => rT call n e.x0.x0 e.x0.x3 e.x0.x9 e.x0.x10 e.x0.x11 H) fun n0 => cv _ (sq (sq (sq (cv (fun e H => yp call (rT call n0) e.x0.x0 e.x0.x3 e.x0.x9 e.x0.x10 e.x0.x11 H) se) (bl (sq (sq se (sq (sq (cv (fun e H => yo call (rT call n0) e.x0.x0 e.x0.x3 e.x0.x5 e.x0.x9 e.x0.x10 e.x0.x11 e.x1.x4 e.x1.x6 H) se) se) se)) se))) se) se))) se)) se) se))
theorem MN : SO a6S a2B :=
 st2 20 [.tmp 4] fun call => (cv _ se)
theorem MM : SO a6R a2A :=
 st1 8 [.tmp 2] fun call => (cv _ se)
theorem ML : SO ZC a2z :=
 st2 72 [.tmp 4] fun call => (cv _ (sq (sq (sq se (sq (bl (lp (fun n e H => j2 call n e.x0.x3 e.x0.x5 e.x0.x14 e.x0.x15 e.x0.x16 H) fun n0 => cv _ (sq (sq (sq (cv (fun e H => rS call (j2 call n0) e.x0.x3 e.x0.x5 e.x0.x14 e.x0.x15 e.x0.x16 H) se) (bl (sq (sq (sq (sq (sq (bl (lp (fun n e H => rR call (j2 call n0) n e.x0.x3 e.x0.x5 e.x0.x7 e.x0.x8 e.x0.x14 e.x0.x15 e.x0.x16 e.x2.x4 e.x2.x5 e.x2.x6 H) fun n1 => cv _ (sq (sq (sq (cv (fun e H => yn call (rR call (j2 call n0) n1) e.x0.x3 e.x0.x5 e.x0.x7 e.x0.x8 e.x0.x14 e.x0.x15 e.x0.x16 e.x2.x4 e.x2.x5 e.x2.x6 H) se) (bl (sq (sq se (sq (sq (cv (fun e H => ym call (rR call (j2 call n0) n1) e.x0.x3 e.x0.x5 e.x0.x7 e.x0.x8 e.x0.x10 e.x0.x14 e.x0.x15 e.x0.x16 e.x2.x4 e.x2.x5 e.x2.x6 e.x3.x1 e.x3.x3 H) se) se) se)) se))) se) se))) se) (sq se (sq (sq (cv (fun e H => yl call (j2 call n0) e.x0.x3 e.x0.x5 e.x0.x7 e.x0.x8 e.x0.x14 e.x0.x15 e.x0.x16 e.x1.x16 e.x2.x1 H) se) se) se))) se) se) se))) se) se))) se)) se) se))
end Go.Proofs.YtcolbcpeialmhaaGreatDoor
