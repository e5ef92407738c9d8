/- They stand for their bodies. -/
import Derived.Test.YtcolbcpeialmhaaGreatDoorVE
import Derived.Test.YtcolbcpeialmhaaGreatDoorA2
import Derived.KernelRfl
namespace Go.Proofs.YtcolbcpeialmhaaGreatDoor
open Go.Ab
set_option maxRecDepth 100000
theorem Pe : SO a7w a59 :=
 st3 23 [] fun call => (cv _ (sq se (sq (sq (cv (fun e H => B3 call e.x0.x0 e.x0.x1 e.x0.x2 e.x0.x8 e.x0.x12 H) se) se) se)))
theorem Pd : SO a7v a58 :=
 st1 11 [.tmp 2] fun call => (cv _ (sq (sq se (sq (bl (sq (cv (fun e H => j3 call e.x0.x4 H) se) se)) se)) se))
theorem Pc : SO a0H a56 :=
 st2 13 [.tmp 3] fun call => (cv _ (sq (sq se (sq (sq (cv (fun e H => B2 call e.x0.x6 e.x0.x11 H) se) se) se)) se))
theorem Pb : SO a0G a55 :=
 st1 11 [] fun call => (cv _ se)
theorem Pa : SO a0F a54 :=
 st1 61 [.tmp 2] fun call => (cv _ (sq (sq (sq se (sq (bl (lp (fun n e H => B1 call n e.x0.x0 e.x0.x3 H) fun n0 => cv _ (sq (sq (cv (fun e H => Jd call (B1 call n0) e.x0.x0 e.x0.x3 H) se) (bl (sq (cn (sq (sq (cv (fun e H => Jc call e.x0.x0 e.x0.x3 H) se) (sq (bl (lp (fun n e H => B0 call n e.x0.x0 e.x0.x3 e.x0.x4 e.x0.x5 H) fun n1 => cv _ (sq (sq (cv (fun e H => AZ call (B0 call n1) e.x0.x0 e.x0.x3 e.x0.x4 e.x0.x5 H) se) se) se))) se)) se) se) se))) se))) se)) se) se))
theorem P9 : SO Sw a52 :=
 st2 19 [.tmp 4] fun call => (cv _ (sq (sq se (sq (bl (lp (fun n e H => Jb call n e.x0.x0 e.x0.x1 e.x0.x7 e.x0.x8 H) fun _ => cv _ se)) se)) se))
theorem P8 : SO a0E a51 :=
 st1 4 [.tmp 2] fun call => (cv _ se)
theorem P6 : SO a0D a50 :=
 st4 116 [.tmp 8, .tmp 9] fun call => (cv _ (sq (sq (sq (sq (sq (sq se (sq (bl (lp (fun n e H => sM call n e.x0.x0 e.x0.x1 e.x0.x2 e.x0.x10 e.x0.x11 e.x4.x5 e.x4.x6 e.x4.x7 H) fun n0 => cv _ (sq (sq (sq (cv (fun e H => AY call (sM call n0) e.x0.x0 e.x0.x1 e.x0.x2 e.x0.x10 e.x0.x11 e.x4.x5 e.x4.x6 e.x4.x7 H) se) (bl (sq (sq (bl (sq (cv (fun e H => AX call (sM call n0) e.x0.x0 e.x0.x1 e.x0.x2 e.x0.x10 e.x0.x11 e.x0.x12 e.x0.x13 e.x4.x5 e.x4.x6 e.x4.x7 e.x4.x15 H) se) se)) se) se))) se) se))) se)) se) se) (sq se (sq (sq (cv (fun e H => sm call e.x0.x0 e.x0.x1 e.x0.x2 e.x0.x7 e.x2.x3 e.x2.x4 H) (sq (sq (cv (fun e H => su call e.x0.x0 e.x0.x1 e.x0.x2 e.x0.x7 e.x2.x3 e.x2.x5 H) (sq (sq (cv (fun e H => sw call e.x0.x0 e.x0.x1 e.x0.x2 e.x0.x7 e.x2.x3 e.x2.x6 H) (sq (sq (cv (fun e H => sx call e.x0.x0 e.x0.x1 e.x0.x2 e.x0.x7 e.x2.x8 e.x2.x9 H) (sq (sq (cv (fun e H => sy call e.x0.x0 e.x0.x1 e.x0.x2 e.x0.x7 e.x2.x8 e.x2.x10 H) (sq (sq (cv (fun e H => sA call e.x0.x0 e.x0.x1 e.x0.x2 e.x0.x7 e.x2.x8 e.x2.x10 e.x2.x11 H) (sq (sq (cv (fun e H => sB call e.x0.x0 e.x0.x1 e.x0.x2 e.x0.x7 e.x2.x8 e.x2.x10 e.x2.x12 H) (sq (sq (cv (fun e H => sC call e.x0.x0 e.x0.x1 e.x0.x2 e.x0.x7 e.x2.x8 e.x2.x10 e.x2.x13 H) (sq (sq (cv (fun e H => sD call e.x0.x0 e.x0.x1 e.x0.x2 e.x0.x7 e.x2.x8 e.x2.x10 e.x2.x14 H) (sq (sq (cv (fun e H => sE call e.x0.x0 e.x0.x1 e.x0.x2 e.x0.x7 e.x2.x8 e.x2.x10 e.x2.x15 H) (sq (sq (cv (fun e H => sF call e.x0.x0 e.x0.x1 e.x0.x2 e.x0.x7 e.x2.x8 e.x2.x10 e.x2.x16 H) (sq (sq (cv (fun e H => sG call e.x0.x0 e.x0.x1 e.x0.x2 e.x0.x7 e.x2.x8 e.x2.x17 H) (sq (sq (cv (fun e H => sH call e.x0.x0 e.x0.x1 e.x0.x2 e.x0.x7 e.x2.x19 e.x3.x0 H) (sq (sq (cv (fun e H => sI call e.x0.x0 e.x0.x1 e.x0.x2 e.x0.x7 e.x2.x19 e.x3.x1 H) (sq (sq (cv (fun e H => sJ call e.x0.x0 e.x0.x1 e.x0.x2 e.x0.x7 e.x2.x19 e.x3.x1 e.x3.x2 H) (sq (sq (cv (fun e H => sK call e.x0.x0 e.x0.x1 e.x0.x2 e.x0.x7 e.x2.x19 e.x3.x1 e.x3.x3 H) (sq (sq (cv (fun e H => sL call e.x0.x0 e.x0.x1 e.x0.x2 e.x0.x7 e.x2.x19 e.x3.x1 e.x3.x4 H) (sq (sq (cv (fun e H => AP call e.x0.x0 e.x0.x1 e.x0.x2 e.x0.x7 e.x2.x19 e.x3.x1 e.x3.x5 H) (sq (sq (cv (fun e H => AQ call e.x0.x0 e.x0.x1 e.x0.x2 e.x0.x7 e.x2.x19 e.x3.x1 e.x3.x6 H) (sq (sq (cv (fun e H => AR call e.x0.x0 e.x0.x1 e.x0.x2 e.x0.x7 e.x2.x19 e.x3.x1 e.x3.x7 H) (sq (sq (cv (fun e H => AS call e.x0.x0 e.x0.x1 e.x0.x2 e.x0.x7 e.x2.x19 e.x3.x1 e.x3.x7 e.x3.x8 H) (sq (sq (cv (fun e H => AT call e.x0.x0 e.x0.x1 e.x0.x2 e.x0.x7 e.x2.x19 e.x3.x1 e.x3.x7 e.x3.x9 H) (sq (sq (cv (fun e H => AU call e.x0.x0 e.x0.x1 e.x0.x2 e.x0.x7 e.x2.x19 e.x3.x1 e.x3.x10 H) (sq (sq (cv (fun e H => AW call e.x0.x0 e.x0.x1 e.x0.x2 e.x0.x7 e.x2.x19 e.x3.x11 H) se) se) se)) se) se)) se) se)) se) se)) se) se)) se) se)) se) se)) se) se)) se) se)) se) se)) se) se)) se) se)) se) se)) se) se)) se) se)) se) se)) se) se)) se) se)) se) se)) se) se)) se) se)) se) se)) se) se)) se) se))) se) se))
theorem P4 : SO a0C a4Z :=
 st4 72 [.tmp 8] fun call => (cv _ (sq (sq (sq se (bl (sq (cn se (sq (cn se (sq (cn se (sq se (sq (sq (cv (fun e H => AO call e.x0.x0 e.x0.x1 e.x0.x2 e.x0.x7 e.x0.x9 e.x2.x13 e.x2.x18 H) se) se) se))) (sq (sq (cv (fun e H => AF call e.x0.x0 e.x0.x1 e.x0.x2 e.x0.x7 e.x0.x9 e.x1.x17 e.x1.x18 H) (sq (sq (cv (fun e H => AG call e.x0.x0 e.x0.x1 e.x0.x2 e.x0.x7 e.x0.x9 e.x1.x17 e.x1.x18 e.x1.x19 H) (sq (sq (cv (fun e H => AH call e.x0.x0 e.x0.x1 e.x0.x2 e.x0.x7 e.x0.x9 e.x1.x17 e.x1.x18 e.x2.x0 H) (sq (sq (cv (fun e H => AI call e.x0.x0 e.x0.x1 e.x0.x2 e.x0.x7 e.x0.x9 e.x1.x17 e.x1.x18 e.x2.x0 e.x2.x2 H) (sq (sq (cv (fun e H => AJ call e.x0.x0 e.x0.x1 e.x0.x2 e.x0.x7 e.x0.x9 e.x1.x17 e.x1.x18 e.x2.x0 e.x2.x2 e.x2.x3 H) (sq (sq (cv (fun e H => AK call e.x0.x0 e.x0.x1 e.x0.x2 e.x0.x7 e.x0.x9 e.x1.x17 e.x1.x18 e.x2.x0 e.x2.x2 e.x2.x3 e.x2.x4 H) (sq (sq (cv (fun e H => AL call e.x0.x0 e.x0.x1 e.x0.x2 e.x0.x7 e.x0.x9 e.x1.x17 e.x2.x1 e.x2.x2 e.x2.x3 e.x2.x4 H) (sq (sq (cv (fun e H => AM call e.x0.x0 e.x0.x1 e.x0.x2 e.x0.x7 e.x0.x9 e.x1.x17 e.x2.x1 e.x2.x5 H) (sq (sq (cv (fun e H => AN call e.x0.x0 e.x0.x1 e.x0.x2 e.x0.x7 e.x0.x9 e.x1.x17 e.x2.x6 H) se) se) se)) se) se)) se) se)) se) se)) se) se)) se) se)) se) se)) se) se)) se) se))) (sq (sq (cv (fun e H => sk call e.x0.x0 e.x0.x1 e.x0.x2 e.x0.x7 e.x0.x9 e.x1.x7 e.x1.x11 H) se) se) se))) (sq (sq (cv (fun e H => sj call e.x0.x0 e.x0.x1 e.x0.x2 e.x0.x7 e.x0.x9 e.x0.x18 e.x1.x1 H) se) se) se)))) se) se))
theorem P3 : SO a0B a4Y :=
 st1 8 [.tmp 2] fun call => (cv _ se)
theorem P2 : SO a0A a4X :=
 st2 11 [.tmp 4] fun call => (cv _ se)
theorem P1 : SO a0z a4W :=
 st1 25 [.tmp 2] fun call => (cv _ (sq (sq (cv (fun e H => J9 call e.x0.x0 H) (sq (sq se (sq (bl (lp (fun n e H => Ja call n e.x0.x0 e.x0.x3 e.x0.x4 H) fun _ => cv _ se)) se)) se)) se) se))
theorem P0 : SO Sv a4V :=
 st1 15 [.tmp 2] fun call => (cv _ (sq (sq se (sq (sq (cv (fun e H => AE call e.x0.x8 e.x0.x13 H) se) se) se)) se))
theorem OZ : SO a0y a4U :=
 st1 26 [.tmp 2, .tmp 3] fun call => (cv _ se)
theorem OX : SO a0x a4T :=
 st2 88 [.tmp 4] fun call => (cv _ (sq (sq (sq (sq (sq (sq (sq (sq (sq se (sq (bl (lp (fun n e H => si call n e.x0.x0 e.x0.x1 e.x0.x7 e.x0.x8 e.x0.x9 e.x2.x18 e.x2.x19 H) fun n0 => cv _ (sq (sq (sq (cv (fun e H => AD call (si call n0) e.x0.x0 e.x0.x1 e.x0.x7 e.x0.x8 e.x0.x9 e.x2.x18 e.x2.x19 H) se) (bl (sq (sq (sq se (sq (sq (cv (fun e H => AB call (si call n0) e.x0.x0 e.x0.x1 e.x0.x7 e.x0.x8 e.x0.x9 e.x0.x11 e.x2.x18 e.x2.x19 e.x3.x18 e.x4.x0 H) se) se) se)) se) se))) se) se))) se)) se) se) se) (sq se (sq (sq (cv (fun e H => sd call e.x0.x0 e.x0.x1 e.x0.x7 e.x1.x11 e.x1.x12 H) (sq (sq (cv (fun e H => sf call e.x0.x0 e.x0.x1 e.x0.x7 e.x1.x11 e.x1.x12 e.x1.x13 H) (sq (sq (cv (fun e H => sg call e.x0.x0 e.x0.x1 e.x0.x7 e.x1.x11 e.x1.x12 e.x1.x13 e.x1.x14 H) (sq (sq (cv (fun e H => sh call e.x0.x0 e.x0.x1 e.x0.x7 e.x1.x11 e.x1.x12 e.x1.x13 e.x1.x15 H) (sq (sq (cv (fun e H => Au call e.x0.x0 e.x0.x1 e.x0.x7 e.x1.x11 e.x1.x12 e.x1.x13 e.x1.x16 H) (sq (sq (cv (fun e H => Av call e.x0.x0 e.x0.x1 e.x0.x7 e.x1.x11 e.x1.x12 e.x1.x13 e.x1.x16 e.x1.x17 H) (sq (sq (cv (fun e H => Aw call e.x0.x0 e.x0.x1 e.x0.x7 e.x1.x11 e.x1.x12 e.x1.x13 e.x1.x16 e.x1.x17 e.x1.x18 H) (sq (sq (cv (fun e H => Ax call e.x0.x0 e.x0.x1 e.x0.x7 e.x1.x11 e.x1.x12 e.x1.x13 e.x1.x16 e.x1.x17 e.x1.x19 H) (sq (sq (cv (fun e H => Ay call e.x0.x0 e.x0.x1 e.x0.x7 e.x1.x11 e.x1.x12 e.x1.x13 e.x2.x0 H) (sq (sq (cv (fun e H => Az call e.x0.x0 e.x0.x1 e.x0.x7 e.x1.x11 e.x1.x12 e.x1.x13 e.x2.x1 H) (sq (sq (cv (fun e H => AA call e.x0.x0 e.x0.x1 e.x0.x7 e.x1.x11 e.x2.x2 H) se) se) se)) se) se)) se) se)) se) se)) se) se)) se) se)) se) se)) se) se)) se) se)) se) se)) se) se))) se) se) se) se))
theorem OW : SO Su a4S :=
 st2 18 [.tmp 4] fun call => (cv _ se)
theorem OV : SO lK a4R :=
 st2 17 [.tmp 4] fun call => (cv _ se)
theorem OU : SO LP a4Q :=
 st2 16 [] fun call => (cv _ se)
theorem OT : SO St a4P :=
 st1 5 [.tmp 2] fun call => (cv _ se)
theorem OS : SO Ss a4O :=
 st2 17 [.tmp 4] fun call => (cv _ se)
theorem OQ : SO kJ a4M :=
 st1 12 [.tmp 2] fun call => (cv _ (sq (sq se (sq se (sq (sq (cv (fun e H => As call e.x0.x0 e.x0.x5 e.x0.x7 H) se) se) se))) se))
theorem OP : SO vA a4L :=
 st2 17 [] fun call => (cv _ se)
theorem OO : SO F3 a4K :=
 st1 4 [.tmp 2] fun call => (cv _ se)
theorem ON : SO vz a4J :=
 st2 13 [] fun call => (cv _ se)
theorem OM : SO a0w a4I :=
 st3 82 [.tmp 6, .tmp 7] fun call => (cv _ se)
theorem OL : SO Sr a4H :=
 st3 26 [] fun call => (cv _ se)
theorem OK : SO Sq a4G :=
 st3 26 [.tmp 6] fun call => (cv _ (sq (sq (sq se (sq (bl (lp (fun n e H => J8 call n e.x0.x0 e.x0.x1 e.x0.x7 e.x0.x9 e.x0.x10 H) fun _ => cv _ se)) se)) se) se))
theorem OJ : SO a0u a4F :=
 st1 109 [] fun call => (cv _ (sq (sq (sq (sq (cv (fun e H => Ar call e.x0.x0 e.x0.x3 H) se) (sq (sq se (sq (sq (cv (fun e H => Aq call e.x0.x0 e.x0.x2 e.x0.x3 e.x0.x5 e.x4.x8 e.x4.x11 H) se) se) se)) se)) se) se) se))
theorem OI : SO LO a4E :=
 st4 109 [.tmp 8, .tmp 9] fun call => (cv _ (sq (sq (sq (sq (sq (cv (fun e H => Ap call e.x0.x0 e.x0.x2 e.x0.x10 e.x0.x11 e.x0.x12 H) se) se) se) se) (sq se (sq (sq (cv (fun e H => Am call e.x0.x0 e.x0.x1 e.x0.x2 e.x0.x3 e.x0.x18 e.x1.x5 H) (sq (sq (cv (fun e H => An call e.x0.x0 e.x0.x1 e.x0.x2 e.x0.x3 e.x1.x7 e.x1.x9 H) (sq (sq (cv (fun e H => Ao call e.x0.x0 e.x0.x1 e.x0.x2 e.x0.x3 e.x1.x11 e.x1.x13 H) se) se) se)) se) se)) se) se))) se))
theorem OH : SO a0s a4D :=
 st4 36 [.tmp 8, .tmp 9, .tmp 10] fun call => (cv _ (sq (sq se (sq se (sq (sq (cv (fun e H => Al call e.x0.x0 e.x0.x1 e.x0.x2 e.x0.x3 e.x0.x15 e.x0.x17 H) se) se) se))) se))
theorem OG : SO F2 a4C :=
 st2 13 [.tmp 4] fun call => (cv _ se)
theorem OF : SO a0r a4B :=
 st4 34 [.tmp 8, .tmp 9] fun call => (cv _ se)
theorem OE : SO a0q a4A :=
 st7 34 [.tmp 14] fun call => (cv _ (sq (sq (sq se (sq (sq (cv (fun e H => Ak call e.x0.x6 e.x1.x4 e.x1.x5 e.x1.x6 e.x1.x7 e.x1.x9 e.x1.x10 H) se) se) se)) se) se))
theorem OD : SO a0p a4z :=
 st2 26 [.tmp 4, .tmp 5] fun call => (cv _ (sq (sq (sq se (sq se (sq (sq (cv (fun e H => Aj call e.x0.x6 e.x0.x18 e.x1.x1 H) se) se) se))) se) se))
theorem OC : SO a0o a4y :=
 st1 59 [] fun call => (cv _ (sq (bl (sq se (sq (sq (cv (fun e H => Ai call e.x0.x0 e.x0.x2 e.x1.x6 e.x1.x16 H) se) se) se))) se))
theorem OB : SO Sp a4x :=
 st3 81 [.cell (.some 6) 6] fun call => (cv _ (sq (sq (sq (sq (sq (cv (fun e H => pd call e.x0.x6 e.x0.x11 H) se) se) se) se) se) se))
theorem OA : SO a0n a4w :=
 st2 47 [.tmp 4] fun call => (cv _ (sq (sq (sq se (sq (cn (sq se (sq (sq (cv (fun e H => Ah call e.x1.x3 e.x1.x12 H) se) se) se)) se) se)) se) se))
theorem Oz : SO a0m a4v :=
 st2 53 [] fun call => (cv _ se)
theorem Oy : SO a0l a4u :=
 st2 66 [.tmp 4, .tmp 5] fun call => (cv _ (sq (sq (sq (sq (sq (sq (cv (fun e H => Ag call e.x0.x0 e.x0.x1 e.x0.x6 e.x0.x7 e.x0.x8 H) se) se) se) se) se) (sq se (sq (sq (cv (fun e H => Af call e.x0.x0 e.x0.x1 e.x0.x15 e.x0.x19 H) se) se) se))) se))
theorem Ox : SO a0k a4t :=
 st3 30 [] fun call => (cv _ (sq (sq (cv (fun e H => Ad call e.x0.x2 e.x0.x3 H) (sq (cv (fun e H => Ae call e.x0.x3 H) se) se)) se) se))
theorem Ow : SO a0j a4s :=
 st2 16 [.tmp 4] fun call => (cv _ (sq (sq se (sq (sq (cv (fun e H => Ac call e.x0.x7 e.x0.x14 H) se) se) se)) se))
theorem Ov : SO a7o a4r :=
 st3 33 [.tmp 6] fun call => (cv _ (sq (sq se (sq (sq (cv (fun e H => A6 call e.x0.x0 e.x0.x1 e.x0.x2 e.x0.x9 e.x0.x12 H) (sq (sq (cv (fun e H => A7 call e.x0.x0 e.x0.x1 e.x0.x2 e.x0.x9 e.x0.x12 e.x0.x19 H) (sq (sq (cv (fun e H => A8 call e.x0.x0 e.x0.x1 e.x0.x2 e.x0.x9 e.x1.x1 H) (sq (sq (cv (fun e H => A9 call e.x0.x9 e.x1.x1 e.x1.x10 H) (sq (sq (cv (fun e H => Aa call e.x0.x9 e.x1.x11 H) se) se) se)) se) se)) se) se)) se) se)) se) se)) se))
theorem Ou : SO a7n a4q :=
 st2 15 [.tmp 4] fun call => (cv _ se)
theorem Ot : SO a0i a4p :=
 st2 27 [.cell (.some 7) 4, .tmp 5] fun call => (cv _ (sq (sq se (sq se (sq (sq (cv (fun e H => A5 call e.x0.x0 e.x0.x1 e.x0.x4 e.x0.x8 e.x0.x16 H) se) se) se))) se))
theorem Oq : SO a0h a4o :=
 st2 9 [.tmp 4] fun call => (cv _ se)
theorem Oo : SO a7l a4m :=
 st2 8 [.tmp 3] fun call => (cv _ se)
theorem On : SO a7k a4l :=
 st3 11 [.tmp 6] fun call => (cv _ se)
theorem Om : SO a7j a4k :=
 st1 49 [.tmp 2] fun call => (cv _ (sq (sq se (sq (bl (sq (cn se (sq (cn se (sq (cn (sq (sq (sq se (sq (bl (lp (fun n e H => J6 call n e.x0.x3 e.x1.x16 e.x1.x17 e.x1.x18 H) fun _ => cv _ se)) se)) se) se) se) se)) se)) se)) se)) se))
theorem Ol : SO a0g a4j :=
 st2 19 [.tmp 4] fun call => (cv _ (sq (sq se (sq (bl (lp (fun n e H => J5 call n e.x0.x0 e.x0.x1 e.x0.x7 e.x0.x8 H) fun _ => cv _ se)) se)) se))
theorem Oj : SO a7i a4i :=
 st1 16 [] fun call => (cv _ se)
theorem Oi : SO a0f a4h :=
 st2 15 [.tmp 4, .tmp 5] fun call => (cv _ se)
theorem Oh : SO GV a4g :=
 st1 5 [.cell (.some 4) 2] fun call => (cv _ se)
theorem Og : SO a7h a4e :=
 st2 73 [.cell (.some 4) 4] fun call => (cv _ (sq (sq (sq (sq (cv (fun e H => pc call e.x0.x0 e.x0.x3 e.x0.x4 e.x0.x5 e.x0.x6 e.x0.x7 e.x0.x8 H) (sq se (sq (sq (cv (fun e H => A4 call e.x0.x3 e.x0.x4 e.x0.x8 e.x2.x19 e.x3.x4 e.x3.x8 H) se) se) se))) (sq (bl (sq (cv (fun e H => eB call e.x0.x0 e.x0.x3 e.x0.x4 e.x0.x5 e.x0.x6 e.x0.x7 e.x0.x8 e.x1.x3 e.x1.x8 H) (cn se (sq (cv (fun e H => pa call e.x0.x0 e.x0.x3 e.x0.x4 e.x0.x5 e.x0.x6 e.x0.x7 e.x0.x8 e.x1.x3 e.x1.x19 H) (cn se (sq (cv (fun e H => A2 call e.x0.x0 e.x0.x3 e.x0.x4 e.x0.x5 e.x0.x6 e.x0.x7 e.x0.x8 e.x1.x3 e.x2.x5 H) (cn se (sq (cv (fun e H => A3 call e.x0.x0 e.x0.x3 e.x0.x4 e.x0.x5 e.x0.x6 e.x0.x7 e.x0.x8 e.x2.x9 H) se) se))) se))) se))) se)) se)) se) se) se))
theorem Of : SO a7f a4d :=
 st1 11 [.tmp 2] fun call => (cv _ se)
theorem Oe : SO a7e a4c :=
 st3 84 [] fun call => (cv _ (sq (sq (sq (sq (sq (sq (cv (fun e H => oZ call e.x0.x0 e.x0.x2 e.x0.x4 e.x0.x7 e.x0.x9 e.x0.x10 H) (sq (sq (cv (fun e H => A1 call e.x0.x0 e.x0.x7 e.x0.x9 H) se) se) se)) (sq (bl (sq (cv (fun e H => zZ call e.x0.x0 e.x0.x2 e.x0.x4 e.x0.x6 e.x0.x7 e.x0.x8 e.x0.x9 e.x0.x10 e.x2.x9 e.x2.x10 H) (cn se (sq (cv (fun e H => A0 call e.x0.x0 e.x0.x2 e.x0.x4 e.x0.x6 e.x0.x7 e.x0.x9 e.x0.x10 e.x2.x17 H) se) se))) se)) se)) se) se) se) (sq se (sq (sq (cv (fun e H => zY call e.x0.x0 e.x0.x2 e.x0.x4 e.x0.x14 e.x0.x17 H) se) se) se))) se))
theorem Od : SO LM a4b :=
 st3 12 [.tmp 6] fun call => (cv _ se)
theorem Oc : SO Sn a49 :=
 st2 27 [.tmp 4] fun call => (cv _ se)
theorem Ob : SO pq a48 :=
 st1 8 [.tmp 2] fun call => (cv _ se)
theorem Oa : SO a0e a47 :=
 st2 35 [.tmp 4] fun call => (cv _ (sq (sq (sq se (sq (sq se (sq (sq (cv (fun e H => zQ call e.x0.x0 e.x0.x3 e.x0.x18 e.x0.x19 H) (sq (sq (cv (fun e H => zR call e.x0.x0 e.x0.x3 e.x0.x18 e.x1.x0 H) (sq (sq (cv (fun e H => zS call e.x0.x0 e.x0.x3 e.x0.x18 e.x1.x1 H) (sq (sq (cv (fun e H => zT call e.x0.x0 e.x0.x3 e.x0.x18 e.x1.x2 H) (sq (sq (cv (fun e H => zU call e.x0.x0 e.x0.x3 e.x0.x18 e.x1.x2 e.x1.x3 H) (sq (sq (cv (fun e H => zV call e.x0.x0 e.x0.x3 e.x0.x18 e.x1.x2 e.x1.x4 H) (sq (sq (cv (fun e H => zW call e.x0.x0 e.x0.x3 e.x0.x18 e.x1.x5 H) (sq (sq (cv (fun e H => zX call e.x0.x0 e.x0.x3 e.x0.x18 e.x1.x6 H) se) se) se)) se) se)) se) se)) se) se)) se) se)) se) se)) se) se)) se) se)) se)) se) se))
theorem O9 : SO a0d a45 :=
 st2 63 [.tmp 4] fun call => (cv _ (sq (sq (sq (cv (fun e H => J2 call e.x0.x0 e.x0.x1 e.x0.x5 H) (sq (cv (fun e H => J3 call e.x0.x1 e.x0.x5 H) se) (sq (bl (lp (fun n e H => zP call n e.x0.x0 e.x0.x1 e.x0.x5 e.x0.x15 e.x0.x16 e.x0.x17 H) fun n0 => cv _ (sq (sq (sq se (bl (sq (sq (cv (fun e H => zO call (zP call n0) e.x0.x0 e.x0.x1 e.x0.x5 e.x0.x6 e.x0.x15 e.x0.x16 e.x0.x17 H) se) se) se))) se) se))) se))) (bl (lp (fun n e H => J1 call n e.x0.x0 e.x0.x1 e.x0.x5 H) fun _ => cv _ se))) se) se))
end Go.Proofs.YtcolbcpeialmhaaGreatDoor
