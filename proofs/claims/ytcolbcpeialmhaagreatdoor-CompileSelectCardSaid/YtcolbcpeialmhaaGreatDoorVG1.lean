/- They stand for their bodies. -/
import Derived.Test.YtcolbcpeialmhaaGreatDoorVF
import Derived.Test.YtcolbcpeialmhaaGreatDoorA2
import Derived.KernelRfl
namespace Go.Proofs.YtcolbcpeialmhaaGreatDoor
open Go.Ab
set_option maxRecDepth 100000
theorem Qk : SO SI a6d :=
 st2 8 [.tmp 4] fun call => (cv _ se)
theorem Qj : SO LU a6c :=
 st2 20 [.tmp 4] fun call => (cv _ (sq (sq (sq se (bl (lp (fun n e H => Cf call n e.x0.x0 e.x0.x1 e.x0.x5 H) fun n0 => cv _ (sq se (sq se (sq (sq (cv (fun e H => Ce call (Cf call n0) e.x0.x0 e.x0.x1 e.x0.x5 e.x0.x10 e.x0.x15 H) se) se) se)))))) se) se))
theorem Qi : SO SH a6b :=
 st1 21 [.tmp 2] fun call => (cv _ (sq (sq se (sq (sq (cv (fun e H => C9 call e.x0.x0 e.x0.x5 e.x0.x7 H) (sq (sq (cv (fun e H => Ca call e.x0.x0 e.x0.x9 e.x0.x12 H) (sq (sq (cv (fun e H => Cb call e.x0.x0 e.x0.x9 e.x0.x12 e.x0.x14 H) (sq (sq (cv (fun e H => Cc call e.x0.x0 e.x0.x9 e.x0.x15 H) (sq (sq (cv (fun e H => Cd call e.x0.x17 e.x0.x19 H) se) se) se)) se) se)) se) se)) se) se)) se) se)) se))
theorem Qh : SO a15 a6a :=
 st1 9 [.tmp 2] fun call => (cv _ (sq (sq se (sq (sq (cv (fun e H => C8 call e.x0.x5 e.x0.x7 H) se) se) se)) se))
theorem Qg : SO LS a69 :=
 st1 9 [.tmp 2] fun call => (cv _ (sq (sq se (sq (sq (cv (fun e H => C7 call e.x0.x5 e.x0.x7 H) se) se) se)) se))
theorem Qf : SO a14 a68 :=
 st0 2 [.tmp 0] fun call => (cv _ se)
theorem Qe : SO a7Z a67 :=
 st2 12 [.tmp 4] fun call => (cv _ se)
theorem Qd : SO a13 a66 :=
 st2 15 [.cell (.some 3) 4] fun call => (cv _ se)
theorem Qc : SO GZ a65 :=
 st2 27 [.tmp 4] fun call => (cv _ (sq (sq (sq se (sq (sq (cv (fun e H => C4 call e.x0.x1 e.x0.x5 e.x0.x11 e.x0.x14 H) (sq (sq (cv (fun e H => C5 call e.x0.x1 e.x0.x5 e.x0.x16 e.x0.x19 H) (sq (sq (cv (fun e H => C6 call e.x1.x1 e.x1.x5 H) se) se) se)) se) se)) se) se)) se) se))
theorem Qb : SO SG a62 :=
 st2 28 [] fun call => (cv _ se)
theorem Qa : SO SF a61 :=
 st2 56 [.tmp 4] fun call => (cv _ (sq (sq se (sq (sq (cn (sq se (sq (sq (cv (fun e H => C3 call e.x0.x16 e.x0.x19 H) se) se) se)) se) se) se)) se))
theorem Q9 : SO a7W a5Z :=
 st1 8 [.tmp 2] fun call => (cv _ se)
theorem Q8 : SO a7V a5Y :=
 st2 25 [] fun call => (cv _ (sq (bl (lp (fun n e H => sY call n e.x0.x0 e.x0.x6 e.x0.x7 e.x0.x8 H) fun n0 => cv _ (sq (sq (sq (cv (fun e H => C2 call (sY call n0) e.x0.x0 e.x0.x6 e.x0.x7 e.x0.x8 H) se) (bl (sq (sq se (sq (sq (cv (fun e H => C1 call (sY call n0) e.x0.x0 e.x0.x5 e.x0.x6 e.x0.x7 e.x0.x8 e.x0.x14 e.x0.x18 H) se) se) se)) se))) se) se))) se))
theorem Q7 : SO a12 a5X :=
 st3 68 [.tmp 6] fun call => (cv _ (sq (sq (sq (sq (cv (fun e H => l5 call e.x0.x4 e.x0.x7 H) se) (sq (sq (bl (sq (cn se (sq (cn se (sq (cv (fun e H => C0 call e.x0.x2 e.x0.x3 e.x0.x4 e.x0.x7 e.x0.x8 e.x1.x6 e.x2.x2 H) (cn se (sq (cn (sq (bl (lp (fun n e H => JB call n e.x0.x4 e.x0.x7 e.x2.x9 e.x2.x10 e.x2.x11 H) fun _ => cv _ se)) se) se) se))) se)) se)) se)) se) se)) se) (sq se (sq (sq (cv (fun e H => BZ call e.x0.x2 e.x0.x3 e.x0.x4 e.x0.x13 e.x0.x18 H) se) se) se))) se))
theorem Q6 : SO a7U a5W :=
 st2 26 [.tmp 4] fun call => (cv _ (sq (sq (sq se (sq (bl (lp (fun n e H => JA call n e.x0.x0 e.x0.x1 e.x0.x12 e.x0.x13 H) fun _ => cv _ se)) se)) se) se))
theorem Q5 : SO SE a5V :=
 st2 18 [.cell (.some 3) 4] fun call => (cv _ (sq (sq se (sq se (sq (sq (cv (fun e H => BY call e.x0.x0 e.x0.x1 e.x0.x4 e.x0.x7 e.x0.x11 H) se) se) se))) se))
theorem Q4 : SO a11 a5U :=
 st1 36 [.tmp 2] fun call => (cv _ (sq (sq se (sq (bl (sq (cv (fun e H => BS call e.x0.x1 e.x0.x4 e.x0.x5 H) (cn (sq se (sq (sq (cv (fun e H => BW call e.x0.x1 e.x0.x11 e.x0.x14 H) (sq (sq (cv (fun e H => BX call e.x0.x16 e.x1.x3 H) se) se) se)) se) se)) (sq (cv (fun e H => BU call e.x0.x1 e.x1.x5 H) (cn (sq se (sq (sq (cv (fun e H => BV call e.x1.x11 e.x1.x14 H) se) se) se)) se)) se))) se)) se)) se))
theorem PZ : SO LR a5T :=
 st2 42 [.tmp 4] fun call => (cv _ (sq (sq (sq (sq (cv (fun e H => Jz call e.x0.x0 e.x0.x5 H) se) (sq (bl (lp (fun n e H => BR call n e.x0.x0 e.x0.x1 e.x0.x5 e.x0.x6 H) fun n0 => cv _ (sq (sq (cv (fun e H => BQ call (BR call n0) e.x0.x0 e.x0.x1 e.x0.x5 e.x0.x6 H) se) se) se))) se)) se) se) se))
theorem PY : SO SD a5S :=
 st1 9 [.tmp 2] fun call => (cv _ se)
theorem PX : SO a10 a5R :=
 st3 11 [.tmp 4] fun call => (cv _ se)
theorem PW : SO SC a5Q :=
 st3 82 [.tmp 6] fun call => (cv _ (sq (sq (sq (sq (sq (sq (sq (sq (sq (cv (fun e H => Jy call e.x0.x11 e.x0.x12 H) (sq se (sq se (sq (sq (cv (fun e H => BP call e.x0.x11 e.x0.x12 e.x3.x14 e.x3.x16 H) se) se) se)))) (sq (bl (lp (fun n e H => Jw call n e.x0.x0 e.x0.x1 e.x0.x2 e.x0.x11 e.x0.x12 e.x2.x17 e.x2.x18 e.x2.x19 H) fun _ => cv _ se)) se)) se) se) (sq se (sq (sq (cv (fun e H => BN call e.x0.x0 e.x0.x1 e.x0.x2 e.x0.x7 e.x0.x8 e.x1.x17 e.x2.x0 H) (sq (sq (cv (fun e H => BO call e.x0.x0 e.x0.x1 e.x0.x2 e.x0.x7 e.x0.x8 e.x2.x2 e.x2.x5 H) se) se) se)) se) se))) se) se) se) se) se))
theorem PV : SO SB a5P :=
 st2 18 [.tmp 4, .tmp 5] fun call => (cv _ se)
theorem PU : SO a0Z a5O :=
 st3 35 [.tmp 6] fun call => (cv _ (sq (sq se (sq se (sq (sq (cv (fun e H => BL call e.x0.x0 e.x0.x1 e.x0.x2 e.x0.x10 e.x0.x16 H) (sq (sq (cv (fun e H => BM call e.x0.x0 e.x0.x1 e.x0.x2 e.x0.x18 e.x1.x3 H) se) se) se)) se) se))) se))
theorem PT : SO a0Y a5N :=
 st1 29 [.tmp 2] fun call => (cv _ (sq (sq (sq (sq se (sq (bl (lp (fun n e H => Jv call n e.x0.x0 e.x0.x19 e.x1.x0 e.x1.x1 H) fun _ => cv _ se)) se)) se) se) se))
theorem PS : SO a0X a5M :=
 st1 25 [] fun call => (cv _ (sq (bl (lp (fun n e H => Ju call n e.x0.x0 e.x0.x7 e.x0.x8 H) fun _ => cv _ se)) se))
theorem PR : SO a0W a5L :=
 st1 20 [.tmp 2] fun call => (cv _ (sq (sq se (sq (bl (lp (fun n e H => Jt call n e.x0.x0 e.x0.x8 e.x0.x9 e.x0.x10 H) fun _ => cv _ se)) se)) se))
theorem PQ : SO a0V a5J :=
 st1 32 [.tmp 2] fun call => (cv _ (sq (sq (sq se (sq (bl (lp (fun n e H => Js call n e.x0.x0 e.x0.x3 e.x0.x9 e.x0.x10 H) fun _ => cv _ se)) se)) se) se))
theorem PO : SO a0U a5I :=
 st1 19 [] fun call => (cv _ (sq (bl (lp (fun n e H => Jr call n e.x0.x0 e.x0.x7 e.x0.x8 H) fun _ => cv _ se)) se))
theorem PN : SO Sz a5H :=
 st2 19 [] fun call => (cv _ (sq (bl (lp (fun n e H => Jq call n e.x0.x0 e.x0.x6 e.x0.x7 e.x0.x8 H) fun _ => cv _ se)) se))
theorem PM : SO F6 a5G :=
 st1 20 [.tmp 2] fun call => (cv _ se)
theorem PL : SO a0T a5F :=
 st1 8 [.cell (.some 3) 2] fun call => (cv _ se)
theorem PK : SO a0S a5E :=
 st1 100 [] fun call => (cv _ se)
theorem PJ : SO a0R a5D :=
 st1 117 [] fun call => (cv _ se)
theorem PI : SO a0Q a5C :=
 st1 116 [] fun call => (cv _ (sq (sq (sq (sq (cv (fun e H => l4 call e.x0.x0 e.x0.x2 e.x0.x4 e.x0.x5 H) se) (sq (bl (sq (cn se (sq (cn (sq (sq se (sq se (sq (sq (cv (fun e H => BK call e.x0.x0 e.x0.x2 e.x0.x3 e.x0.x6 e.x2.x14 e.x2.x16 H) se) se) se))) se) se) se)) se)) se)) se) se) se))
theorem PH : SO a0P a5B :=
 st1 205 [] fun call => (cv _ (sq (sq (sq (sq (sq (cv (fun e H => fW call e.x0.x0 e.x0.x2 e.x0.x5 e.x0.x6 e.x0.x7 H) se) (sq (bl (sq (cn se (sq (cv (fun e H => BH call e.x0.x0 e.x0.x2 e.x0.x3 e.x0.x4 e.x0.x5 e.x0.x6 e.x0.x7 e.x1.x1 e.x2.x2 H) (cn se (sq (cn se (sq (cv (fun e H => BI call e.x0.x0 e.x0.x2 e.x0.x3 e.x0.x4 e.x0.x5 e.x0.x6 e.x0.x7 e.x1.x1 e.x4.x13 H) (cn se (sq (cn se (sq (cn se (sq (cn (sq (cv (fun e H => BJ call e.x0.x0 e.x0.x2 e.x0.x3 e.x0.x4 e.x0.x5 e.x0.x6 H) se) se) se) se)) se)) se))) se)) se))) se)) se)) se)) se) se) se) se))
theorem PG : SO cW a5A :=
 st2 30 [.tmp 4] fun call => (cv _ (sq (sq (sq se (sq se (sq (sq (cv (fun e H => BF call e.x0.x1 e.x0.x5 e.x0.x10 e.x0.x12 H) (sq (sq (cv (fun e H => BG call e.x0.x1 e.x0.x5 e.x0.x14 e.x1.x1 H) se) se) se)) se) se))) se) se))
theorem PF : SO xk a5y :=
 st1 12 [] fun call => (cv _ se)
theorem PD : SO a0O a5x :=
 st1 133 [] fun call => (cv _ (sq (sq (sq se (sq se (sq (sq (cv (fun e H => sR call e.x0.x0 e.x0.x2 e.x0.x3 e.x1.x3 e.x1.x4 H) (sq (sq (cv (fun e H => sS call e.x0.x0 e.x0.x2 e.x0.x3 e.x1.x3 e.x1.x5 H) (sq (sq (cv (fun e H => sT call e.x0.x0 e.x0.x2 e.x0.x3 e.x1.x3 e.x1.x6 H) (sq (sq (cv (fun e H => sU call e.x0.x0 e.x0.x2 e.x0.x3 e.x1.x3 e.x1.x7 H) (sq (sq (cv (fun e H => sV call e.x0.x0 e.x0.x2 e.x0.x3 e.x1.x3 e.x1.x8 H) (sq (sq (cv (fun e H => sW call e.x0.x0 e.x0.x2 e.x0.x3 e.x1.x3 e.x1.x8 e.x1.x9 H) (sq (sq (cv (fun e H => sX call e.x0.x0 e.x0.x2 e.x0.x3 e.x1.x3 e.x1.x8 e.x1.x10 H) (sq (sq (cv (fun e H => Bu call e.x0.x0 e.x0.x2 e.x0.x3 e.x1.x3 e.x1.x8 e.x1.x10 e.x1.x11 H) (sq (sq (cv (fun e H => Bw call e.x0.x0 e.x0.x2 e.x0.x3 e.x1.x3 e.x1.x8 e.x1.x10 e.x1.x12 H) (sq (sq (cv (fun e H => Bx call e.x0.x0 e.x0.x2 e.x0.x3 e.x1.x3 e.x1.x8 e.x1.x10 e.x1.x13 H) (sq (sq (cv (fun e H => By call e.x0.x0 e.x0.x2 e.x0.x3 e.x1.x3 e.x1.x8 e.x1.x10 e.x1.x14 H) (sq (sq (cv (fun e H => Bz call e.x0.x0 e.x0.x2 e.x0.x3 e.x1.x3 e.x1.x8 e.x1.x10 e.x1.x15 H) (sq (sq (cv (fun e H => BA call e.x0.x0 e.x0.x2 e.x0.x3 e.x1.x3 e.x1.x8 e.x1.x16 H) (sq (sq (cv (fun e H => BB call e.x0.x0 e.x0.x2 e.x0.x3 e.x1.x3 e.x1.x17 H) (sq (sq (cv (fun e H => BC call e.x0.x0 e.x0.x2 e.x0.x3 e.x1.x3 e.x1.x18 H) (sq (sq (cv (fun e H => BD call e.x0.x0 e.x0.x2 e.x0.x3 e.x1.x3 e.x1.x19 H) (sq (sq (cv (fun e H => BE call e.x0.x0 e.x0.x2 e.x0.x3 e.x1.x3 e.x2.x0 H) se) se) se)) se) se)) se) se)) se) se)) se) se)) se) se)) se) se)) se) se)) se) se)) se) se)) se) se)) se) se)) se) se)) se) se)) se) se)) se) se)) se) se))) se) se))
theorem PC : SO a7R a5w :=
 st1 7 [.tmp 2] fun call => (cv _ se)
theorem PB : SO vB a5v :=
 st1 6 [.tmp 2] fun call => (cv _ se)
theorem PA : SO a0N a5u :=
 st2 19 [.tmp 4] fun call => (cv _ (sq (sq se (sq (bl (lp (fun n e H => Jo call n e.x0.x0 e.x0.x1 e.x0.x7 e.x0.x8 H) fun _ => cv _ se)) se)) se))
theorem Pz : SO Sy a5t :=
 st2 18 [.tmp 4] fun call => (cv _ (sq (sq se (sq (sq (cv (fun e H => Bt call e.x0.x10 e.x0.x16 H) se) se) se)) se))
theorem Py : SO GX a5s :=
 st1 25 [.cell (.some 3) 2] fun call => (cv _ (sq (sq (sq (cv (fun e H => Br call e.x0.x2 e.x0.x3 H) se) se) se) se))
theorem Px : SO xj a5r :=
 st2 9 [.tmp 4] fun call => (cv _ se)
theorem Pw : SO a7K a5q :=
 st1 4 [.cell (.some 4) 1] fun call => (cv _ se)
theorem Pv : SO a0M a5p :=
 st2 11 [.tmp 4, .tmp 5] fun call => (cv _ se)
theorem Pu : SO a7J a5o :=
 st2 57 [.cell (.some 4) 4] fun call => (cv _ (sq (sq se (sq (bl (sq (cn se (sq (cv (fun e H => Bq call e.x0.x0 e.x0.x3 e.x0.x4 e.x2.x6 H) se) se)) se)) se)) se))
theorem Pt : SO a7I a5n :=
 st3 19 [.cell (.some 4) 6] fun call => (cv _ se)
theorem Ps : SO a7H a5m :=
 st2 70 [.cell (.some 4) 4] fun call => (cv _ (sq (sq (sq (cv (fun e H => Jl call e.x0.x0 e.x0.x3 e.x0.x4 e.x0.x5 H) (sq (sq (sq (cv (fun e H => Jn call e.x0.x4 e.x0.x8 H) se) (sq (bl (lp (fun n e H => Jm call n e.x0.x0 e.x0.x3 e.x0.x4 e.x0.x5 e.x0.x8 e.x0.x9 H) fun _ => cv _ se)) se)) (sq se (sq (sq (cv (fun e H => Bp call e.x0.x0 e.x0.x3 e.x0.x4 e.x0.x5 e.x0.x8 e.x1.x10 e.x1.x16 H) se) se) se))) se)) (sq (bl (lp (fun n e H => Jk call n e.x0.x0 e.x0.x3 e.x0.x4 e.x0.x5 e.x0.x11 e.x0.x12 e.x0.x13 H) fun _ => cv _ se)) se)) se) se))
theorem Pr : SO a7G a5l :=
 st3 125 [] fun call => (cv _ (sq (sq (sq (sq (cv (fun e H => Bo call e.x0.x0 e.x0.x17 H) se) se) se) se) se))
theorem Pq : SO a7F a5k :=
 st2 56 [] fun call => (cv _ se)
theorem Pp : SO a7E a5j :=
 st2 31 [] fun call => (cv _ se)
theorem Po : SO a7D a5i :=
 st2 13 [] fun call => (cv _ se)
theorem Pn : SO a7B a5h :=
 st4 120 [] fun call => (cv _ (sq (sq (sq (sq (sq (cv (fun e H => Bl call e.x0.x0 e.x0.x2 e.x0.x3 e.x0.x5 e.x0.x8 e.x0.x9 e.x0.x10 e.x0.x11 H) (sq (sq (cv (fun e H => Jh call e.x0.x0 e.x0.x2 e.x0.x3 e.x0.x8 e.x0.x9 e.x0.x10 e.x0.x11 e.x0.x12 H) (sq (sq (cv (fun e H => Jj call e.x0.x0 e.x0.x2 e.x0.x3 e.x0.x8 e.x0.x9 e.x0.x10 e.x0.x11 e.x0.x15 H) (sq (cv (fun e H => pe call e.x0.x0 e.x0.x8 e.x0.x11 e.x0.x15 H) se) (bl (sq se (sq (sq (cv (fun e H => Bn call e.x0.x0 e.x0.x2 e.x0.x3 e.x0.x8 e.x0.x9 e.x0.x10 e.x0.x11 e.x0.x15 e.x4.x4 e.x4.x6 H) se) se) se))))) (sq (bl (lp (fun n e H => Ji call n e.x0.x0 e.x0.x2 e.x0.x3 e.x0.x8 e.x0.x9 e.x0.x10 e.x0.x11 e.x0.x15 e.x3.x0 e.x3.x1 e.x3.x2 H) fun _ => cv _ se)) se)) se)) (sq (bl (lp (fun n e H => Jg call n e.x0.x0 e.x0.x2 e.x0.x3 e.x0.x8 e.x0.x9 e.x0.x10 e.x0.x11 e.x0.x12 e.x2.x5 e.x2.x6 e.x2.x7 H) fun _ => cv _ se)) se)) se)) se) se) se) se) se))
theorem Pm : SO a7A a5g :=
 st4 78 [.tmp 5] fun call => (cv _ (sq (sq (sq (cv (fun e H => Je call e.x0.x0 e.x0.x1 e.x0.x2 e.x0.x3 e.x0.x6 H) (sq se (sq (bl (lp (fun n e H => Jf call n e.x0.x3 e.x0.x6 e.x3.x4 e.x3.x5 e.x3.x6 H) fun _ => cv _ se)) se))) (sq (sq (cn (sq se (sq (bl (lp (fun n e H => sQ call n e.x0.x1 e.x0.x3 e.x0.x6 e.x1.x3 e.x1.x4 e.x1.x5 H) fun n1 => cv _ (sq (sq (sq (cv (fun e H => sP call (sQ call n1) e.x0.x1 e.x0.x3 e.x0.x6 e.x1.x3 e.x1.x4 e.x1.x5 H) se) (bl (sq (sq se (sq se (sq (sq (cv (fun e H => Bk call (sQ call n1) e.x0.x1 e.x0.x3 e.x0.x6 e.x0.x9 e.x1.x3 e.x1.x4 e.x1.x5 e.x1.x12 e.x1.x18 H) se) se) se))) se))) se) se))) se)) se) se) se)) se) se))
theorem Pl : SO a0J a5e :=
 st1 25 [.tmp 2] fun call => (cv _ (sq (sq (sq se (sq (bl (lp (fun n e H => sN call n e.x0.x3 e.x0.x6 e.x0.x7 e.x0.x8 H) fun n0 => cv _ (sq (sq (sq (cv (fun e H => Bj call (sN call n0) e.x0.x3 e.x0.x6 e.x0.x7 e.x0.x8 H) se) (bl (sq (sq se (sq (sq (cv (fun e H => Bi call (sN call n0) e.x0.x3 e.x0.x5 e.x0.x6 e.x0.x7 e.x0.x8 e.x0.x14 e.x0.x16 H) se) se) se)) se))) se) se))) se)) se) se))
theorem Pj : SO a7z a5d :=
 st1 64 [.tmp 2] fun call => (cv _ (sq (sq se (sq (bl (sq (cn se (sq se (sq (sq (cv (fun e H => Bh call e.x0.x1 e.x0.x3 e.x2.x7 e.x2.x9 H) se) se) se))) (sq (sq (cv (fun e H => B8 call e.x0.x1 e.x0.x3 e.x0.x9 e.x0.x11 H) (sq (sq (cv (fun e H => B9 call e.x0.x1 e.x0.x3 e.x0.x13 e.x0.x16 H) (sq (sq (cv (fun e H => Ba call e.x0.x1 e.x0.x3 e.x0.x13 e.x0.x16 e.x0.x18 H) (sq (sq (cv (fun e H => Bb call e.x0.x1 e.x0.x3 e.x0.x13 e.x0.x19 H) (sq (sq (cv (fun e H => Bc call e.x0.x1 e.x0.x3 e.x1.x1 e.x1.x3 H) (sq (sq (cv (fun e H => Bd call e.x0.x1 e.x0.x3 e.x1.x5 e.x1.x7 H) (sq (sq (cv (fun e H => Be call e.x0.x1 e.x0.x3 e.x1.x9 e.x1.x11 H) (sq (sq (cv (fun e H => Bf call e.x0.x1 e.x0.x3 e.x1.x13 e.x1.x15 H) (sq (sq (cv (fun e H => Bg call e.x0.x1 e.x0.x3 e.x1.x17 e.x1.x19 H) se) se) se)) se) se)) se) se)) se) se)) se) se)) se) se)) se) se)) se) se)) se) se))) se)) se))
theorem Ph : SO a7y a5c :=
 st1 15 [.tmp 2] fun call => (cv _ (sq (sq se (sq (bl (sq (cv (fun e H => fV call e.x0.x0 e.x0.x4 H) se) se)) se)) se))
theorem Pg : SO a0I a5b :=
 st1 17 [.tmp 2] fun call => (cv _ (sq (sq se (sq (sq (cv (fun e H => B5 call e.x0.x0 e.x0.x5 e.x0.x7 H) (sq (sq (cv (fun e H => B6 call e.x0.x0 e.x0.x9 e.x0.x11 H) (sq (sq (cv (fun e H => B7 call e.x0.x13 e.x0.x15 H) se) se) se)) se) se)) se) se)) se))
theorem Pf : SO a7x a5a :=
 st3 18 [] fun call => (cv _ (sq (sq se (sq (sq (cv (fun e H => B4 call e.x0.x0 e.x0.x1 e.x0.x5 e.x0.x8 e.x0.x12 H) se) se) se)) se))
end Go.Proofs.YtcolbcpeialmhaaGreatDoor
