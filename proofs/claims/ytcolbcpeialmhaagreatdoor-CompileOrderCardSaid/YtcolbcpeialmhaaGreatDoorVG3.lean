/- They stand for their bodies. -/
import Derived.Test.YtcolbcpeialmhaaGreatDoorVE
import Derived.Test.YtcolbcpeialmhaaGreatDoorA2
import Derived.KernelRfl
namespace Go.Proofs.YtcolbcpeialmhaaGreatDoor
open Go.Ab
set_option maxRecDepth 100000
theorem S445_ok : SO n445 S445 :=
 st2 21 [.tmp 4] fun call => (cv _ (sq (sq se (sq (sq (cv (fun e H => S445_2 call e.x0.x0 e.x0.x1 e.x0.x7 e.x0.x9 H) (sq (sq (cv (fun e H => S445_1 call e.x0.x0 e.x0.x1 e.x0.x11 e.x0.x13 H) (sq (sq (cv (fun e H => S445_0 call e.x0.x15 e.x0.x19 H) se) se) se)) se) se)) se) se)) se))
theorem S446_ok : SO n446 S446 :=
 st1 7 [.tmp 2] fun call => (cv _ se)
theorem S449_ok : SO n449 S449 :=
 st4 36 [.cell (.some 4) 8] fun call => (cv _ (sq (sq (sq (cv (fun e H => S449_0 call e.x0.x8 e.x0.x9 H) se) (sq (bl (lp (fun n e H => S449_1 call n e.x0.x0 e.x0.x1 e.x0.x2 e.x0.x3 e.x0.x8 e.x0.x9 e.x0.x10 H) fun n0 => cv _ (sq se (sq se (sq (sq (cv (fun e H => S449_2 call (S449_1 call n0) e.x0.x0 e.x0.x1 e.x0.x2 e.x0.x3 e.x0.x8 e.x0.x9 e.x0.x10 e.x0.x17 e.x1.x0 H) se) se) se))))) se)) se) se))
theorem S450_ok : SO n450 S450 :=
 st1 13 [.cell (.some 4) 2] fun call => (cv _ se)
theorem S463_ok : SO n463 S463 :=
 st2 25 [.tmp 4] fun call => (cv _ (sq (sq se (sq se (sq (sq (cv (fun e H => S463_0 call e.x0.x0 e.x0.x1 e.x0.x9 e.x0.x12 H) se) se) se))) se))
theorem S469_ok : SO n469 S469 :=
 st1 8 [.cell (.some 4) 2] fun call => (cv _ se)
theorem S482_ok : SO n482 S482 :=
 st1 13 [.cell (.some 4) 2] fun call => (cv _ se)
theorem S490_ok : SO n490 S490 :=
 st1 13 [.cell (.some 4) 2] fun call => (cv _ se)
theorem S493_ok : SO n493 S493 :=
 st1 24 [.cell (.some 4) 2] fun call => (cv _ (sq (sq (sq (sq (df fun e0 => (cv (fun e H => S493_0 call e.x0.x0 e.x0.x2 e0.x0.x12 H) se)) se) se) se) se))
theorem S494_ok : SO n494 S494 :=
 st1 46 [.cell (.some 4) 2] fun call => (cv _ (sq (sq (bl (lp (fun n e H => S494_0 call n e.x0.x0 e.x0.x2 e.x0.x3 H) fun _ => cv _ se)) se) se))
theorem S495_ok : SO n495 S495 :=
 st1 105 [.cell (.some 4) 2] fun call => (cv _ (sq (sq (sq (sq (cv (fun e H => S495_0 call e.x0.x2 e.x0.x4 H) se) (bl (sq (cn se (sq (cn se (sq (cn se (sq (cn se (sq (cn se (sq (cn se (sq se (sq (sq (cv (fun e H => S495_1 call e.x0.x0 e.x0.x2 e.x0.x4 e.x3.x18 e.x4.x0 H) se) se) se))) se)) se)) se)) (sq (sq (cv (fun e H => S495_2 call e.x0.x0 e.x0.x2 e.x0.x4 e.x1.x17 e.x1.x19 H) se) se) se))) se)) se))) se) se) se))
theorem S515_ok : SO n515 S515 :=
 st1 8 [.tmp 2] fun call => (cv _ se)
end Go.Proofs.YtcolbcpeialmhaaGreatDoor
