/- They stand for their bodies. -/
import Derived.Test.YtcolbcpeialmhaaGreatDoorVF
import Derived.Test.YtcolbcpeialmhaaGreatDoorA2
import Derived.KernelRfl
namespace Go.Proofs.YtcolbcpeialmhaaGreatDoor
open Go.Ab
set_option maxRecDepth 100000
theorem S250_ok : SO n250 S250 :=
 st2 11 [.tmp 4] fun call => (cv _ se)
theorem S253_ok : SO n253 S253 :=
 st1 26 [.tmp 2, .tmp 3] fun call => (cv _ se)
theorem S255_ok : SO n255 S255 :=
 st2 18 [.tmp 4] fun call => (cv _ se)
theorem S256_ok : SO n256 S256 :=
 st2 17 [.tmp 4] fun call => (cv _ se)
theorem S257_ok : SO n257 S257 :=
 st2 16 [] fun call => (cv _ se)
theorem S258_ok : SO n258 S258 :=
 st1 5 [.tmp 2] fun call => (cv _ se)
theorem S259_ok : SO n259 S259 :=
 st2 17 [.tmp 4] fun call => (cv _ se)
theorem S260_ok : SO n260 S260 :=
 st1 12 [.tmp 2] fun call => (cv _ (sq (sq se (sq se (sq (sq (cv (fun e H => S260_0 call e.x0.x0 e.x0.x5 e.x0.x7 H) se) se) se))) se))
theorem S261_ok : SO n261 S261 :=
 st2 17 [] fun call => (cv _ se)
theorem S262_ok : SO n262 S262 :=
 st1 4 [.tmp 2] fun call => (cv _ se)
theorem S263_ok : SO n263 S263 :=
 st2 13 [] fun call => (cv _ se)
theorem S292_ok : SO n292 S292 :=
 st2 16 [.tmp 4] fun call => (cv _ (sq (sq se (sq (sq (cv (fun e H => S292_0 call e.x0.x7 e.x0.x14 H) se) se) se)) se))
theorem S295_ok : SO n295 S295 :=
 st2 27 [.cell (.some 7) 4, .tmp 5] fun call => (cv _ (sq (sq se (sq se (sq (sq (cv (fun e H => S295_0 call e.x0.x0 e.x0.x1 e.x0.x4 e.x0.x8 e.x0.x16 H) se) se) se))) se))
theorem S299_ok : SO n299 S299 :=
 st2 9 [.tmp 4] fun call => (cv _ se)
theorem S300_ok : SO n300 S300 :=
 st2 8 [.tmp 3] fun call => (cv _ se)
theorem S303_ok : SO n303 S303 :=
 st3 11 [.tmp 6] fun call => (cv _ se)
theorem S306_ok : SO n306 S306 :=
 st1 49 [.tmp 2] fun call => (cv _ (sq (sq se (sq (bl (sq (cn se (sq (cn se (sq (cn (sq (sq (sq se (sq (bl (lp (fun n e H => S306_0 call n e.x0.x3 e.x1.x16 e.x1.x17 e.x1.x18 H) fun _ => cv _ se)) se)) se) se) se) se)) se)) se)) se)) se))
theorem S313_ok : SO n313 S313 :=
 st2 19 [.tmp 4] fun call => (cv _ (sq (sq se (sq (bl (lp (fun n e H => S313_0 call n e.x0.x0 e.x0.x1 e.x0.x7 e.x0.x8 H) fun _ => cv _ se)) se)) se))
theorem S314_ok : SO n314 S314 :=
 st1 16 [] fun call => (cv _ se)
theorem S317_ok : SO n317 S317 :=
 st2 15 [.tmp 4, .tmp 5] fun call => (cv _ se)
theorem S318_ok : SO n318 S318 :=
 st1 5 [.cell (.some 4) 2] fun call => (cv _ se)
theorem S319_ok : SO n319 S319 :=
 st2 47 [.cell (.some 4) 4] fun call => (cv _ se)
theorem S324_ok : SO n324 S324 :=
 st3 32 [.tmp 6] fun call => (cv _ (sq (sq (sq se (sq (bl (lp (fun n e H => S324_0 call n e.x0.x1 e.x0.x2 e.x0.x15 e.x0.x16 e.x0.x17 H) fun _ => cv _ se)) se)) se) se))
theorem S327_ok : SO n327 S327 :=
 st2 30 [.cell (.some 6) 4, .cell .none 5] fun call => (cv _ se)
theorem S338_ok : SO n338 S338 :=
 st2 27 [.cell (.some 6) 4, .cell .none 5] fun call => (cv _ se)
theorem S339_ok : SO n339 S339 :=
 st3 12 [.tmp 6] fun call => (cv _ se)
theorem S343_ok : SO n343 S343 :=
 st2 133 [.cell (.some 4) 4] fun call => (cv _ (sq (sq se (sq (bl (sq (cv (fun e H => S343_3 call e.x0.x0 e.x0.x3 e.x0.x4 e.x0.x9 e.x0.x10 H) (cn se (sq (cv (fun e H => S343_2 call e.x0.x0 e.x0.x3 e.x0.x4 e.x0.x9 e.x0.x14 H) (cn se (sq (cv (fun e H => S343_1 call e.x0.x0 e.x0.x3 e.x0.x4 e.x0.x9 e.x0.x18 H) (cn se (sq (cn se (sq (cn se (sq (cn se (sq (cn se (sq (cv (fun e H => S343_0 call e.x0.x0 e.x0.x3 e.x0.x4 e.x0.x9 e.x4.x13 H) se) se)) se)) se)) se)) se))) se))) se))) se)) se)) se))
theorem S346_ok : SO n346 S346 :=
 st2 21 [.tmp 4] fun call => (cv _ (sq (sq (sq se (sq (cn (sq (bl (lp (fun n e H => S346_0 call n e.x0.x0 e.x0.x5 e.x0.x9 e.x0.x10 H) fun _ => cv _ se)) se) se) se)) se) se))
theorem S347_ok : SO n347 S347 :=
 st2 20 [.cell (.some 7) 4] fun call => (cv _ (sq (sq se (sq se (sq (sq (cv (fun e H => S347_0 call e.x0.x1 e.x0.x2 e.x0.x4 e.x0.x7 e.x0.x12 H) se) se) se))) se))
theorem S348_ok : SO n348 S348 :=
 st1 5 [.tmp 2] fun call => (cv _ se)
theorem S350_ok : SO n350 S350 :=
 st4 134 [] fun call => (cv _ (sq (sq (bl (lp (fun n e H => S350_0 call n e.x0.x0 e.x0.x1 e.x0.x2 e.x0.x3 e.x0.x8 e.x0.x9 H) fun n0 => cv _ (bl (sq (sq (sq (sq (cv (fun e H => S350_16 call (S350_0 call n0) e.x0.x0 e.x0.x1 e.x0.x2 e.x0.x3 e.x0.x8 e.x0.x9 e.x0.x10 H) (sq (sq (cv (fun e H => S350_15 call (S350_0 call n0) e.x0.x0 e.x0.x1 e.x0.x2 e.x0.x3 e.x0.x8 e.x0.x9 e.x0.x10 e.x0.x11 e.x0.x12 H) (sq (cv (fun e H => S350_12 call (S350_0 call n0) e.x0.x0 e.x0.x1 e.x0.x2 e.x0.x3 e.x0.x8 e.x0.x9 e.x0.x10 e.x0.x11 H) (sq se (sq se (sq (sq (cv (fun e H => S350_11 call (S350_0 call n0) e.x0.x0 e.x0.x1 e.x0.x2 e.x0.x3 e.x0.x8 e.x0.x9 e.x0.x10 e.x0.x11 e.x3.x15 e.x3.x16 H) (sq (sq (cv (fun e H => S350_10 call (S350_0 call n0) e.x0.x0 e.x0.x1 e.x0.x2 e.x0.x3 e.x0.x8 e.x0.x9 e.x0.x10 e.x0.x11 e.x3.x15 e.x3.x16 e.x3.x17 H) (sq (sq (cv (fun e H => S350_9 call (S350_0 call n0) e.x0.x0 e.x0.x1 e.x0.x2 e.x0.x3 e.x0.x8 e.x0.x9 e.x0.x10 e.x0.x11 e.x3.x15 e.x3.x16 e.x3.x18 H) (sq (sq (cv (fun e H => S350_8 call (S350_0 call n0) e.x0.x0 e.x0.x1 e.x0.x2 e.x0.x3 e.x0.x8 e.x0.x9 e.x0.x10 e.x0.x11 e.x3.x15 e.x3.x19 H) (sq (sq (cv (fun e H => S350_7 call (S350_0 call n0) e.x0.x0 e.x0.x1 e.x0.x2 e.x0.x3 e.x0.x8 e.x0.x9 e.x0.x10 e.x0.x11 e.x3.x15 e.x4.x0 H) (sq (sq (cv (fun e H => S350_6 call (S350_0 call n0) e.x0.x0 e.x0.x1 e.x0.x2 e.x0.x3 e.x0.x8 e.x0.x9 e.x0.x10 e.x0.x11 e.x3.x15 e.x4.x0 e.x4.x1 H) (sq (sq (cv (fun e H => S350_5 call (S350_0 call n0) e.x0.x0 e.x0.x1 e.x0.x2 e.x0.x3 e.x0.x8 e.x0.x9 e.x0.x10 e.x0.x11 e.x3.x15 e.x4.x0 e.x4.x1 e.x4.x2 H) (sq (sq (cv (fun e H => S350_4 call (S350_0 call n0) e.x0.x0 e.x0.x1 e.x0.x2 e.x0.x3 e.x0.x8 e.x0.x9 e.x0.x10 e.x0.x11 e.x3.x15 e.x4.x0 e.x4.x3 H) (sq (sq (cv (fun e H => S350_3 call (S350_0 call n0) e.x0.x0 e.x0.x1 e.x0.x2 e.x0.x3 e.x0.x8 e.x0.x9 e.x0.x10 e.x0.x11 e.x3.x15 e.x4.x0 e.x4.x4 H) (sq (sq (cv (fun e H => S350_2 call (S350_0 call n0) e.x0.x0 e.x0.x1 e.x0.x2 e.x0.x3 e.x0.x8 e.x0.x9 e.x0.x10 e.x0.x11 e.x3.x15 e.x4.x5 H) (sq (sq (cv (fun e H => S350_1 call (S350_0 call n0) e.x0.x0 e.x0.x1 e.x0.x2 e.x0.x3 e.x0.x8 e.x0.x9 e.x0.x10 e.x0.x11 e.x3.x15 e.x4.x6 H) se) se) se)) se) se)) se) se)) se) se)) se) se)) se) se)) se) se)) se) se)) se) se)) se) se)) se) se)))) (sq se (sq (sq (cv (fun e H => S350_14 call (S350_0 call n0) e.x0.x0 e.x0.x1 e.x0.x2 e.x0.x3 e.x0.x8 e.x0.x9 e.x0.x10 e.x0.x11 e.x0.x12 e.x3.x2 e.x3.x3 H) (sq (sq (cv (fun e H => S350_13 call (S350_0 call n0) e.x0.x0 e.x0.x1 e.x0.x2 e.x0.x3 e.x0.x8 e.x0.x9 e.x0.x10 e.x0.x11 e.x3.x5 e.x3.x7 H) se) se) se)) se) se)))) se) se)) se) se) se) se)))) se) se))
theorem S351_ok : SO n351 S351 :=
 st1 8 [.tmp 2] fun call => (cv _ se)
theorem S355_ok : SO n355 S355 :=
 st2 21 [.tmp 4] fun call => (cv _ (sq (sq (sq se (sq (sq (cv (fun e H => S355_0 call e.x0.x15 e.x0.x19 H) se) se) se)) se) se))
theorem S359_ok : SO n359 S359 :=
 st3 18 [.tmp 6, .tmp 7] fun call => (cv _ se)
theorem S360_ok : SO n360 S360 :=
 st1 28 [.cell (.some 3) 2, .tmp 3] fun call => (cv _ (sq (sq (sq (sq se (sq se (sq (sq (cv (fun e H => S360_0 call e.x0.x2 e.x0.x5 e.x1.x1 e.x1.x4 H) se) se) se))) se) se) se))
theorem S361_ok : SO n361 S361 :=
 st1 11 [.tmp 2] fun call => (cv _ (sq (sq se (sq se (sq (sq (cv (fun e H => S361_0 call e.x0.x0 e.x0.x5 e.x0.x7 H) se) se) se))) se))
theorem S362_ok : SO n362 S362 :=
 st2 25 [.cell (.some 3) 4, .tmp 5] fun call => (cv _ (sq (sq se (sq se (sq (sq (cv (fun e H => S362_0 call e.x0.x0 e.x0.x1 e.x0.x4 e.x0.x8 e.x0.x15 H) se) se) se))) se))
theorem S363_ok : SO n363 S363 :=
 st3 47 [.tmp 6] fun call => (cv _ (sq (sq (sq se (sq (bl (sq (cv (fun e H => S363_1 call e.x0.x1 e.x0.x3 e.x1.x0 e.x1.x1 H) (cn se (sq (cn se (sq (cn (sq se (sq (sq (cv (fun e H => S363_0 call e.x2.x3 e.x2.x5 H) se) se) se)) se) se)) se))) se)) se)) (sq se (sq (sq (cv (fun e H => S363_3 call e.x0.x1 e.x0.x2 e.x0.x3 e.x0.x9 e.x0.x11 H) (sq (sq (cv (fun e H => S363_2 call e.x0.x1 e.x0.x3 e.x0.x13 e.x0.x17 H) se) se) se)) se) se))) se))
theorem S364_ok : SO n364 S364 :=
 st2 32 [.tmp 4] fun call => (cv _ (sq (sq (sq se (sq se (sq (sq (cv (fun e H => S364_0 call e.x0.x5 e.x0.x6 e.x0.x15 e.x1.x2 H) se) se) se))) se) se))
theorem S365_ok : SO n365 S365 :=
 st2 14 [] fun call => (cv _ se)
theorem S366_ok : SO n366 S366 :=
 st2 16 [.tmp 4] fun call => (cv _ (sq (sq se (sq (sq (cv (fun e H => S366_0 call e.x0.x7 e.x0.x14 H) se) se) se)) se))
theorem S368_ok : SO n368 S368 :=
 st1 35 [.tmp 2] fun call => (cv _ se)
theorem S369_ok : SO n369 S369 :=
 st3 31 [] fun call => (cv _ (sq (sq se (sq (sq (cv (fun e H => S369_1 call e.x0.x1 e.x0.x2 e.x0.x6 e.x0.x11 e.x0.x13 H) (sq (sq (cv (fun e H => S369_0 call e.x0.x1 e.x0.x2 e.x0.x6 e.x0.x15 e.x1.x2 H) se) se) se)) se) se)) se))
theorem S378_ok : SO n378 S378 :=
 st2 51 [.cell (.some 3) 4, .cell (.some 3) 5, .tmp 6] fun call => (cv _ se)
theorem S379_ok : SO n379 S379 :=
 st1 7 [.tmp 2] fun call => (cv _ se)
theorem S395_ok : SO n395 S395 :=
 st3 21 [.tmp 6] fun call => (cv _ (sq (sq (sq se (sq (sq (cv (fun e H => S395_0 call e.x0.x16 e.x0.x19 H) se) se) se)) se) se))
theorem S398_ok : SO n398 S398 :=
 st3 20 [.tmp 6] fun call => (cv _ se)
theorem S399_ok : SO n399 S399 :=
 st2 25 [.tmp 4, .tmp 5] fun call => (cv _ se)
theorem S401_ok : SO n401 S401 :=
 st3 15 [.tmp 4] fun call => (cv _ se)
theorem S406_ok : SO n406 S406 :=
 st1 13 [.cell (.some 4) 2] fun call => (cv _ se)
theorem S410_ok : SO n410 S410 :=
 st1 33 [.cell (.some 4) 2] fun call => (cv _ (sq (sq (sq (cv (fun e H => S410_0 call e.x0.x2 e.x0.x3 H) se) (sq (bl (lp (fun n e H => S410_1 call n e.x0.x2 e.x0.x3 e.x0.x16 e.x0.x17 e.x0.x18 H) fun _ => cv _ se)) se)) se) se))
theorem S423_ok : SO n423 S423 :=
 st2 8 [.tmp 3] fun call => (cv _ se)
theorem S424_ok : SO n424 S424 :=
 st3 48 [.tmp 6] fun call => (cv _ (sq (sq se (sq (bl (lp (fun n e H => S424_0 call n e.x0.x0 e.x0.x1 e.x0.x10 e.x0.x11 e.x0.x12 H) fun n0 => cv _ (sq (sq (sq se (bl (sq (sq (sq se (sq (sq (cv (fun e H => S424_3 call (S424_0 call n0) e.x0.x0 e.x0.x1 e.x0.x8 e.x0.x9 e.x0.x10 e.x0.x11 e.x0.x12 e.x1.x7 e.x1.x15 H) (sq (sq (cv (fun e H => S424_2 call (S424_0 call n0) e.x0.x0 e.x0.x1 e.x0.x10 e.x0.x11 e.x0.x12 e.x1.x7 e.x1.x15 e.x2.x4 H) (sq (sq (cv (fun e H => S424_1 call (S424_0 call n0) e.x0.x0 e.x0.x1 e.x0.x10 e.x0.x11 e.x0.x12 e.x1.x7 e.x2.x5 H) se) se) se)) se) se)) se) se)) se) se))) se) se))) se)) se))
theorem S425_ok : SO n425 S425 :=
 st1 5 [.tmp 2] fun call => (cv _ se)
theorem S426_ok : SO n426 S426 :=
 st3 49 [] fun call => (cv _ (sq (bl (lp (fun n e H => S426_0 call n e.x0.x0 e.x0.x1 e.x0.x2 e.x0.x6 H) fun n0 => cv _ (sq (sq (cv (fun e H => S426_1 call (S426_0 call n0) e.x0.x0 e.x0.x1 e.x0.x2 e.x0.x6 H) se) (bl (sq (bl (lp (fun n e H => S426_2 call (S426_0 call n0) n e.x0.x0 e.x0.x1 e.x0.x2 e.x0.x6 e.x0.x7 H) fun n1 => cv _ (sq se (sq se (sq (sq (cv (fun e H => S426_12 call (S426_0 call n0) (S426_2 call (S426_0 call n0) n1) e.x0.x0 e.x0.x1 e.x0.x2 e.x0.x6 e.x0.x7 e.x0.x19 e.x1.x0 H) (sq (sq (cv (fun e H => S426_11 call (S426_0 call n0) (S426_2 call (S426_0 call n0) n1) e.x0.x0 e.x0.x1 e.x0.x2 e.x0.x6 e.x0.x7 e.x0.x19 e.x1.x0 e.x1.x1 H) (sq (sq (cv (fun e H => S426_10 call (S426_0 call n0) (S426_2 call (S426_0 call n0) n1) e.x0.x0 e.x0.x1 e.x0.x2 e.x0.x6 e.x0.x7 e.x0.x19 e.x1.x2 H) (sq (sq (cv (fun e H => S426_9 call (S426_0 call n0) (S426_2 call (S426_0 call n0) n1) e.x0.x0 e.x0.x1 e.x0.x2 e.x0.x6 e.x0.x7 e.x0.x19 e.x1.x3 H) (sq (sq (cv (fun e H => S426_8 call (S426_0 call n0) (S426_2 call (S426_0 call n0) n1) e.x0.x0 e.x0.x1 e.x0.x2 e.x0.x6 e.x0.x7 e.x0.x19 e.x1.x3 e.x1.x4 H) (sq (sq (cv (fun e H => S426_7 call (S426_0 call n0) (S426_2 call (S426_0 call n0) n1) e.x0.x0 e.x0.x1 e.x0.x2 e.x0.x6 e.x0.x7 e.x0.x19 e.x1.x3 e.x1.x4 e.x1.x5 H) (sq (sq (cv (fun e H => S426_6 call (S426_0 call n0) (S426_2 call (S426_0 call n0) n1) e.x0.x0 e.x0.x1 e.x0.x2 e.x0.x6 e.x0.x7 e.x0.x19 e.x1.x3 e.x1.x4 e.x1.x6 H) (sq (sq (cv (fun e H => S426_5 call (S426_0 call n0) (S426_2 call (S426_0 call n0) n1) e.x0.x0 e.x0.x1 e.x0.x2 e.x0.x6 e.x0.x7 e.x0.x19 e.x1.x3 e.x1.x7 H) (sq (sq (cv (fun e H => S426_4 call (S426_0 call n0) (S426_2 call (S426_0 call n0) n1) e.x0.x0 e.x0.x1 e.x0.x2 e.x0.x6 e.x0.x7 e.x0.x19 e.x1.x3 e.x1.x8 H) (sq (sq (cv (fun e H => S426_3 call (S426_0 call n0) (S426_2 call (S426_0 call n0) n1) e.x0.x0 e.x0.x1 e.x0.x2 e.x0.x6 e.x0.x7 e.x0.x19 e.x1.x9 H) se) se) se)) se) se)) se) se)) se) se)) se) se)) se) se)) se) se)) se) se)) se) se)) se) se))))) se))) se))) se))
theorem S436_ok : SO n436 S436 :=
 st1 25 [.tmp 2] fun call => (cv _ (sq (sq (cv (fun e H => S436_2 call e.x0.x0 e.x0.x2 H) (sq (cv (fun e H => S436_1 call e.x0.x0 e.x0.x2 H) (sq (cv (fun e H => S436_0 call e.x0.x0 e.x0.x2 H) se) se)) se)) se) se))
theorem S438_ok : SO n438 S438 :=
 st3 38 [.tmp 6] fun call => (cv _ (sq (sq (sq se (sq se (sq (sq (cv (fun e H => S438_1 call e.x0.x0 e.x0.x1 e.x0.x2 e.x0.x7 e.x0.x17 e.x0.x19 H) (sq (sq (cv (fun e H => S438_0 call e.x0.x0 e.x0.x1 e.x0.x2 e.x1.x1 e.x1.x8 H) se) se) se)) se) se))) se) se))
theorem S439_ok : SO n439 S439 :=
 st3 18 [.tmp 6] fun call => (cv _ se)
theorem S440_ok : SO n440 S440 :=
 st1 31 [.tmp 2] fun call => (cv _ (sq (sq se (sq (sq (cv (fun e H => S440_4 call e.x0.x1 e.x0.x6 e.x0.x9 H) (sq (sq (cv (fun e H => S440_3 call e.x0.x1 e.x0.x11 e.x0.x14 H) (sq (sq (cv (fun e H => S440_2 call e.x0.x1 e.x0.x16 e.x0.x19 H) (sq (sq (cv (fun e H => S440_1 call e.x0.x1 e.x1.x1 e.x1.x4 H) (sq (sq (cv (fun e H => S440_0 call e.x1.x6 e.x1.x9 H) se) se) se)) se) se)) se) se)) se) se)) se) se)) se))
theorem S441_ok : SO n441 S441 :=
 st2 43 [.tmp 4, .tmp 5] fun call => (cv _ (sq (sq (sq (sq (sq se (sq se (sq (sq (cv (fun e H => S441_0 call e.x0.x0 e.x0.x6 e.x0.x8 e.x0.x19 e.x1.x12 H) se) se) se))) se) se) se) se))
end Go.Proofs.YtcolbcpeialmhaaGreatDoor
