/- They stand for their bodies. -/
import Derived.Test.YtlmcgeiacfbdnaaGreatDoorVF
import Derived.Test.YtlmcgeiacfbdnaaGreatDoorA2
import Derived.KernelRfl
namespace Go.Proofs.YtlmcgeiacfbdnaaGreatDoor
open Go.Ab
set_option maxRecDepth 100000
theorem S248_ok : SO n248 S248 :=
 st1 25 [.tmp 2] fun call => (cv _ (sq (sq (cv (fun e H => S248_1 call e.x0.x0 H) (sq (sq se (sq (bl (lp (fun n e H => S248_0 call n e.x0.x0 e.x0.x3 e.x0.x4 H) fun _ => cv _ se)) se)) se)) se) se))
theorem S249_ok : SO n249 S249 :=
 st1 15 [.tmp 2] fun call => (cv _ (sq (sq se (sq (sq (cv (fun e H => S249_0 call e.x0.x8 e.x0.x13 H) se) se) se)) se))
theorem S250_ok : SO n250 S250 :=
 st1 26 [.tmp 2, .tmp 3] fun call => (cv _ se)
theorem S253_ok : SO n253 S253 :=
 st2 17 [.tmp 4] fun call => (cv _ se)
theorem S255_ok : SO n255 S255 :=
 st1 5 [.tmp 2] fun call => (cv _ se)
theorem S256_ok : SO n256 S256 :=
 st2 17 [.tmp 4] fun call => (cv _ se)
theorem S257_ok : SO n257 S257 :=
 st1 12 [.tmp 2] fun call => (cv _ (sq (sq se (sq se (sq (sq (cv (fun e H => S257_0 call e.x0.x0 e.x0.x5 e.x0.x7 H) se) se) se))) se))
theorem S258_ok : SO n258 S258 :=
 st2 17 [] fun call => (cv _ se)
theorem S259_ok : SO n259 S259 :=
 st1 4 [.tmp 2] fun call => (cv _ se)
theorem S260_ok : SO n260 S260 :=
 st2 13 [] fun call => (cv _ se)
theorem S261_ok : SO n261 S261 :=
 st3 82 [.tmp 6, .tmp 7] fun call => (cv _ se)
theorem S262_ok : SO n262 S262 :=
 st3 26 [] fun call => (cv _ se)
theorem S263_ok : SO n263 S263 :=
 st3 26 [.tmp 6] fun call => (cv _ (sq (sq (sq se (sq (bl (lp (fun n e H => S263_0 call n e.x0.x0 e.x0.x1 e.x0.x7 e.x0.x9 e.x0.x10 H) fun _ => cv _ se)) se)) se) se))
theorem S266_ok : SO n266 S266 :=
 st1 109 [] fun call => (cv _ (sq (sq (sq (sq (cv (fun e H => S266_0 call e.x0.x0 e.x0.x3 H) se) (sq (sq se (sq (sq (cv (fun e H => S266_1 call e.x0.x0 e.x0.x2 e.x0.x3 e.x0.x5 e.x4.x8 e.x4.x11 H) se) se) se)) se)) se) se) se))
theorem S289_ok : SO n289 S289 :=
 st2 16 [.tmp 4] fun call => (cv _ (sq (sq se (sq (sq (cv (fun e H => S289_0 call e.x0.x7 e.x0.x14 H) se) se) se)) se))
theorem S296_ok : SO n296 S296 :=
 st2 9 [.tmp 4] fun call => (cv _ se)
theorem S297_ok : SO n297 S297 :=
 st2 8 [.tmp 3] fun call => (cv _ se)
theorem S300_ok : SO n300 S300 :=
 st3 11 [.tmp 6] fun call => (cv _ se)
theorem S303_ok : SO n303 S303 :=
 st1 49 [.tmp 2] fun call => (cv _ (sq (sq se (sq (bl (sq (cn se (sq (cn se (sq (cn (sq (sq (sq se (sq (bl (lp (fun n e H => S303_0 call n e.x0.x3 e.x1.x16 e.x1.x17 e.x1.x18 H) fun _ => cv _ se)) se)) se) se) se) se)) se)) se)) se)) se))
theorem S310_ok : SO n310 S310 :=
 st2 19 [.tmp 4] fun call => (cv _ (sq (sq se (sq (bl (lp (fun n e H => S310_0 call n e.x0.x0 e.x0.x1 e.x0.x7 e.x0.x8 H) fun _ => cv _ se)) se)) se))
theorem S314_ok : SO n314 S314 :=
 st2 15 [.tmp 4, .tmp 5] fun call => (cv _ se)
theorem S315_ok : SO n315 S315 :=
 st1 5 [.cell (.some 4) 2] fun call => (cv _ se)
theorem S316_ok : SO n316 S316 :=
 st2 47 [.cell (.some 4) 4] fun call => (cv _ se)
theorem S324_ok : SO n324 S324 :=
 st2 30 [.cell (.some 6) 4, .cell .none 5] fun call => (cv _ se)
theorem S345_ok : SO n345 S345 :=
 st1 5 [.tmp 2] fun call => (cv _ se)
theorem S347_ok : SO n347 S347 :=
 st4 134 [] fun call => (cv _ (sq (sq (bl (lp (fun n e H => S347_0 call n e.x0.x0 e.x0.x1 e.x0.x2 e.x0.x3 e.x0.x8 e.x0.x9 H) fun n0 => cv _ (bl (sq (sq (sq (sq (cv (fun e H => S347_16 call (S347_0 call n0) e.x0.x0 e.x0.x1 e.x0.x2 e.x0.x3 e.x0.x8 e.x0.x9 e.x0.x10 H) (sq (sq (cv (fun e H => S347_15 call (S347_0 call n0) e.x0.x0 e.x0.x1 e.x0.x2 e.x0.x3 e.x0.x8 e.x0.x9 e.x0.x10 e.x0.x11 e.x0.x12 H) (sq (cv (fun e H => S347_12 call (S347_0 call n0) e.x0.x0 e.x0.x1 e.x0.x2 e.x0.x3 e.x0.x8 e.x0.x9 e.x0.x10 e.x0.x11 H) (sq se (sq se (sq (sq (cv (fun e H => S347_11 call (S347_0 call n0) e.x0.x0 e.x0.x1 e.x0.x2 e.x0.x3 e.x0.x8 e.x0.x9 e.x0.x10 e.x0.x11 e.x3.x15 e.x3.x16 H) (sq (sq (cv (fun e H => S347_10 call (S347_0 call n0) e.x0.x0 e.x0.x1 e.x0.x2 e.x0.x3 e.x0.x8 e.x0.x9 e.x0.x10 e.x0.x11 e.x3.x15 e.x3.x16 e.x3.x17 H) (sq (sq (cv (fun e H => S347_9 call (S347_0 call n0) e.x0.x0 e.x0.x1 e.x0.x2 e.x0.x3 e.x0.x8 e.x0.x9 e.x0.x10 e.x0.x11 e.x3.x15 e.x3.x16 e.x3.x18 H) (sq (sq (cv (fun e H => S347_8 call (S347_0 call n0) e.x0.x0 e.x0.x1 e.x0.x2 e.x0.x3 e.x0.x8 e.x0.x9 e.x0.x10 e.x0.x11 e.x3.x15 e.x3.x19 H) (sq (sq (cv (fun e H => S347_7 call (S347_0 call n0) e.x0.x0 e.x0.x1 e.x0.x2 e.x0.x3 e.x0.x8 e.x0.x9 e.x0.x10 e.x0.x11 e.x3.x15 e.x4.x0 H) (sq (sq (cv (fun e H => S347_6 call (S347_0 call n0) e.x0.x0 e.x0.x1 e.x0.x2 e.x0.x3 e.x0.x8 e.x0.x9 e.x0.x10 e.x0.x11 e.x3.x15 e.x4.x0 e.x4.x1 H) (sq (sq (cv (fun e H => S347_5 call (S347_0 call n0) e.x0.x0 e.x0.x1 e.x0.x2 e.x0.x3 e.x0.x8 e.x0.x9 e.x0.x10 e.x0.x11 e.x3.x15 e.x4.x0 e.x4.x1 e.x4.x2 H) (sq (sq (cv (fun e H => S347_4 call (S347_0 call n0) e.x0.x0 e.x0.x1 e.x0.x2 e.x0.x3 e.x0.x8 e.x0.x9 e.x0.x10 e.x0.x11 e.x3.x15 e.x4.x0 e.x4.x3 H) (sq (sq (cv (fun e H => S347_3 call (S347_0 call n0) e.x0.x0 e.x0.x1 e.x0.x2 e.x0.x3 e.x0.x8 e.x0.x9 e.x0.x10 e.x0.x11 e.x3.x15 e.x4.x0 e.x4.x4 H) (sq (sq (cv (fun e H => S347_2 call (S347_0 call n0) e.x0.x0 e.x0.x1 e.x0.x2 e.x0.x3 e.x0.x8 e.x0.x9 e.x0.x10 e.x0.x11 e.x3.x15 e.x4.x5 H) (sq (sq (cv (fun e H => S347_1 call (S347_0 call n0) e.x0.x0 e.x0.x1 e.x0.x2 e.x0.x3 e.x0.x8 e.x0.x9 e.x0.x10 e.x0.x11 e.x3.x15 e.x4.x6 H) se) se) se)) se) se)) se) se)) se) se)) se) se)) se) se)) se) se)) se) se)) se) se)) se) se)) se) se)))) (sq se (sq (sq (cv (fun e H => S347_14 call (S347_0 call n0) e.x0.x0 e.x0.x1 e.x0.x2 e.x0.x3 e.x0.x8 e.x0.x9 e.x0.x10 e.x0.x11 e.x0.x12 e.x3.x2 e.x3.x3 H) (sq (sq (cv (fun e H => S347_13 call (S347_0 call n0) e.x0.x0 e.x0.x1 e.x0.x2 e.x0.x3 e.x0.x8 e.x0.x9 e.x0.x10 e.x0.x11 e.x3.x5 e.x3.x7 H) se) se) se)) se) se)))) se) se)) se) se) se) se)))) se) se))
theorem S348_ok : SO n348 S348 :=
 st1 8 [.tmp 2] fun call => (cv _ se)
theorem S363_ok : SO n363 S363 :=
 st2 16 [.tmp 4] fun call => (cv _ (sq (sq se (sq (sq (cv (fun e H => S363_0 call e.x0.x7 e.x0.x14 H) se) se) se)) se))
theorem S365_ok : SO n365 S365 :=
 st1 35 [.tmp 2] fun call => (cv _ se)
theorem S366_ok : SO n366 S366 :=
 st3 31 [] fun call => (cv _ (sq (sq se (sq (sq (cv (fun e H => S366_1 call e.x0.x1 e.x0.x2 e.x0.x6 e.x0.x11 e.x0.x13 H) (sq (sq (cv (fun e H => S366_0 call e.x0.x1 e.x0.x2 e.x0.x6 e.x0.x15 e.x1.x2 H) se) se) se)) se) se)) se))
theorem S367_ok : SO n367 S367 :=
 st2 9 [.tmp 4] fun call => (cv _ se)
theorem S368_ok : SO n368 S368 :=
 st2 9 [.tmp 4] fun call => (cv _ se)
theorem S369_ok : SO n369 S369 :=
 st2 9 [.tmp 4] fun call => (cv _ se)
theorem S374_ok : SO n374 S374 :=
 st4 39 [.tmp 8] fun call => (cv _ se)
theorem S377_ok : SO n377 S377 :=
 st1 29 [.tmp 2] fun call => (cv _ (sq (sq (cv (fun e H => S377_0 call e.x0.x0 H) se) se) se))
theorem S378_ok : SO n378 S378 :=
 st2 9 [] fun call => (cv _ se)
theorem S379_ok : SO n379 S379 :=
 st2 9 [] fun call => (cv _ se)
theorem S398_ok : SO n398 S398 :=
 st3 15 [.tmp 4] fun call => (cv _ se)
theorem S403_ok : SO n403 S403 :=
 st1 13 [.cell (.some 4) 2] fun call => (cv _ se)
theorem S423_ok : SO n423 S423 :=
 st3 49 [] fun call => (cv _ (sq (bl (lp (fun n e H => S423_0 call n e.x0.x0 e.x0.x1 e.x0.x2 e.x0.x6 H) fun n0 => cv _ (sq (sq (cv (fun e H => S423_1 call (S423_0 call n0) e.x0.x0 e.x0.x1 e.x0.x2 e.x0.x6 H) se) (bl (sq (bl (lp (fun n e H => S423_2 call (S423_0 call n0) n e.x0.x0 e.x0.x1 e.x0.x2 e.x0.x6 e.x0.x7 H) fun n1 => cv _ (sq se (sq se (sq (sq (cv (fun e H => S423_12 call (S423_0 call n0) (S423_2 call (S423_0 call n0) n1) e.x0.x0 e.x0.x1 e.x0.x2 e.x0.x6 e.x0.x7 e.x0.x19 e.x1.x0 H) (sq (sq (cv (fun e H => S423_11 call (S423_0 call n0) (S423_2 call (S423_0 call n0) n1) e.x0.x0 e.x0.x1 e.x0.x2 e.x0.x6 e.x0.x7 e.x0.x19 e.x1.x0 e.x1.x1 H) (sq (sq (cv (fun e H => S423_10 call (S423_0 call n0) (S423_2 call (S423_0 call n0) n1) e.x0.x0 e.x0.x1 e.x0.x2 e.x0.x6 e.x0.x7 e.x0.x19 e.x1.x2 H) (sq (sq (cv (fun e H => S423_9 call (S423_0 call n0) (S423_2 call (S423_0 call n0) n1) e.x0.x0 e.x0.x1 e.x0.x2 e.x0.x6 e.x0.x7 e.x0.x19 e.x1.x3 H) (sq (sq (cv (fun e H => S423_8 call (S423_0 call n0) (S423_2 call (S423_0 call n0) n1) e.x0.x0 e.x0.x1 e.x0.x2 e.x0.x6 e.x0.x7 e.x0.x19 e.x1.x3 e.x1.x4 H) (sq (sq (cv (fun e H => S423_7 call (S423_0 call n0) (S423_2 call (S423_0 call n0) n1) e.x0.x0 e.x0.x1 e.x0.x2 e.x0.x6 e.x0.x7 e.x0.x19 e.x1.x3 e.x1.x4 e.x1.x5 H) (sq (sq (cv (fun e H => S423_6 call (S423_0 call n0) (S423_2 call (S423_0 call n0) n1) e.x0.x0 e.x0.x1 e.x0.x2 e.x0.x6 e.x0.x7 e.x0.x19 e.x1.x3 e.x1.x4 e.x1.x6 H) (sq (sq (cv (fun e H => S423_5 call (S423_0 call n0) (S423_2 call (S423_0 call n0) n1) e.x0.x0 e.x0.x1 e.x0.x2 e.x0.x6 e.x0.x7 e.x0.x19 e.x1.x3 e.x1.x7 H) (sq (sq (cv (fun e H => S423_4 call (S423_0 call n0) (S423_2 call (S423_0 call n0) n1) e.x0.x0 e.x0.x1 e.x0.x2 e.x0.x6 e.x0.x7 e.x0.x19 e.x1.x3 e.x1.x8 H) (sq (sq (cv (fun e H => S423_3 call (S423_0 call n0) (S423_2 call (S423_0 call n0) n1) e.x0.x0 e.x0.x1 e.x0.x2 e.x0.x6 e.x0.x7 e.x0.x19 e.x1.x9 H) se) se) se)) se) se)) se) se)) se) se)) se) se)) se) se)) se) se)) se) se)) se) se)) se) se))))) se))) se))) se))
theorem S429_ok : SO n429 S429 :=
 st2 17 [.tmp 4] fun call => (cv _ (sq (sq se (sq (sq (cv (fun e H => S429_1 call e.x0.x0 e.x0.x1 e.x0.x7 e.x0.x10 H) (sq (sq (cv (fun e H => S429_0 call e.x0.x12 e.x0.x15 H) se) se) se)) se) se)) se))
theorem S433_ok : SO n433 S433 :=
 st1 25 [.tmp 2] fun call => (cv _ (sq (sq (cv (fun e H => S433_2 call e.x0.x0 e.x0.x2 H) (sq (cv (fun e H => S433_1 call e.x0.x0 e.x0.x2 H) (sq (cv (fun e H => S433_0 call e.x0.x0 e.x0.x2 H) se) se)) se)) se) se))
theorem S446_ok : SO n446 S446 :=
 st4 36 [.cell (.some 4) 8] fun call => (cv _ (sq (sq (sq (cv (fun e H => S446_0 call e.x0.x8 e.x0.x9 H) se) (sq (bl (lp (fun n e H => S446_1 call n e.x0.x0 e.x0.x1 e.x0.x2 e.x0.x3 e.x0.x8 e.x0.x9 e.x0.x10 H) fun n0 => cv _ (sq se (sq se (sq (sq (cv (fun e H => S446_2 call (S446_1 call n0) e.x0.x0 e.x0.x1 e.x0.x2 e.x0.x3 e.x0.x8 e.x0.x9 e.x0.x10 e.x0.x17 e.x1.x0 H) se) se) se))))) se)) se) se))
theorem S447_ok : SO n447 S447 :=
 st1 13 [.cell (.some 4) 2] fun call => (cv _ se)
theorem S459_ok : SO n459 S459 :=
 st1 6 [.tmp 2] fun call => (cv _ se)
theorem S466_ok : SO n466 S466 :=
 st1 8 [.cell (.some 4) 2] fun call => (cv _ se)
theorem S479_ok : SO n479 S479 :=
 st1 13 [.cell (.some 4) 2] fun call => (cv _ se)
theorem S487_ok : SO n487 S487 :=
 st1 13 [.cell (.some 4) 2] fun call => (cv _ se)
theorem S490_ok : SO n490 S490 :=
 st1 24 [.cell (.some 4) 2] fun call => (cv _ (sq (sq (sq (sq (df fun e0 => (cv (fun e H => S490_0 call e.x0.x0 e.x0.x2 e0.x0.x12 H) se)) se) se) se) se))
theorem S491_ok : SO n491 S491 :=
 st1 46 [.cell (.some 4) 2] fun call => (cv _ (sq (sq (bl (lp (fun n e H => S491_0 call n e.x0.x0 e.x0.x2 e.x0.x3 H) fun _ => cv _ se)) se) se))
theorem S492_ok : SO n492 S492 :=
 st1 105 [.cell (.some 4) 2] fun call => (cv _ (sq (sq (sq (sq (cv (fun e H => S492_0 call e.x0.x2 e.x0.x4 H) se) (bl (sq (cn se (sq (cn se (sq (cn se (sq (cn se (sq (cn se (sq (cn se (sq se (sq (sq (cv (fun e H => S492_1 call e.x0.x0 e.x0.x2 e.x0.x4 e.x3.x18 e.x4.x0 H) se) se) se))) se)) se)) se)) (sq (sq (cv (fun e H => S492_2 call e.x0.x0 e.x0.x2 e.x0.x4 e.x1.x17 e.x1.x19 H) se) se) se))) se)) se))) se) se) se))
theorem S510_ok : SO n510 S510 :=
 st1 34 [.tmp 2] fun call => (cv _ (sq (sq (sq se (sq (bl (lp (fun n e H => S510_0 call n e.x0.x0 e.x0.x3 e.x0.x9 e.x0.x10 e.x0.x11 H) fun n0 => cv _ (sq (sq (sq (cv (fun e H => S510_1 call (S510_0 call n0) e.x0.x0 e.x0.x3 e.x0.x9 e.x0.x10 e.x0.x11 H) se) (bl (sq (sq se (sq (sq (cv (fun e H => S510_2 call (S510_0 call n0) e.x0.x0 e.x0.x3 e.x0.x5 e.x0.x9 e.x0.x10 e.x0.x11 e.x1.x4 e.x1.x6 H) se) se) se)) se))) se) se))) se)) se) se))
theorem S511_ok : SO n511 S511 :=
 st2 20 [.tmp 4] fun call => (cv _ se)
theorem S512_ok : SO n512 S512 :=
 st1 8 [.tmp 2] fun call => (cv _ se)
theorem S513_ok : SO n513 S513 :=
 st2 72 [.tmp 4] fun call => (cv _ (sq (sq (sq se (sq (bl (lp (fun n e H => S513_0 call n e.x0.x3 e.x0.x5 e.x0.x14 e.x0.x15 e.x0.x16 H) fun n0 => cv _ (sq (sq (sq (cv (fun e H => S513_1 call (S513_0 call n0) e.x0.x3 e.x0.x5 e.x0.x14 e.x0.x15 e.x0.x16 H) se) (bl (sq (sq (sq (sq (sq (bl (lp (fun n e H => S513_2 call (S513_0 call n0) n e.x0.x3 e.x0.x5 e.x0.x7 e.x0.x8 e.x0.x14 e.x0.x15 e.x0.x16 e.x2.x4 e.x2.x5 e.x2.x6 H) fun n1 => cv _ (sq (sq (sq (cv (fun e H => S513_3 call (S513_2 call (S513_0 call n0) n1) e.x0.x3 e.x0.x5 e.x0.x7 e.x0.x8 e.x0.x14 e.x0.x15 e.x0.x16 e.x2.x4 e.x2.x5 e.x2.x6 H) se) (bl (sq (sq se (sq (sq (cv (fun e H => S513_4 call (S513_2 call (S513_0 call n0) n1) e.x0.x3 e.x0.x5 e.x0.x7 e.x0.x8 e.x0.x10 e.x0.x14 e.x0.x15 e.x0.x16 e.x2.x4 e.x2.x5 e.x2.x6 e.x3.x1 e.x3.x3 H) se) se) se)) se))) se) se))) se) (sq se (sq (sq (cv (fun e H => S513_5 call (S513_0 call n0) e.x0.x3 e.x0.x5 e.x0.x7 e.x0.x8 e.x0.x14 e.x0.x15 e.x0.x16 e.x1.x16 e.x2.x1 H) se) se) se))) se) se) se))) se) se))) se)) se) se))
end Go.Proofs.YtlmcgeiacfbdnaaGreatDoor
