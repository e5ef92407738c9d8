/- They stand for their bodies: part 3. -/
import Derived.Test.YtbjjgndgofakoaaGreatDoorLF3
import Derived.KernelRfl
namespace Go.Proofs.YtbjjgndgofakoaaGreatDoor
open Go.Ab
set_option maxRecDepth 100000
theorem S235_ok : Stands Tryz.prog [] 1000000 235 S235 :=
  stands_of (s := S235) 3 [.tmp 0] 0 (fun call _ H => S235_0 call H) (fun call _ H _ h => by obtain ⟨rfl, h⟩ := argA0_eq h; exact ⟨rfl, (show _ = S235_0 call H by kernel_rfl).trans h⟩)
    fun call => (cv (fun _ H => S235_0 call H) se)
theorem S236_ok : Stands Tryz.prog [] 1000000 236 S236 :=
  stands_of (s := S236) 19 [.tmp 4] 2 (fun call e H => S236_1 call e.x0.x0 e.x0.x1 H) (fun call _ H _ h => by obtain ⟨t0, t1, rfl, h⟩ := argA2_eq h; exact ⟨rfl, (show _ = S236_1 call t0 t1 H by kernel_rfl).trans h⟩)
    fun call => (cv (fun e H => S236_1 call e.x0.x0 e.x0.x1 H) (sq (sq se (sq (bl (lp (fun n e H => S236_0 call n e.x0.x0 e.x0.x1 e.x0.x7 e.x0.x8 H) fun _ => cv _ se)) se)) se))
theorem S237_ok : Stands Tryz.prog [] 1000000 237 S237 :=
  stands_of (s := S237) 9 [.tmp 2] 1 (fun call e H => S237_0 call e.x0.x0 H) (fun call _ H _ h => by obtain ⟨t0, rfl, h⟩ := argA1_eq h; exact ⟨rfl, (show _ = S237_0 call t0 H by kernel_rfl).trans h⟩)
    fun call => (cv (fun e H => S237_0 call e.x0.x0 H) se)
theorem S238_ok : Stands Tryz.prog [] 1000000 238 S238 :=
  stands_of (s := S238) 4 [.tmp 2] 1 (fun call e H => S238_0 call e.x0.x0 H) (fun call _ H _ h => by obtain ⟨t0, rfl, h⟩ := argA1_eq h; exact ⟨rfl, (show _ = S238_0 call t0 H by kernel_rfl).trans h⟩)
    fun call => (cv (fun e H => S238_0 call e.x0.x0 H) se)
theorem S253_ok : Stands Tryz.prog [] 1000000 253 S253 :=
  stands_of (s := S253) 17 [] 2 (fun call e H => S253_0 call e.x0.x0 e.x0.x1 H) (fun call _ H _ h => by obtain ⟨t0, t1, rfl, h⟩ := argA2_eq h; exact ⟨rfl, (show _ = S253_0 call t0 t1 H by kernel_rfl).trans h⟩)
    fun call => (cv (fun e H => S253_0 call e.x0.x0 e.x0.x1 H) se)
theorem S255_ok : Stands Tryz.prog [] 1000000 255 S255 :=
  stands_of (s := S255) 13 [] 2 (fun call e H => S255_0 call e.x0.x0 e.x0.x1 H) (fun call _ H _ h => by obtain ⟨t0, t1, rfl, h⟩ := argA2_eq h; exact ⟨rfl, (show _ = S255_0 call t0 t1 H by kernel_rfl).trans h⟩)
    fun call => (cv (fun e H => S255_0 call e.x0.x0 e.x0.x1 H) se)
theorem S261_ok : Stands Tryz.prog [] 1000000 261 S261 :=
  stands_of (s := S261) 109 [] 1 (fun call e H => S261_2 call e.x0.x0 H) (fun call _ H _ h => by obtain ⟨t0, rfl, h⟩ := argA1_eq h; exact ⟨rfl, (show _ = S261_2 call t0 H by kernel_rfl).trans h⟩)
    fun call => (cv (fun e H => S261_2 call e.x0.x0 H) (sq (sq (sq (sq (cv (fun e H => S261_0 call e.x0.x0 e.x0.x3 H) se) (sq (sq se (sq (sq (cv (fun e H => S261_1 call e.x0.x0 e.x0.x2 e.x0.x3 e.x0.x5 e.x4.x8 e.x4.x11 H) se) se) se)) se)) se) se) se))
theorem S281_ok : Stands Tryz.prog [] 1000000 281 S281 :=
  stands_of (s := S281) 19 [.tmp 4] 2 (fun call e H => S281_1 call e.x0.x0 e.x0.x1 H) (fun call _ H _ h => by obtain ⟨t0, t1, rfl, h⟩ := argA2_eq h; exact ⟨rfl, (show _ = S281_1 call t0 t1 H by kernel_rfl).trans h⟩)
    fun call => (cv (fun e H => S281_1 call e.x0.x0 e.x0.x1 H) (sq (sq se (sq (bl (lp (fun n e H => S281_0 call n e.x0.x0 e.x0.x1 e.x0.x7 e.x0.x8 H) fun _ => cv _ se)) se)) se))
theorem S282_ok : Stands Tryz.prog [] 1000000 282 S282 :=
  stands_of (s := S282) 19 [.tmp 4] 2 (fun call e H => S282_1 call e.x0.x0 e.x0.x1 H) (fun call _ H _ h => by obtain ⟨t0, t1, rfl, h⟩ := argA2_eq h; exact ⟨rfl, (show _ = S282_1 call t0 t1 H by kernel_rfl).trans h⟩)
    fun call => (cv (fun e H => S282_1 call e.x0.x0 e.x0.x1 H) (sq (sq se (sq (bl (lp (fun n e H => S282_0 call n e.x0.x0 e.x0.x1 e.x0.x7 e.x0.x8 H) fun _ => cv _ se)) se)) se))
theorem S283_ok : Stands Tryz.prog [] 1000000 283 S283 :=
  stands_of (s := S283) 11 [.tmp 3] 2 (fun call e H => S283_1 call e.x0.x0 e.x0.x1 H) (fun call _ H _ h => by obtain ⟨t0, t1, rfl, h⟩ := argA2_eq h; exact ⟨rfl, (show _ = S283_1 call t0 t1 H by kernel_rfl).trans h⟩)
    fun call => (cv (fun e H => S283_1 call e.x0.x0 e.x0.x1 H) (sq (sq se (sq (sq (cv (fun e H => S283_0 call e.x0.x6 e.x0.x9 H) se) se) se)) se))
theorem S284_ok : Stands Tryz.prog [] 1000000 284 S284 :=
  stands_of (s := S284) 16 [.tmp 4] 2 (fun call e H => S284_1 call e.x0.x0 e.x0.x1 H) (fun call _ H _ h => by obtain ⟨t0, t1, rfl, h⟩ := argA2_eq h; exact ⟨rfl, (show _ = S284_1 call t0 t1 H by kernel_rfl).trans h⟩)
    fun call => (cv (fun e H => S284_1 call e.x0.x0 e.x0.x1 H) (sq (sq se (sq (sq (cv (fun e H => S284_0 call e.x0.x7 e.x0.x14 H) se) se) se)) se))
theorem S291_ok : Stands Tryz.prog [] 1000000 291 S291 :=
  stands_of (s := S291) 9 [.tmp 4] 2 (fun call e H => S291_0 call e.x0.x0 e.x0.x1 H) (fun call _ H _ h => by obtain ⟨t0, t1, rfl, h⟩ := argA2_eq h; exact ⟨rfl, (show _ = S291_0 call t0 t1 H by kernel_rfl).trans h⟩)
    fun call => (cv (fun e H => S291_0 call e.x0.x0 e.x0.x1 H) se)
theorem S292_ok : Stands Tryz.prog [] 1000000 292 S292 :=
  stands_of (s := S292) 8 [.tmp 3] 2 (fun call e H => S292_0 call e.x0.x0 e.x0.x1 H) (fun call _ H _ h => by obtain ⟨t0, t1, rfl, h⟩ := argA2_eq h; exact ⟨rfl, (show _ = S292_0 call t0 t1 H by kernel_rfl).trans h⟩)
    fun call => (cv (fun e H => S292_0 call e.x0.x0 e.x0.x1 H) se)
theorem S295_ok : Stands Tryz.prog [] 1000000 295 S295 :=
  stands_of (s := S295) 11 [.tmp 6] 3 (fun call e H => S295_0 call e.x0.x0 e.x0.x1 e.x0.x2 H) (fun call _ H _ h => by obtain ⟨t0, t1, t2, rfl, h⟩ := argA3_eq h; exact ⟨rfl, (show _ = S295_0 call t0 t1 t2 H by kernel_rfl).trans h⟩)
    fun call => (cv (fun e H => S295_0 call e.x0.x0 e.x0.x1 e.x0.x2 H) se)
theorem S297_ok : Stands Tryz.prog [] 1000000 297 S297 :=
  stands_of (s := S297) 122 [.tmp 2] 1 (fun call e H => S297_15 call e.x0.x0 H) (fun call _ H _ h => by obtain ⟨t0, rfl, h⟩ := argA1_eq h; exact ⟨rfl, (show _ = S297_15 call t0 H by kernel_rfl).trans h⟩)
    fun call => (cv (fun e H => S297_15 call e.x0.x0 H) (sq (sq (sq se (sq (bl (sq (cn (sq (sq (sq se (sq (sq (cv (fun e H => S297_2 call e.x0.x0 e.x0.x3 e.x0.x4 e.x1.x16 e.x2.x0 H) (sq (sq (cv (fun e H => S297_1 call e.x1.x16 e.x2.x0 e.x2.x8 H) (sq (sq (cv (fun e H => S297_0 call e.x1.x16 e.x2.x9 H) se) se) se)) se) se)) se) se)) se) se) (sq (cn se (sq (cn (sq (sq se (sq (sq (cv (fun e H => S297_3 call e.x4.x1 e.x4.x10 H) se) se) se)) se) (sq (cn (sq (sq se (sq (sq (cv (fun e H => S297_14 call e.x0.x0 e.x0.x3 e.x5.x9 e.x5.x10 H) (sq (sq (cv (fun e H => S297_13 call e.x0.x3 e.x5.x9 e.x5.x10 e.x5.x11 H) (sq (sq (cv (fun e H => S297_12 call e.x0.x3 e.x5.x9 e.x5.x10 e.x5.x12 H) (sq (sq (cv (fun e H => S297_11 call e.x0.x3 e.x5.x9 e.x5.x10 e.x5.x13 H) (sq (sq (cv (fun e H => S297_10 call e.x0.x3 e.x5.x9 e.x5.x10 e.x5.x14 H) (sq (sq (cv (fun e H => S297_9 call e.x0.x3 e.x5.x9 e.x5.x10 e.x5.x15 H) (sq (sq (cv (fun e H => S297_8 call e.x0.x3 e.x5.x9 e.x5.x10 e.x5.x16 H) (sq (sq (cv (fun e H => S297_7 call e.x5.x9 e.x5.x10 e.x5.x16 e.x5.x17 H) (sq (sq (cv (fun e H => S297_6 call e.x5.x9 e.x5.x10 e.x5.x16 e.x5.x18 H) (sq (sq (cv (fun e H => S297_5 call e.x5.x9 e.x5.x10 e.x5.x16 e.x5.x19 H) (sq (sq (cv (fun e H => S297_4 call e.x5.x9 e.x6.x0 H) se) se) se)) se) se)) se) se)) se) se)) se) se)) se) se)) se) se)) se) se)) se) se)) se) se)) se) se)) se) se) se)) se)) se)) se)) se)) se) se))
theorem S298_ok : Stands Tryz.prog [] 1000000 298 S298 :=
  stands_of (s := S298) 49 [.tmp 2] 1 (fun call e H => S298_1 call e.x0.x0 H) (fun call _ H _ h => by obtain ⟨t0, rfl, h⟩ := argA1_eq h; exact ⟨rfl, (show _ = S298_1 call t0 H by kernel_rfl).trans h⟩)
    fun call => (cv (fun e H => S298_1 call e.x0.x0 H) (sq (sq se (sq (bl (sq (cn se (sq (cn se (sq (cn (sq (sq (sq se (sq (bl (lp (fun n e H => S298_0 call n e.x0.x3 e.x1.x16 e.x1.x17 e.x1.x18 H) fun _ => cv _ se)) se)) se) se) se) se)) se)) se)) se)) se))
theorem S305_ok : Stands Tryz.prog [] 1000000 305 S305 :=
  stands_of (s := S305) 19 [.tmp 4] 2 (fun call e H => S305_1 call e.x0.x0 e.x0.x1 H) (fun call _ H _ h => by obtain ⟨t0, t1, rfl, h⟩ := argA2_eq h; exact ⟨rfl, (show _ = S305_1 call t0 t1 H by kernel_rfl).trans h⟩)
    fun call => (cv (fun e H => S305_1 call e.x0.x0 e.x0.x1 H) (sq (sq se (sq (bl (lp (fun n e H => S305_0 call n e.x0.x0 e.x0.x1 e.x0.x7 e.x0.x8 H) fun _ => cv _ se)) se)) se))
theorem S306_ok : Stands Tryz.prog [] 1000000 306 S306 :=
  stands_of (s := S306) 16 [] 1 (fun call e H => S306_0 call e.x0.x0 H) (fun call _ H _ h => by obtain ⟨t0, rfl, h⟩ := argA1_eq h; exact ⟨rfl, (show _ = S306_0 call t0 H by kernel_rfl).trans h⟩)
    fun call => (cv (fun e H => S306_0 call e.x0.x0 H) se)
theorem S308_ok : Stands Tryz.prog [] 1000000 308 S308 :=
  stands_of (s := S308) 152 [.cell (.some 4) 2] 1 (fun call e H => S308_7 call e.x0.x0 H) (fun call _ H _ h => by obtain ⟨t0, rfl, h⟩ := argA1_eq h; exact ⟨rfl, (show _ = S308_7 call t0 H by kernel_rfl).trans h⟩)
    fun call => (cv (fun e H => S308_7 call e.x0.x0 H) (sq (sq (sq (cv (fun e H => S308_0 call e.x0.x2 e.x0.x3 H) se) (bl (sq (cn se (sq (cn se (sq (cn se (sq (cn se (sq (cn (sq (cv (fun e H => S308_1 call e.x0.x0 e.x0.x2 e.x0.x3 H) se) se) (sq (cn se (sq (cn (sq (sq (cv (fun e H => S308_2 call e.x0.x0 e.x0.x2 e.x0.x3 H) se) se) se) (sq (cn se (sq (cn (sq (sq (cv (fun e H => S308_3 call e.x0.x0 e.x0.x2 e.x0.x3 H) se) (bl (lp (fun n e H => S308_4 call n e.x0.x0 e.x0.x2 e.x0.x3 H) fun n0 => cv _ (sq se (sq se (sq (sq (cv (fun e H => S308_5 call (S308_4 call n0) e.x0.x0 e.x0.x2 e.x0.x3 e.x6.x16 e.x7.x0 H) se) se) se)))))) se) se) se)) se)) se)) (sq (sq (cv (fun e H => S308_6 call e.x0.x0 e.x0.x2 e.x0.x3 e.x4.x11 e.x4.x13 H) se) se) se))) se)) se)) se)) se)) se))) se) se))
theorem S309_ok : Stands Tryz.prog [] 1000000 309 S309 :=
  stands_of (s := S309) 15 [.tmp 4, .tmp 5] 2 (fun call e H => S309_0 call e.x0.x0 e.x0.x1 H) (fun call _ H _ h => by obtain ⟨t0, t1, rfl, h⟩ := argA2_eq h; exact ⟨rfl, (show _ = S309_0 call t0 t1 H by kernel_rfl).trans h⟩)
    fun call => (cv (fun e H => S309_0 call e.x0.x0 e.x0.x1 H) se)
theorem S310_ok : Stands Tryz.prog [] 1000000 310 S310 :=
  stands_of (s := S310) 5 [.cell (.some 4) 2] 1 (fun call e H => S310_0 call e.x0.x0 H) (fun call _ H _ h => by obtain ⟨t0, rfl, h⟩ := argA1_eq h; exact ⟨rfl, (show _ = S310_0 call t0 H by kernel_rfl).trans h⟩)
    fun call => (cv (fun e H => S310_0 call e.x0.x0 H) se)
theorem S321_ok : Stands Tryz.prog [] 1000000 321 S321 :=
  stands_of (s := S321) 34 [.tmp 4] 2 (fun call e H => S321_0 call e.x0.x0 e.x0.x1 H) (fun call _ H _ h => by obtain ⟨t0, t1, rfl, h⟩ := argA2_eq h; exact ⟨rfl, (show _ = S321_0 call t0 t1 H by kernel_rfl).trans h⟩)
    fun call => (cv (fun e H => S321_0 call e.x0.x0 e.x0.x1 H) se)
theorem S322_ok : Stands Tryz.prog [] 1000000 322 S322 :=
  stands_of (s := S322) 11 [.tmp 2] 1 (fun call e H => S322_0 call e.x0.x0 H) (fun call _ H _ h => by obtain ⟨t0, rfl, h⟩ := argA1_eq h; exact ⟨rfl, (show _ = S322_0 call t0 H by kernel_rfl).trans h⟩)
    fun call => (cv (fun e H => S322_0 call e.x0.x0 H) se)
theorem S335_ok : Stands Tryz.prog [] 1000000 335 S335 :=
  stands_of (s := S335) 133 [.cell (.some 4) 4] 2 (fun call e H => S335_4 call e.x0.x0 e.x0.x1 H) (fun call _ H _ h => by obtain ⟨t0, t1, rfl, h⟩ := argA2_eq h; exact ⟨rfl, (show _ = S335_4 call t0 t1 H by kernel_rfl).trans h⟩)
    fun call => (cv (fun e H => S335_4 call e.x0.x0 e.x0.x1 H) (sq (sq se (sq (bl (sq (cv (fun e H => S335_3 call e.x0.x0 e.x0.x3 e.x0.x4 e.x0.x9 e.x0.x10 H) (cn se (sq (cv (fun e H => S335_2 call e.x0.x0 e.x0.x3 e.x0.x4 e.x0.x9 e.x0.x14 H) (cn se (sq (cv (fun e H => S335_1 call e.x0.x0 e.x0.x3 e.x0.x4 e.x0.x9 e.x0.x18 H) (cn se (sq (cn se (sq (cn se (sq (cn se (sq (cn se (sq (cv (fun e H => S335_0 call e.x0.x0 e.x0.x3 e.x0.x4 e.x0.x9 e.x4.x13 H) se) se)) se)) se)) se)) se))) se))) se))) se)) se)) se))
theorem S340_ok : Stands Tryz.prog [] 1000000 340 S340 :=
  stands_of (s := S340) 5 [.tmp 2] 1 (fun call e H => S340_0 call e.x0.x0 H) (fun call _ H _ h => by obtain ⟨t0, rfl, h⟩ := argA1_eq h; exact ⟨rfl, (show _ = S340_0 call t0 H by kernel_rfl).trans h⟩)
    fun call => (cv (fun e H => S340_0 call e.x0.x0 H) se)
theorem S342_ok : Stands Tryz.prog [] 1000000 342 S342 :=
  stands_of (s := S342) 134 [] 4 (fun call e H => S342_0 call 1000000 e.x0.x0 e.x0.x1 e.x0.x2 e.x0.x3 (.bool true) (.bool true) H) (fun call _ H _ h => by obtain ⟨t0, t1, t2, t3, rfl, h⟩ := argA4_eq h; exact ⟨rfl, (show _ = S342_0 call 1000000 t0 t1 t2 t3 (.bool true) (.bool true) H by kernel_rfl).trans h⟩)
    fun call => (cv (fun e H => S342_0 call 1000000 e.x0.x0 e.x0.x1 e.x0.x2 e.x0.x3 (.bool true) (.bool true) H) (sq (sq (bl (lp (fun n e H => S342_0 call n e.x0.x0 e.x0.x1 e.x0.x2 e.x0.x3 e.x0.x8 e.x0.x9 H) fun n0 => cv _ (bl (sq (sq (sq (sq (cv (fun e H => S342_16 call (S342_0 call n0) e.x0.x0 e.x0.x1 e.x0.x2 e.x0.x3 e.x0.x8 e.x0.x9 e.x0.x10 H) (sq (sq (cv (fun e H => S342_15 call (S342_0 call n0) e.x0.x0 e.x0.x1 e.x0.x2 e.x0.x3 e.x0.x8 e.x0.x9 e.x0.x10 e.x0.x11 e.x0.x12 H) (sq (cv (fun e H => S342_12 call (S342_0 call n0) e.x0.x0 e.x0.x1 e.x0.x2 e.x0.x3 e.x0.x8 e.x0.x9 e.x0.x10 e.x0.x11 H) (sq se (sq se (sq (sq (cv (fun e H => S342_11 call (S342_0 call n0) e.x0.x0 e.x0.x1 e.x0.x2 e.x0.x3 e.x0.x8 e.x0.x9 e.x0.x10 e.x0.x11 e.x3.x15 e.x3.x16 H) (sq (sq (cv (fun e H => S342_10 call (S342_0 call n0) e.x0.x0 e.x0.x1 e.x0.x2 e.x0.x3 e.x0.x8 e.x0.x9 e.x0.x10 e.x0.x11 e.x3.x15 e.x3.x16 e.x3.x17 H) (sq (sq (cv (fun e H => S342_9 call (S342_0 call n0) e.x0.x0 e.x0.x1 e.x0.x2 e.x0.x3 e.x0.x8 e.x0.x9 e.x0.x10 e.x0.x11 e.x3.x15 e.x3.x16 e.x3.x18 H) (sq (sq (cv (fun e H => S342_8 call (S342_0 call n0) e.x0.x0 e.x0.x1 e.x0.x2 e.x0.x3 e.x0.x8 e.x0.x9 e.x0.x10 e.x0.x11 e.x3.x15 e.x3.x19 H) (sq (sq (cv (fun e H => S342_7 call (S342_0 call n0) e.x0.x0 e.x0.x1 e.x0.x2 e.x0.x3 e.x0.x8 e.x0.x9 e.x0.x10 e.x0.x11 e.x3.x15 e.x4.x0 H) (sq (sq (cv (fun e H => S342_6 call (S342_0 call n0) e.x0.x0 e.x0.x1 e.x0.x2 e.x0.x3 e.x0.x8 e.x0.x9 e.x0.x10 e.x0.x11 e.x3.x15 e.x4.x0 e.x4.x1 H) (sq (sq (cv (fun e H => S342_5 call (S342_0 call n0) e.x0.x0 e.x0.x1 e.x0.x2 e.x0.x3 e.x0.x8 e.x0.x9 e.x0.x10 e.x0.x11 e.x3.x15 e.x4.x0 e.x4.x1 e.x4.x2 H) (sq (sq (cv (fun e H => S342_4 call (S342_0 call n0) e.x0.x0 e.x0.x1 e.x0.x2 e.x0.x3 e.x0.x8 e.x0.x9 e.x0.x10 e.x0.x11 e.x3.x15 e.x4.x0 e.x4.x3 H) (sq (sq (cv (fun e H => S342_3 call (S342_0 call n0) e.x0.x0 e.x0.x1 e.x0.x2 e.x0.x3 e.x0.x8 e.x0.x9 e.x0.x10 e.x0.x11 e.x3.x15 e.x4.x0 e.x4.x4 H) (sq (sq (cv (fun e H => S342_2 call (S342_0 call n0) e.x0.x0 e.x0.x1 e.x0.x2 e.x0.x3 e.x0.x8 e.x0.x9 e.x0.x10 e.x0.x11 e.x3.x15 e.x4.x5 H) (sq (sq (cv (fun e H => S342_1 call (S342_0 call n0) e.x0.x0 e.x0.x1 e.x0.x2 e.x0.x3 e.x0.x8 e.x0.x9 e.x0.x10 e.x0.x11 e.x3.x15 e.x4.x6 H) se) se) se)) se) se)) se) se)) se) se)) se) se)) se) se)) se) se)) se) se)) se) se)) se) se)) se) se)))) (sq se (sq (sq (cv (fun e H => S342_14 call (S342_0 call n0) e.x0.x0 e.x0.x1 e.x0.x2 e.x0.x3 e.x0.x8 e.x0.x9 e.x0.x10 e.x0.x11 e.x0.x12 e.x3.x2 e.x3.x3 H) (sq (sq (cv (fun e H => S342_13 call (S342_0 call n0) e.x0.x0 e.x0.x1 e.x0.x2 e.x0.x3 e.x0.x8 e.x0.x9 e.x0.x10 e.x0.x11 e.x3.x5 e.x3.x7 H) se) se) se)) se) se)))) se) se)) se) se) se) se)))) se) se))
theorem S343_ok : Stands Tryz.prog [] 1000000 343 S343 :=
  stands_of (s := S343) 8 [.tmp 2] 1 (fun call e H => S343_0 call e.x0.x0 H) (fun call _ H _ h => by obtain ⟨t0, rfl, h⟩ := argA1_eq h; exact ⟨rfl, (show _ = S343_0 call t0 H by kernel_rfl).trans h⟩)
    fun call => (cv (fun e H => S343_0 call e.x0.x0 H) se)
theorem S361_ok : Stands Tryz.prog [] 1000000 361 S361 :=
  stands_of (s := S361) 31 [] 3 (fun call e H => S361_2 call e.x0.x0 e.x0.x1 e.x0.x2 H) (fun call _ H _ h => by obtain ⟨t0, t1, t2, rfl, h⟩ := argA3_eq h; exact ⟨rfl, (show _ = S361_2 call t0 t1 t2 H by kernel_rfl).trans h⟩)
    fun call => (cv (fun e H => S361_2 call e.x0.x0 e.x0.x1 e.x0.x2 H) (sq (sq se (sq (sq (cv (fun e H => S361_1 call e.x0.x1 e.x0.x2 e.x0.x6 e.x0.x11 e.x0.x13 H) (sq (sq (cv (fun e H => S361_0 call e.x0.x1 e.x0.x2 e.x0.x6 e.x0.x15 e.x1.x2 H) se) se) se)) se) se)) se))
theorem S372_ok : Stands Tryz.prog [] 1000000 372 S372 :=
  stands_of (s := S372) 29 [.tmp 2] 1 (fun call e H => S372_1 call e.x0.x0 H) (fun call _ H _ h => by obtain ⟨t0, rfl, h⟩ := argA1_eq h; exact ⟨rfl, (show _ = S372_1 call t0 H by kernel_rfl).trans h⟩)
    fun call => (cv (fun e H => S372_1 call e.x0.x0 H) (sq (sq (cv (fun e H => S372_0 call e.x0.x0 H) se) se) se))
theorem S373_ok : Stands Tryz.prog [] 1000000 373 S373 :=
  stands_of (s := S373) 9 [] 2 (fun call e H => S373_0 call e.x0.x0 e.x0.x1 H) (fun call _ H _ h => by obtain ⟨t0, t1, rfl, h⟩ := argA2_eq h; exact ⟨rfl, (show _ = S373_0 call t0 t1 H by kernel_rfl).trans h⟩)
    fun call => (cv (fun e H => S373_0 call e.x0.x0 e.x0.x1 H) se)
theorem S374_ok : Stands Tryz.prog [] 1000000 374 S374 :=
  stands_of (s := S374) 9 [] 2 (fun call e H => S374_0 call e.x0.x0 e.x0.x1 H) (fun call _ H _ h => by obtain ⟨t0, t1, rfl, h⟩ := argA2_eq h; exact ⟨rfl, (show _ = S374_0 call t0 t1 H by kernel_rfl).trans h⟩)
    fun call => (cv (fun e H => S374_0 call e.x0.x0 e.x0.x1 H) se)
theorem S393_ok : Stands Tryz.prog [] 1000000 393 S393 :=
  stands_of (s := S393) 15 [.tmp 4] 3 (fun call e H => S393_0 call e.x0.x0 e.x0.x1 e.x0.x2 H) (fun call _ H _ h => by obtain ⟨t0, t1, t2, rfl, h⟩ := argA3_eq h; exact ⟨rfl, (show _ = S393_0 call t0 t1 t2 H by kernel_rfl).trans h⟩)
    fun call => (cv (fun e H => S393_0 call e.x0.x0 e.x0.x1 e.x0.x2 H) se)
theorem S398_ok : Stands Tryz.prog [] 1000000 398 S398 :=
  stands_of (s := S398) 13 [.cell (.some 4) 2] 1 (fun call e H => S398_0 call e.x0.x0 H) (fun call _ H _ h => by obtain ⟨t0, rfl, h⟩ := argA1_eq h; exact ⟨rfl, (show _ = S398_0 call t0 H by kernel_rfl).trans h⟩)
    fun call => (cv (fun e H => S398_0 call e.x0.x0 H) se)
theorem S401_ok : Stands Tryz.prog [] 1000000 401 S401 :=
  stands_of (s := S401) 28 [.cell (.some 4) 2] 1 (fun call e H => S401_1 call e.x0.x0 H) (fun call _ H _ h => by obtain ⟨t0, rfl, h⟩ := argA1_eq h; exact ⟨rfl, (show _ = S401_1 call t0 H by kernel_rfl).trans h⟩)
    fun call => (cv (fun e H => S401_1 call e.x0.x0 H) (sq (sq (sq (sq (cv (fun e H => S401_0 call e.x0.x0 e.x0.x2 e.x0.x3 H) se) se) se) se) se))
theorem S406_ok : Stands Tryz.prog [] 1000000 406 S406 :=
  stands_of (s := S406) 19 [.tmp 4] 2 (fun call e H => S406_1 call e.x0.x0 e.x0.x1 H) (fun call _ H _ h => by obtain ⟨t0, t1, rfl, h⟩ := argA2_eq h; exact ⟨rfl, (show _ = S406_1 call t0 t1 H by kernel_rfl).trans h⟩)
    fun call => (cv (fun e H => S406_1 call e.x0.x0 e.x0.x1 H) (sq (sq se (sq (bl (lp (fun n e H => S406_0 call n e.x0.x0 e.x0.x1 e.x0.x7 e.x0.x8 H) fun _ => cv _ se)) se)) se))
theorem S407_ok : Stands Tryz.prog [] 1000000 407 S407 :=
  stands_of (s := S407) 25 [.tmp 6, .tmp 7] 3 (fun call e H => S407_0 call e.x0.x0 e.x0.x1 e.x0.x2 H) (fun call _ H _ h => by obtain ⟨t0, t1, t2, rfl, h⟩ := argA3_eq h; exact ⟨rfl, (show _ = S407_0 call t0 t1 t2 H by kernel_rfl).trans h⟩)
    fun call => (cv (fun e H => S407_0 call e.x0.x0 e.x0.x1 e.x0.x2 H) se)
theorem S417_ok : Stands Tryz.prog [] 1000000 417 S417 :=
  stands_of (s := S417) 5 [.tmp 2] 1 (fun call e H => S417_0 call e.x0.x0 H) (fun call _ H _ h => by obtain ⟨t0, rfl, h⟩ := argA1_eq h; exact ⟨rfl, (show _ = S417_0 call t0 H by kernel_rfl).trans h⟩)
    fun call => (cv (fun e H => S417_0 call e.x0.x0 H) se)
theorem S418_ok : Stands Tryz.prog [] 1000000 418 S418 :=
  stands_of (s := S418) 49 [] 3 (fun call e H => S418_13 call e.x0.x0 e.x0.x1 e.x0.x2 H) (fun call _ H _ h => by obtain ⟨t0, t1, t2, rfl, h⟩ := argA3_eq h; exact ⟨rfl, (show _ = S418_13 call t0 t1 t2 H by kernel_rfl).trans h⟩)
    fun call => (cv (fun e H => S418_13 call e.x0.x0 e.x0.x1 e.x0.x2 H) (sq (bl (lp (fun n e H => S418_0 call n e.x0.x0 e.x0.x1 e.x0.x2 e.x0.x6 H) fun n0 => cv _ (sq (sq (cv (fun e H => S418_1 call (S418_0 call n0) e.x0.x0 e.x0.x1 e.x0.x2 e.x0.x6 H) se) (bl (sq (bl (lp (fun n e H => S418_2 call (S418_0 call n0) n e.x0.x0 e.x0.x1 e.x0.x2 e.x0.x6 e.x0.x7 H) fun n1 => cv _ (sq se (sq se (sq (sq (cv (fun e H => S418_12 call (S418_0 call n0) (S418_2 call (S418_0 call n0) n1) e.x0.x0 e.x0.x1 e.x0.x2 e.x0.x6 e.x0.x7 e.x0.x19 e.x1.x0 H) (sq (sq (cv (fun e H => S418_11 call (S418_0 call n0) (S418_2 call (S418_0 call n0) n1) e.x0.x0 e.x0.x1 e.x0.x2 e.x0.x6 e.x0.x7 e.x0.x19 e.x1.x0 e.x1.x1 H) (sq (sq (cv (fun e H => S418_10 call (S418_0 call n0) (S418_2 call (S418_0 call n0) n1) e.x0.x0 e.x0.x1 e.x0.x2 e.x0.x6 e.x0.x7 e.x0.x19 e.x1.x2 H) (sq (sq (cv (fun e H => S418_9 call (S418_0 call n0) (S418_2 call (S418_0 call n0) n1) e.x0.x0 e.x0.x1 e.x0.x2 e.x0.x6 e.x0.x7 e.x0.x19 e.x1.x3 H) (sq (sq (cv (fun e H => S418_8 call (S418_0 call n0) (S418_2 call (S418_0 call n0) n1) e.x0.x0 e.x0.x1 e.x0.x2 e.x0.x6 e.x0.x7 e.x0.x19 e.x1.x3 e.x1.x4 H) (sq (sq (cv (fun e H => S418_7 call (S418_0 call n0) (S418_2 call (S418_0 call n0) n1) e.x0.x0 e.x0.x1 e.x0.x2 e.x0.x6 e.x0.x7 e.x0.x19 e.x1.x3 e.x1.x4 e.x1.x5 H) (sq (sq (cv (fun e H => S418_6 call (S418_0 call n0) (S418_2 call (S418_0 call n0) n1) e.x0.x0 e.x0.x1 e.x0.x2 e.x0.x6 e.x0.x7 e.x0.x19 e.x1.x3 e.x1.x4 e.x1.x6 H) (sq (sq (cv (fun e H => S418_5 call (S418_0 call n0) (S418_2 call (S418_0 call n0) n1) e.x0.x0 e.x0.x1 e.x0.x2 e.x0.x6 e.x0.x7 e.x0.x19 e.x1.x3 e.x1.x7 H) (sq (sq (cv (fun e H => S418_4 call (S418_0 call n0) (S418_2 call (S418_0 call n0) n1) e.x0.x0 e.x0.x1 e.x0.x2 e.x0.x6 e.x0.x7 e.x0.x19 e.x1.x3 e.x1.x8 H) (sq (sq (cv (fun e H => S418_3 call (S418_0 call n0) (S418_2 call (S418_0 call n0) n1) e.x0.x0 e.x0.x1 e.x0.x2 e.x0.x6 e.x0.x7 e.x0.x19 e.x1.x9 H) se) se) se)) se) se)) se) se)) se) se)) se) se)) se) se)) se) se)) se) se)) se) se)) se) se))))) se))) se))) se))
theorem S428_ok : Stands Tryz.prog [] 1000000 428 S428 :=
  stands_of (s := S428) 25 [.tmp 2] 1 (fun call e H => S428_3 call e.x0.x0 H) (fun call _ H _ h => by obtain ⟨t0, rfl, h⟩ := argA1_eq h; exact ⟨rfl, (show _ = S428_3 call t0 H by kernel_rfl).trans h⟩)
    fun call => (cv (fun e H => S428_3 call e.x0.x0 H) (sq (sq (cv (fun e H => S428_2 call e.x0.x0 e.x0.x2 H) (sq (cv (fun e H => S428_1 call e.x0.x0 e.x0.x2 H) (sq (cv (fun e H => S428_0 call e.x0.x0 e.x0.x2 H) se) se)) se)) se) se))
theorem S441_ok : Stands Tryz.prog [] 1000000 441 S441 :=
  stands_of (s := S441) 36 [.cell (.some 4) 8] 4 (fun call e H => S441_3 call e.x0.x0 e.x0.x1 e.x0.x2 e.x0.x3 H) (fun call _ H _ h => by obtain ⟨t0, t1, t2, t3, rfl, h⟩ := argA4_eq h; exact ⟨rfl, (show _ = S441_3 call t0 t1 t2 t3 H by kernel_rfl).trans h⟩)
    fun call => (cv (fun e H => S441_3 call e.x0.x0 e.x0.x1 e.x0.x2 e.x0.x3 H) (sq (sq (sq (cv (fun e H => S441_0 call e.x0.x8 e.x0.x9 H) se) (sq (bl (lp (fun n e H => S441_1 call n e.x0.x0 e.x0.x1 e.x0.x2 e.x0.x3 e.x0.x8 e.x0.x9 e.x0.x10 H) fun n0 => cv _ (sq se (sq se (sq (sq (cv (fun e H => S441_2 call (S441_1 call n0) e.x0.x0 e.x0.x1 e.x0.x2 e.x0.x3 e.x0.x8 e.x0.x9 e.x0.x10 e.x0.x17 e.x1.x0 H) se) se) se))))) se)) se) se))
theorem S442_ok : Stands Tryz.prog [] 1000000 442 S442 :=
  stands_of (s := S442) 13 [.cell (.some 4) 2] 1 (fun call e H => S442_0 call e.x0.x0 H) (fun call _ H _ h => by obtain ⟨t0, rfl, h⟩ := argA1_eq h; exact ⟨rfl, (show _ = S442_0 call t0 H by kernel_rfl).trans h⟩)
    fun call => (cv (fun e H => S442_0 call e.x0.x0 H) se)
theorem S445_ok : Stands Tryz.prog [] 1000000 445 S445 :=
  stands_of (s := S445) 73 [.tmp 6, .tmp 7] 3 (fun call e H => S445_5 call e.x0.x0 e.x0.x1 e.x0.x2 H) (fun call _ H _ h => by obtain ⟨t0, t1, t2, rfl, h⟩ := argA3_eq h; exact ⟨rfl, (show _ = S445_5 call t0 t1 t2 H by kernel_rfl).trans h⟩)
    fun call => (cv (fun e H => S445_5 call e.x0.x0 e.x0.x1 e.x0.x2 H) (sq (sq (sq (sq (cv (fun e H => S445_4 call e.x0.x0 e.x0.x1 e.x0.x2 e.x0.x8 H) (sq (sq (sq (sq (cv (fun e H => S445_2 call e.x0.x2 e.x0.x8 e.x0.x9 H) (sq (sq (sq se (sq se (sq (sq (cv (fun e H => S445_0 call e.x0.x8 e.x0.x9 e.x0.x10 e.x2.x18 e.x3.x1 H) se) se) se))) (sq se (sq (sq (cv (fun e H => S445_1 call e.x0.x8 e.x0.x9 e.x0.x10 e.x2.x8 e.x2.x11 H) se) se) se))) se)) se) (sq se (sq (sq (cv (fun e H => S445_3 call e.x0.x2 e.x0.x7 e.x0.x8 e.x0.x9 e.x1.x14 e.x1.x17 H) se) se) se))) se) se)) se) se) se) se))
theorem S461_ok : Stands Tryz.prog [] 1000000 461 S461 :=
  stands_of (s := S461) 8 [.cell (.some 4) 2] 1 (fun call e H => S461_0 call e.x0.x0 H) (fun call _ H _ h => by obtain ⟨t0, rfl, h⟩ := argA1_eq h; exact ⟨rfl, (show _ = S461_0 call t0 H by kernel_rfl).trans h⟩)
    fun call => (cv (fun e H => S461_0 call e.x0.x0 H) se)
theorem S474_ok : Stands Tryz.prog [] 1000000 474 S474 :=
  stands_of (s := S474) 13 [.cell (.some 4) 2] 1 (fun call e H => S474_0 call e.x0.x0 H) (fun call _ H _ h => by obtain ⟨t0, rfl, h⟩ := argA1_eq h; exact ⟨rfl, (show _ = S474_0 call t0 H by kernel_rfl).trans h⟩)
    fun call => (cv (fun e H => S474_0 call e.x0.x0 H) se)
theorem S482_ok : Stands Tryz.prog [] 1000000 482 S482 :=
  stands_of (s := S482) 13 [.cell (.some 4) 2] 1 (fun call e H => S482_0 call e.x0.x0 H) (fun call _ H _ h => by obtain ⟨t0, rfl, h⟩ := argA1_eq h; exact ⟨rfl, (show _ = S482_0 call t0 H by kernel_rfl).trans h⟩)
    fun call => (cv (fun e H => S482_0 call e.x0.x0 H) se)
theorem S485_ok : Stands Tryz.prog [] 1000000 485 S485 :=
  stands_of (s := S485) 24 [.cell (.some 4) 2] 1 (fun call e H => S485_1 call e.x0.x0 H) (fun call _ H _ h => by obtain ⟨t0, rfl, h⟩ := argA1_eq h; exact ⟨rfl, (show _ = S485_1 call t0 H by kernel_rfl).trans h⟩)
    fun call => (cv (fun e H => S485_1 call e.x0.x0 H) (sq (sq (sq (sq (df fun e0 => (cv (fun e H => S485_0 call e.x0.x0 e.x0.x2 e0.x0.x12 H) se)) se) se) se) se))
theorem S486_ok : Stands Tryz.prog [] 1000000 486 S486 :=
  stands_of (s := S486) 46 [.cell (.some 4) 2] 1 (fun call e H => S486_1 call e.x0.x0 H) (fun call _ H _ h => by obtain ⟨t0, rfl, h⟩ := argA1_eq h; exact ⟨rfl, (show _ = S486_1 call t0 H by kernel_rfl).trans h⟩)
    fun call => (cv (fun e H => S486_1 call e.x0.x0 H) (sq (sq (bl (lp (fun n e H => S486_0 call n e.x0.x0 e.x0.x2 e.x0.x3 H) fun _ => cv _ se)) se) se))
theorem S487_ok : Stands Tryz.prog [] 1000000 487 S487 :=
  stands_of (s := S487) 105 [.cell (.some 4) 2] 1 (fun call e H => S487_3 call e.x0.x0 H) (fun call _ H _ h => by obtain ⟨t0, rfl, h⟩ := argA1_eq h; exact ⟨rfl, (show _ = S487_3 call t0 H by kernel_rfl).trans h⟩)
    fun call => (cv (fun e H => S487_3 call e.x0.x0 H) (sq (sq (sq (sq (cv (fun e H => S487_0 call e.x0.x2 e.x0.x4 H) se) (bl (sq (cn se (sq (cn se (sq (cn se (sq (cn se (sq (cn se (sq (cn se (sq se (sq (sq (cv (fun e H => S487_1 call e.x0.x0 e.x0.x2 e.x0.x4 e.x3.x18 e.x4.x0 H) se) se) se))) se)) se)) se)) (sq (sq (cv (fun e H => S487_2 call e.x0.x0 e.x0.x2 e.x0.x4 e.x1.x17 e.x1.x19 H) se) se) se))) se)) se))) se) se) se))
end Go.Proofs.YtbjjgndgofakoaaGreatDoor
