/- They stand for their bodies: part 0. -/
import Derived.Test.YtlmmhkcimjjakaaGreatDoorLF0
import Derived.KernelRfl
namespace Go.Proofs.YtlmmhkcimjjakaaGreatDoor
open Go.Ab
set_option maxRecDepth 100000
theorem S6_ok : Stands Tryz.prog [0] 1000000 6 S6 :=
  stands_of (s := S6) 38 [.tmp 2] 1 (fun call e H => S6_1 call e.x0.x0 H) (fun call _ H _ h => by obtain ⟨t0, rfl, h⟩ := argA1_eq h; exact ⟨rfl, (show _ = S6_1 call t0 H by kernel_rfl).trans h⟩)
    fun call => (cv (fun e H => S6_1 call e.x0.x0 H) (sq (sq (sq (sq (sq se (sq se (sq (sq (cv (fun e H => S6_0 call e.x0.x0 e.x0.x3 e.x0.x18 e.x1.x1 H) se) se) se))) se) se) se) se))
theorem S7_ok : Stands Tryz.prog [0] 1000000 7 S7 :=
  stands_of (s := S7) 155 [.tmp 4] 2 (fun call e H => S7_15 call e.x0.x0 e.x0.x1 H) (fun call _ H _ h => by obtain ⟨t0, t1, rfl, h⟩ := argA2_eq h; exact ⟨rfl, (show _ = S7_15 call t0 t1 H by kernel_rfl).trans h⟩)
    fun call => (cv (fun e H => S7_15 call e.x0.x0 e.x0.x1 H) (sq (sq (sq (sq (sq (sq (sq (sq (cv (fun e H => S7_9 call e.x0.x0 e.x0.x1 e.x0.x5 H) (sq (sq (sq (cv (fun e H => S7_7 call e.x0.x0 e.x0.x1 e.x0.x5 e.x0.x9 e.x0.x10 e.x0.x11 e.x0.x12 H) (sq (sq (sq se (sq (sq (cv (fun e H => S7_3 call e.x0.x10 e.x0.x11 e.x6.x16 e.x6.x18 H) (sq (sq (cv (fun e H => S7_2 call e.x0.x10 e.x7.x0 e.x7.x2 H) (sq (sq (cv (fun e H => S7_1 call e.x0.x10 e.x7.x4 e.x7.x8 H) (sq (sq (cv (fun e H => S7_0 call e.x7.x10 e.x7.x13 H) se) se) se)) se) se)) se) se)) se) se)) (sq se (sq (sq (cv (fun e H => S7_6 call e.x0.x10 e.x0.x11 e.x0.x12 e.x0.x15 e.x0.x16 e.x6.x0 e.x6.x8 H) (sq (sq (cv (fun e H => S7_5 call e.x0.x10 e.x0.x11 e.x0.x12 e.x0.x16 e.x6.x0 e.x6.x8 e.x6.x11 H) (sq (sq (cv (fun e H => S7_4 call e.x0.x10 e.x0.x11 e.x0.x12 e.x0.x16 e.x6.x0 e.x6.x12 H) se) se) se)) se) se)) se) se))) se)) (sq (bl (lp (fun n e H => S7_8 call n e.x0.x0 e.x0.x1 e.x0.x5 e.x0.x9 e.x0.x10 e.x0.x11 e.x0.x12 e.x0.x13 H) fun _ => cv _ se)) se)) se) se)) (sq (bl (lp (fun n e H => S7_10 call n e.x0.x0 e.x0.x1 e.x0.x5 e.x0.x8 H) fun _ => cv _ se)) se)) (sq (bl (lp (fun n e H => S7_11 call n e.x0.x0 e.x0.x1 e.x0.x5 e.x0.x7 H) fun _ => cv _ se)) se)) se) se) se) (sq se (sq (sq (cv (fun e H => S7_14 call e.x0.x0 e.x0.x1 e.x1.x1 e.x1.x3 H) (sq (sq (cv (fun e H => S7_13 call e.x0.x0 e.x0.x1 e.x1.x5 e.x1.x7 H) (sq (sq (cv (fun e H => S7_12 call e.x0.x0 e.x0.x1 e.x1.x9 e.x1.x11 H) se) se) se)) se) se)) se) se))) se) se))
theorem S8_ok : Stands Tryz.prog [0] 1000000 8 S8 :=
  stands_of (s := S8) 99 [.tmp 0] 0 (fun call _ H => S8_13 call H) (fun call _ H _ h => by obtain ⟨rfl, h⟩ := argA0_eq h; exact ⟨rfl, (show _ = S8_13 call H by kernel_rfl).trans h⟩)
    fun call => (cv (fun _ H => S8_13 call H) (sq (sq (sq (sq (sq (sq se (sq (sq (cv (fun e H => S8_12 call e.x0.x1 e.x0.x3 e.x0.x4 e.x0.x5 e.x0.x6 e.x0.x7 e.x0.x8 e.x1.x17 e.x2.x0 H) (sq (sq (cv (fun e H => S8_11 call e.x0.x1 e.x0.x3 e.x0.x4 e.x0.x5 e.x0.x6 e.x0.x7 e.x0.x8 e.x2.x2 e.x2.x5 H) (sq (sq (cv (fun e H => S8_10 call e.x0.x1 e.x0.x3 e.x0.x4 e.x0.x5 e.x0.x6 e.x0.x7 e.x0.x8 e.x2.x7 e.x2.x11 H) (sq (sq (cv (fun e H => S8_9 call e.x0.x3 e.x0.x4 e.x0.x5 e.x0.x6 e.x0.x7 e.x0.x8 e.x2.x13 e.x2.x17 H) (sq (sq (cv (fun e H => S8_8 call e.x0.x3 e.x0.x4 e.x0.x6 e.x0.x7 e.x0.x8 e.x2.x19 e.x3.x1 H) (sq (sq (cv (fun e H => S8_7 call e.x0.x3 e.x0.x6 e.x0.x7 e.x0.x8 e.x3.x3 e.x3.x5 H) (sq (sq (cv (fun e H => S8_6 call e.x0.x3 e.x0.x6 e.x0.x7 e.x0.x8 e.x3.x7 e.x3.x10 H) (sq (sq (cv (fun e H => S8_5 call e.x0.x6 e.x0.x7 e.x0.x8 e.x3.x12 e.x3.x15 H) (sq (sq (cv (fun e H => S8_4 call e.x0.x6 e.x0.x8 e.x3.x17 e.x3.x19 H) (sq (sq (cv (fun e H => S8_3 call e.x0.x6 e.x0.x8 e.x4.x1 e.x4.x4 H) (sq (sq (cv (fun e H => S8_2 call e.x0.x8 e.x4.x6 e.x4.x9 H) (sq (sq (cv (fun e H => S8_1 call e.x0.x8 e.x4.x11 e.x4.x13 H) (sq (sq (cv (fun e H => S8_0 call e.x4.x15 e.x4.x17 H) se) se) se)) se) se)) se) se)) se) se)) se) se)) se) se)) se) se)) se) se)) se) se)) se) se)) se) se)) se) se)) se) se)) se) se) se) se) se))
theorem S9_ok : Stands Tryz.prog [0] 1000000 9 S9 :=
  stands_of (s := S9) 39 [.cell (.some 7) 6, .tmp 7] 3 (fun call e H => S9_2 call e.x0.x0 e.x0.x1 e.x0.x2 H) (fun call _ H _ h => by obtain ⟨t0, t1, t2, rfl, h⟩ := argA3_eq h; exact ⟨rfl, (show _ = S9_2 call t0 t1 t2 H by kernel_rfl).trans h⟩)
    fun call => (cv (fun e H => S9_2 call e.x0.x0 e.x0.x1 e.x0.x2 H) (sq (sq (sq (sq (sq (cv (fun e H => S9_0 call e.x0.x6 e.x0.x8 e.x0.x10 H) se) (sq (bl (lp (fun n e H => S9_1 call n e.x0.x6 e.x0.x8 e.x0.x10 e.x1.x3 e.x1.x4 e.x1.x5 H) fun _ => cv _ se)) se)) se) se) se) se))
theorem S10_ok : Stands Tryz.prog [0] 1000000 10 S10 :=
  stands_of (s := S10) 25 [.cell (.some 7) 6, .tmp 7] 3 (fun call e H => S10_0 call e.x0.x0 e.x0.x1 e.x0.x2 H) (fun call _ H _ h => by obtain ⟨t0, t1, t2, rfl, h⟩ := argA3_eq h; exact ⟨rfl, (show _ = S10_0 call t0 t1 t2 H by kernel_rfl).trans h⟩)
    fun call => (cv (fun e H => S10_0 call e.x0.x0 e.x0.x1 e.x0.x2 H) se)
theorem S11_ok : Stands Tryz.prog [0] 1000000 11 S11 :=
  stands_of (s := S11) 69 [.cell (.some 7) 8, .tmp 9, .tmp 10] 4 (fun call e H => S11_5 call e.x0.x0 e.x0.x1 e.x0.x2 e.x0.x3 H) (fun call _ H _ h => by obtain ⟨t0, t1, t2, t3, rfl, h⟩ := argA4_eq h; exact ⟨rfl, (show _ = S11_5 call t0 t1 t2 t3 H by kernel_rfl).trans h⟩)
    fun call => (cv (fun e H => S11_5 call e.x0.x0 e.x0.x1 e.x0.x2 e.x0.x3 H) (sq (sq (sq (sq (sq (sq (sq (cv (fun e H => S11_0 call e.x0.x8 e.x0.x11 e.x0.x13 e.x0.x14 H) se) (sq (bl (lp (fun n e H => S11_1 call n e.x0.x8 e.x0.x11 e.x0.x13 e.x0.x14 e.x1.x18 e.x1.x19 e.x2.x0 H) fun n0 => cv _ (sq (sq (sq (cv (fun e H => S11_2 call (S11_1 call n0) e.x0.x8 e.x0.x11 e.x0.x13 e.x0.x14 e.x1.x18 e.x1.x19 e.x2.x0 H) se) (bl (sq (sq se (sq se (sq (sq (cv (fun e H => S11_3 call (S11_1 call n0) e.x0.x8 e.x0.x11 e.x0.x13 e.x0.x14 e.x0.x16 e.x1.x18 e.x1.x19 e.x2.x0 e.x2.x6 e.x2.x11 H) se) se) se))) se))) se) se))) se)) se) se) se) se) (sq se (sq (sq (cv (fun e H => S11_4 call e.x0.x1 e.x0.x2 e.x0.x3 e.x0.x4 e.x0.x8 e.x0.x19 e.x1.x1 H) se) se) se))) se))
theorem S12_ok : Stands Tryz.prog [0] 1000000 12 S12 :=
  stands_of (s := S12) 11 [.cell (.some 6) 0] 0 (fun call _ H => S12_0 call H) (fun call _ H _ h => by obtain ⟨rfl, h⟩ := argA0_eq h; exact ⟨rfl, (show _ = S12_0 call H by kernel_rfl).trans h⟩)
    fun call => (cv (fun _ H => S12_0 call H) se)
theorem S15_ok : Stands Tryz.prog [0] 1000000 15 S15 :=
  stands_of (s := S15) 26 [.tmp 4] 2 (fun call e H => S15_1 call e.x0.x0 e.x0.x1 H) (fun call _ H _ h => by obtain ⟨t0, t1, rfl, h⟩ := argA2_eq h; exact ⟨rfl, (show _ = S15_1 call t0 t1 H by kernel_rfl).trans h⟩)
    fun call => (cv (fun e H => S15_1 call e.x0.x0 e.x0.x1 H) (sq (sq (sq se (sq (bl (lp (fun n e H => S15_0 call n e.x0.x0 e.x0.x1 e.x0.x5 H) fun _ => cv _ se)) se)) se) se))
theorem S17_ok : Stands Tryz.prog [0] 1000000 17 S17 :=
  stands_of (s := S17) 38 [.cell (.some 6) 0] 0 (fun call _ H => S17_0 call H) (fun call _ H _ h => by obtain ⟨rfl, h⟩ := argA0_eq h; exact ⟨rfl, (show _ = S17_0 call H by kernel_rfl).trans h⟩)
    fun call => (cv (fun _ H => S17_0 call H) se)
theorem S18_ok : Stands Tryz.prog [0] 1000000 18 S18 :=
  stands_of (s := S18) 47 [.tmp 4] 2 (fun call e H => S18_4 call e.x0.x0 e.x0.x1 H) (fun call _ H _ h => by obtain ⟨t0, t1, rfl, h⟩ := argA2_eq h; exact ⟨rfl, (show _ = S18_4 call t0 t1 H by kernel_rfl).trans h⟩)
    fun call => (cv (fun e H => S18_4 call e.x0.x0 e.x0.x1 H) (sq (sq (sq (cv (fun e H => S18_1 call e.x0.x2 e.x0.x3 e.x0.x5 H) (sq (sq se (sq (bl (lp (fun n e H => S18_0 call n e.x0.x5 e.x0.x8 e.x1.x14 e.x1.x15 H) fun _ => cv _ se)) se)) se)) (sq (bl (lp (fun n e H => S18_2 call n e.x0.x2 e.x0.x3 e.x0.x5 e.x0.x16 e.x0.x17 e.x0.x18 H) fun n1 => cv _ (sq (sq (sq (cv (fun e H => S18_3 call (S18_2 call n1) e.x0.x2 e.x0.x3 e.x0.x5 e.x0.x16 e.x0.x17 e.x0.x18 H) se) se) se) se))) se)) se) se))
theorem S19_ok : Stands Tryz.prog [0] 1000000 19 S19 :=
  stands_of (s := S19) 113 [.tmp 2] 1 (fun call e H => S19_8 call e.x0.x0 H) (fun call _ H _ h => by obtain ⟨t0, rfl, h⟩ := argA1_eq h; exact ⟨rfl, (show _ = S19_8 call t0 H by kernel_rfl).trans h⟩)
    fun call => (cv (fun e H => S19_8 call e.x0.x0 H) (sq (sq (sq (sq (cv (fun e H => S19_6 call e.x0.x1 e.x0.x3 H) (sq (sq (sq (cv (fun e H => S19_4 call e.x0.x1 e.x0.x3 H) (sq (sq (cv (fun e H => S19_2 call e.x0.x1 e.x0.x3 H) (sq (sq (cv (fun e H => S19_0 call e.x0.x1 e.x0.x3 H) se) (sq (bl (lp (fun n e H => S19_1 call n e.x0.x1 e.x0.x3 e.x4.x14 e.x4.x15 e.x4.x16 H) fun _ => cv _ se)) se)) se)) (sq (bl (lp (fun n e H => S19_3 call n e.x0.x1 e.x0.x3 e.x3.x9 e.x3.x10 e.x3.x11 H) fun _ => cv _ se)) se)) se)) (sq (bl (lp (fun n e H => S19_5 call n e.x0.x1 e.x0.x3 e.x2.x11 e.x2.x12 e.x2.x13 H) fun _ => cv _ se)) se)) se) se)) (sq (bl (lp (fun n e H => S19_7 call n e.x0.x1 e.x0.x3 e.x1.x2 e.x1.x3 e.x1.x4 H) fun _ => cv _ se)) se)) se) se) se))
theorem S20_ok : Stands Tryz.prog [0] 1000000 20 S20 :=
  stands_of (s := S20) 44 [.tmp 4, .tmp 5] 2 (fun call e H => S20_0 call e.x0.x0 e.x0.x1 H) (fun call _ H _ h => by obtain ⟨t0, t1, rfl, h⟩ := argA2_eq h; exact ⟨rfl, (show _ = S20_0 call t0 t1 H by kernel_rfl).trans h⟩)
    fun call => (cv (fun e H => S20_0 call e.x0.x0 e.x0.x1 H) se)
theorem S21_ok : Stands Tryz.prog [0] 1000000 21 S21 :=
  stands_of (s := S21) 55 [.tmp 4] 2 (fun call e H => S21_1 call e.x0.x0 e.x0.x1 H) (fun call _ H _ h => by obtain ⟨t0, t1, rfl, h⟩ := argA2_eq h; exact ⟨rfl, (show _ = S21_1 call t0 t1 H by kernel_rfl).trans h⟩)
    fun call => (cv (fun e H => S21_1 call e.x0.x0 e.x0.x1 H) (sq (sq (sq (cv (fun e H => S21_0 call e.x0.x0 e.x0.x1 H) se) se) se) se))
theorem S22_ok : Stands Tryz.prog [0] 1000000 22 S22 :=
  stands_of (s := S22) 27 [.cell (.some 7) 4] 2 (fun call e H => S22_0 call e.x0.x0 e.x0.x1 H) (fun call _ H _ h => by obtain ⟨t0, t1, rfl, h⟩ := argA2_eq h; exact ⟨rfl, (show _ = S22_0 call t0 t1 H by kernel_rfl).trans h⟩)
    fun call => (cv (fun e H => S22_0 call e.x0.x0 e.x0.x1 H) se)
theorem S23_ok : Stands Tryz.prog [0] 1000000 23 S23 :=
  stands_of (s := S23) 62 [.cell (.some 6) 2, .tmp 3] 1 (fun call e H => S23_1 call e.x0.x0 H) (fun call _ H _ h => by obtain ⟨t0, rfl, h⟩ := argA1_eq h; exact ⟨rfl, (show _ = S23_1 call t0 H by kernel_rfl).trans h⟩)
    fun call => (cv (fun e H => S23_1 call e.x0.x0 H) (sq (sq (sq (sq (sq (sq (sq (sq (sq (sq (sq se (sq se (sq (sq (cv (fun e H => S23_0 call e.x0.x2 e.x0.x5 e.x2.x12 e.x2.x18 H) se) se) se))) se) se) se) se) se) se) se) se) se) se))
theorem S24_ok : Stands Tryz.prog [0] 1000000 24 S24 :=
  stands_of (s := S24) 19 [.tmp 4] 2 (fun call e H => S24_1 call e.x0.x0 e.x0.x1 H) (fun call _ H _ h => by obtain ⟨t0, t1, rfl, h⟩ := argA2_eq h; exact ⟨rfl, (show _ = S24_1 call t0 t1 H by kernel_rfl).trans h⟩)
    fun call => (cv (fun e H => S24_1 call e.x0.x0 e.x0.x1 H) (sq (sq se (sq (sq (cv (fun e H => S24_0 call e.x0.x12 e.x0.x17 H) se) se) se)) se))
theorem S25_ok : Stands Tryz.prog [0] 1000000 25 S25 :=
  stands_of (s := S25) 26 [.tmp 6] 3 (fun call e H => S25_1 call e.x0.x0 e.x0.x1 e.x0.x2 H) (fun call _ H _ h => by obtain ⟨t0, t1, t2, rfl, h⟩ := argA3_eq h; exact ⟨rfl, (show _ = S25_1 call t0 t1 t2 H by kernel_rfl).trans h⟩)
    fun call => (cv (fun e H => S25_1 call e.x0.x0 e.x0.x1 e.x0.x2 H) (sq (sq se (sq (bl (lp (fun n e H => S25_0 call n e.x0.x0 e.x0.x1 e.x0.x2 e.x0.x7 H) fun _ => cv _ se)) se)) se))
theorem S26_ok : Stands Tryz.prog [0] 1000000 26 S26 :=
  stands_of (s := S26) 53 [.tmp 4] 2 (fun call e H => S26_4 call e.x0.x0 e.x0.x1 H) (fun call _ H _ h => by obtain ⟨t0, t1, rfl, h⟩ := argA2_eq h; exact ⟨rfl, (show _ = S26_4 call t0 t1 H by kernel_rfl).trans h⟩)
    fun call => (cv (fun e H => S26_4 call e.x0.x0 e.x0.x1 H) (sq (sq (sq (sq (cv (fun e H => S26_0 call e.x0.x5 H) se) (sq (bl (lp (fun n e H => S26_1 call n e.x0.x2 e.x0.x3 e.x0.x5 e.x0.x6 e.x0.x7 H) fun n0 => cv _ (sq (bl (sq (sq (bl (lp (fun n e H => S26_2 call (S26_1 call n0) n e.x0.x2 e.x0.x3 e.x0.x5 e.x0.x6 e.x0.x7 e.x0.x8 H) fun n1 => cv _ (sq (sq (cv (fun e H => S26_3 call (S26_2 call (S26_1 call n0) n1) e.x0.x2 e.x0.x3 e.x0.x5 e.x0.x6 e.x0.x7 e.x0.x8 H) se) se) se))) se) se)) se))) se)) se) se) se))
theorem S27_ok : Stands Tryz.prog [0] 1000000 27 S27 :=
  stands_of (s := S27) 2 [.tmp 0] 0 (fun call _ H => S27_0 call H) (fun call _ H _ h => by obtain ⟨rfl, h⟩ := argA0_eq h; exact ⟨rfl, (show _ = S27_0 call H by kernel_rfl).trans h⟩)
    fun call => (cv (fun _ H => S27_0 call H) se)
theorem S28_ok : Stands Tryz.prog [0] 1000000 28 S28 :=
  stands_of (s := S28) 32 [] 2 (fun call e H => S28_1 call 1000000 e.x0.x0 e.x0.x1 H) (fun call _ H _ h => by obtain ⟨t0, t1, rfl, h⟩ := argA2_eq h; exact ⟨rfl, (show _ = S28_1 call 1000000 t0 t1 H by kernel_rfl).trans h⟩)
    fun call => (cv (fun e H => S28_1 call 1000000 e.x0.x0 e.x0.x1 H) (sq (cv (fun e H => S28_0 call e.x0.x0 e.x0.x1 H) se) (bl (lp (fun n e H => S28_1 call n e.x0.x0 e.x0.x1 H) fun _ => cv _ se))))
theorem S29_ok : Stands Tryz.prog [0] 1000000 29 S29 :=
  stands_of (s := S29) 17 [] 2 (fun call e H => S29_1 call e.x0.x0 e.x0.x1 H) (fun call _ H _ h => by obtain ⟨t0, t1, rfl, h⟩ := argA2_eq h; exact ⟨rfl, (show _ = S29_1 call t0 t1 H by kernel_rfl).trans h⟩)
    fun call => (cv (fun e H => S29_1 call e.x0.x0 e.x0.x1 H) (sq (bl (lp (fun n e H => S29_0 call n e.x0.x0 e.x0.x6 e.x0.x7 e.x0.x8 H) fun _ => cv _ se)) se))
theorem S30_ok : Stands Tryz.prog [0] 1000000 30 S30 :=
  stands_of (s := S30) 23 [] 2 (fun call e H => S30_2 call e.x0.x0 e.x0.x1 H) (fun call _ H _ h => by obtain ⟨t0, t1, rfl, h⟩ := argA2_eq h; exact ⟨rfl, (show _ = S30_2 call t0 t1 H by kernel_rfl).trans h⟩)
    fun call => (cv (fun e H => S30_2 call e.x0.x0 e.x0.x1 H) (sq (sq (bl (lp (fun n e H => S30_0 call n e.x0.x0 e.x0.x11 e.x0.x12 e.x0.x13 H) fun n0 => cv _ (sq (sq (sq (cv (fun e H => S30_1 call (S30_0 call n0) e.x0.x0 e.x0.x11 e.x0.x12 e.x0.x13 H) se) se) se) se))) se) se))
theorem S31_ok : Stands Tryz.prog [0] 1000000 31 S31 :=
  stands_of (s := S31) 10 [.tmp 2] 1 (fun call e H => S31_0 call e.x0.x0 H) (fun call _ H _ h => by obtain ⟨t0, rfl, h⟩ := argA1_eq h; exact ⟨rfl, (show _ = S31_0 call t0 H by kernel_rfl).trans h⟩)
    fun call => (cv (fun e H => S31_0 call e.x0.x0 H) se)
theorem S32_ok : Stands Tryz.prog [0] 1000000 32 S32 :=
  stands_of (s := S32) 67 [] 2 (fun call e H => S32_3 call e.x0.x0 e.x0.x1 H) (fun call _ H _ h => by obtain ⟨t0, t1, rfl, h⟩ := argA2_eq h; exact ⟨rfl, (show _ = S32_3 call t0 t1 H by kernel_rfl).trans h⟩)
    fun call => (cv (fun e H => S32_3 call e.x0.x0 e.x0.x1 H) (sq (sq (sq (sq (sq (cv (fun e H => S32_1 call e.x0.x0 e.x0.x3 H) (sq (sq (bl (lp (fun n e H => S32_0 call n e.x0.x0 e.x2.x17 e.x2.x18 e.x2.x19 H) fun _ => cv _ se)) se) se)) (sq (bl (lp (fun n e H => S32_2 call n e.x0.x0 e.x0.x3 e.x1.x10 e.x1.x11 e.x1.x12 H) fun _ => cv _ se)) se)) se) se) se) se))
theorem S33_ok : Stands Tryz.prog [0] 1000000 33 S33 :=
  stands_of (s := S33) 11 [.tmp 2] 1 (fun call e H => S33_0 call e.x0.x0 H) (fun call _ H _ h => by obtain ⟨t0, rfl, h⟩ := argA1_eq h; exact ⟨rfl, (show _ = S33_0 call t0 H by kernel_rfl).trans h⟩)
    fun call => (cv (fun e H => S33_0 call e.x0.x0 H) se)
theorem S34_ok : Stands Tryz.prog [0] 1000000 34 S34 :=
  stands_of (s := S34) 46 [.tmp 4, .tmp 5] 2 (fun call e H => S34_2 call e.x0.x0 e.x0.x1 H) (fun call _ H _ h => by obtain ⟨t0, t1, rfl, h⟩ := argA2_eq h; exact ⟨rfl, (show _ = S34_2 call t0 t1 H by kernel_rfl).trans h⟩)
    fun call => (cv (fun e H => S34_2 call e.x0.x0 e.x0.x1 H) (sq (sq (sq (sq (sq (cv (fun e H => S34_0 call e.x0.x1 e.x0.x8 H) se) (sq (bl (lp (fun n e H => S34_1 call n e.x0.x1 e.x0.x6 e.x0.x8 e.x1.x4 e.x1.x5 e.x1.x6 H) fun _ => cv _ se)) se)) se) se) se) se))
theorem S35_ok : Stands Tryz.prog [0] 1000000 35 S35 :=
  stands_of (s := S35) 61 [.cell (.some 6) 2] 1 (fun call e H => S35_2 call e.x0.x0 H) (fun call _ H _ h => by obtain ⟨t0, rfl, h⟩ := argA1_eq h; exact ⟨rfl, (show _ = S35_2 call t0 H by kernel_rfl).trans h⟩)
    fun call => (cv (fun e H => S35_2 call e.x0.x0 H) (sq (sq (sq (sq (cv (fun e H => S35_0 call e.x0.x1 e.x0.x2 H) se) (sq (bl (lp (fun n e H => S35_1 call n e.x0.x1 e.x0.x2 e.x1.x7 e.x1.x8 H) fun _ => cv _ se)) se)) se) se) se))
theorem S36_ok : Stands Tryz.prog [0] 1000000 36 S36 :=
  stands_of (s := S36) 7 [.tmp 2] 1 (fun call e H => S36_0 call e.x0.x0 H) (fun call _ H _ h => by obtain ⟨t0, rfl, h⟩ := argA1_eq h; exact ⟨rfl, (show _ = S36_0 call t0 H by kernel_rfl).trans h⟩)
    fun call => (cv (fun e H => S36_0 call e.x0.x0 H) se)
theorem S37_ok : Stands Tryz.prog [0] 1000000 37 S37 :=
  stands_of (s := S37) 49 [.tmp 6, .tmp 7] 3 (fun call e H => S37_0 call e.x0.x0 e.x0.x1 e.x0.x2 H) (fun call _ H _ h => by obtain ⟨t0, t1, t2, rfl, h⟩ := argA3_eq h; exact ⟨rfl, (show _ = S37_0 call t0 t1 t2 H by kernel_rfl).trans h⟩)
    fun call => (cv (fun e H => S37_0 call e.x0.x0 e.x0.x1 e.x0.x2 H) se)
theorem S38_ok : Stands Tryz.prog [0] 1000000 38 S38 :=
  stands_of (s := S38) 23 [] 1 (fun call e H => S38_11 call e.x0.x0 H) (fun call _ H _ h => by obtain ⟨t0, rfl, h⟩ := argA1_eq h; exact ⟨rfl, (show _ = S38_11 call t0 H by kernel_rfl).trans h⟩)
    fun call => (cv (fun e H => S38_11 call e.x0.x0 H) (sq se (sq (sq (cv (fun e H => S38_10 call e.x0.x0 e.x0.x7 e.x0.x8 H) (sq (sq (cv (fun e H => S38_9 call e.x0.x0 e.x0.x7 e.x0.x9 H) (sq (sq (cv (fun e H => S38_8 call e.x0.x0 e.x0.x7 e.x0.x10 H) (sq (sq (cv (fun e H => S38_7 call e.x0.x0 e.x0.x7 e.x0.x11 H) (sq (sq (cv (fun e H => S38_6 call e.x0.x0 e.x0.x7 e.x0.x11 e.x0.x12 H) (sq (sq (cv (fun e H => S38_5 call e.x0.x0 e.x0.x7 e.x0.x11 e.x0.x13 H) (sq (sq (cv (fun e H => S38_4 call e.x0.x0 e.x0.x7 e.x0.x11 e.x0.x14 H) (sq (sq (cv (fun e H => S38_3 call e.x0.x0 e.x0.x7 e.x0.x11 e.x0.x15 H) (sq (sq (cv (fun e H => S38_2 call e.x0.x0 e.x0.x7 e.x0.x16 H) (sq (sq (cv (fun e H => S38_1 call e.x0.x0 e.x0.x7 e.x0.x17 H) (sq (sq (cv (fun e H => S38_0 call e.x0.x0 e.x0.x7 e.x0.x18 H) se) se) se)) se) se)) se) se)) se) se)) se) se)) se) se)) se) se)) se) se)) se) se)) se) se)) se) se)))
theorem S39_ok : Stands Tryz.prog [0] 1000000 39 S39 :=
  stands_of (s := S39) 12 [.tmp 2, .tmp 3] 1 (fun call e H => S39_0 call e.x0.x0 H) (fun call _ H _ h => by obtain ⟨t0, rfl, h⟩ := argA1_eq h; exact ⟨rfl, (show _ = S39_0 call t0 H by kernel_rfl).trans h⟩)
    fun call => (cv (fun e H => S39_0 call e.x0.x0 H) se)
theorem S40_ok : Stands Tryz.prog [0] 1000000 40 S40 :=
  stands_of (s := S40) 17 [.tmp 2] 1 (fun call e H => S40_0 call e.x0.x0 H) (fun call _ H _ h => by obtain ⟨t0, rfl, h⟩ := argA1_eq h; exact ⟨rfl, (show _ = S40_0 call t0 H by kernel_rfl).trans h⟩)
    fun call => (cv (fun e H => S40_0 call e.x0.x0 H) se)
theorem S41_ok : Stands Tryz.prog [0] 1000000 41 S41 :=
  stands_of (s := S41) 23 [.tmp 2] 1 (fun call e H => S41_0 call e.x0.x0 H) (fun call _ H _ h => by obtain ⟨t0, rfl, h⟩ := argA1_eq h; exact ⟨rfl, (show _ = S41_0 call t0 H by kernel_rfl).trans h⟩)
    fun call => (cv (fun e H => S41_0 call e.x0.x0 H) se)
theorem S42_ok : Stands Tryz.prog [0] 1000000 42 S42 :=
  stands_of (s := S42) 112 [.tmp 6] 3 (fun call e H => S42_4 call e.x0.x0 e.x0.x1 e.x0.x2 H) (fun call _ H _ h => by obtain ⟨t0, t1, t2, rfl, h⟩ := argA3_eq h; exact ⟨rfl, (show _ = S42_4 call t0 t1 t2 H by kernel_rfl).trans h⟩)
    fun call => (cv (fun e H => S42_4 call e.x0.x0 e.x0.x1 e.x0.x2 H) (sq (sq (sq (sq (sq (sq (sq (sq (sq (sq (cv (fun e H => S42_0 call e.x0.x0 H) se) (sq se (sq (sq (cv (fun e H => S42_2 call e.x0.x0 e.x0.x1 e.x0.x2 e.x0.x7 e.x0.x9 e.x0.x11 e.x3.x15 e.x4.x0 H) (sq (sq (cv (fun e H => S42_1 call e.x0.x0 e.x0.x1 e.x0.x2 e.x0.x7 e.x0.x9 e.x0.x11 e.x4.x2 e.x4.x7 H) se) se) se)) se) se))) se) se) se) se) se) se) (sq se (sq (sq (cv (fun e H => S42_3 call e.x0.x0 e.x0.x1 e.x0.x2 e.x0.x7 e.x1.x0 e.x1.x4 H) se) se) se))) se) se))
theorem S43_ok : Stands Tryz.prog [0] 1000000 43 S43 :=
  stands_of (s := S43) 9 [.tmp 4] 2 (fun call e H => S43_0 call e.x0.x0 e.x0.x1 H) (fun call _ H _ h => by obtain ⟨t0, t1, rfl, h⟩ := argA2_eq h; exact ⟨rfl, (show _ = S43_0 call t0 t1 H by kernel_rfl).trans h⟩)
    fun call => (cv (fun e H => S43_0 call e.x0.x0 e.x0.x1 H) se)
theorem S44_ok : Stands Tryz.prog [0] 1000000 44 S44 :=
  stands_of (s := S44) 8 [.tmp 2] 1 (fun call e H => S44_0 call e.x0.x0 H) (fun call _ H _ h => by obtain ⟨t0, rfl, h⟩ := argA1_eq h; exact ⟨rfl, (show _ = S44_0 call t0 H by kernel_rfl).trans h⟩)
    fun call => (cv (fun e H => S44_0 call e.x0.x0 H) se)
theorem S45_ok : Stands Tryz.prog [0] 1000000 45 S45 :=
  stands_of (s := S45) 7 [.tmp 2] 1 (fun call e H => S45_0 call e.x0.x0 H) (fun call _ H _ h => by obtain ⟨t0, rfl, h⟩ := argA1_eq h; exact ⟨rfl, (show _ = S45_0 call t0 H by kernel_rfl).trans h⟩)
    fun call => (cv (fun e H => S45_0 call e.x0.x0 H) se)
theorem S46_ok : Stands Tryz.prog [0] 1000000 46 S46 :=
  stands_of (s := S46) 7 [.tmp 2] 1 (fun call e H => S46_0 call e.x0.x0 H) (fun call _ H _ h => by obtain ⟨t0, rfl, h⟩ := argA1_eq h; exact ⟨rfl, (show _ = S46_0 call t0 H by kernel_rfl).trans h⟩)
    fun call => (cv (fun e H => S46_0 call e.x0.x0 H) se)
theorem S47_ok : Stands Tryz.prog [0] 1000000 47 S47 :=
  stands_of (s := S47) 7 [.tmp 2] 1 (fun call e H => S47_0 call e.x0.x0 H) (fun call _ H _ h => by obtain ⟨t0, rfl, h⟩ := argA1_eq h; exact ⟨rfl, (show _ = S47_0 call t0 H by kernel_rfl).trans h⟩)
    fun call => (cv (fun e H => S47_0 call e.x0.x0 H) se)
theorem S48_ok : Stands Tryz.prog [0] 1000000 48 S48 :=
  stands_of (s := S48) 7 [.tmp 2] 1 (fun call e H => S48_0 call e.x0.x0 H) (fun call _ H _ h => by obtain ⟨t0, rfl, h⟩ := argA1_eq h; exact ⟨rfl, (show _ = S48_0 call t0 H by kernel_rfl).trans h⟩)
    fun call => (cv (fun e H => S48_0 call e.x0.x0 H) se)
theorem S49_ok : Stands Tryz.prog [0] 1000000 49 S49 :=
  stands_of (s := S49) 8 [.tmp 2] 1 (fun call e H => S49_0 call e.x0.x0 H) (fun call _ H _ h => by obtain ⟨t0, rfl, h⟩ := argA1_eq h; exact ⟨rfl, (show _ = S49_0 call t0 H by kernel_rfl).trans h⟩)
    fun call => (cv (fun e H => S49_0 call e.x0.x0 H) se)
theorem S50_ok : Stands Tryz.prog [0] 1000000 50 S50 :=
  stands_of (s := S50) 26 [.tmp 4] 2 (fun call e H => S50_1 call e.x0.x0 e.x0.x1 H) (fun call _ H _ h => by obtain ⟨t0, t1, rfl, h⟩ := argA2_eq h; exact ⟨rfl, (show _ = S50_1 call t0 t1 H by kernel_rfl).trans h⟩)
    fun call => (cv (fun e H => S50_1 call e.x0.x0 e.x0.x1 H) (sq (sq (sq se (sq (bl (lp (fun n e H => S50_0 call n e.x0.x0 e.x0.x1 e.x0.x12 e.x0.x13 H) fun _ => cv _ se)) se)) se) se))
theorem S51_ok : Stands Tryz.prog [0] 1000000 51 S51 :=
  stands_of (s := S51) 21 [.tmp 4] 2 (fun call e H => S51_1 call e.x0.x0 e.x0.x1 H) (fun call _ H _ h => by obtain ⟨t0, t1, rfl, h⟩ := argA2_eq h; exact ⟨rfl, (show _ = S51_1 call t0 t1 H by kernel_rfl).trans h⟩)
    fun call => (cv (fun e H => S51_1 call e.x0.x0 e.x0.x1 H) (sq (sq (sq se (sq (bl (lp (fun n e H => S51_0 call n e.x0.x0 e.x0.x1 e.x0.x5 e.x0.x7 e.x0.x8 H) fun _ => cv _ se)) se)) se) se))
theorem S53_ok : Stands Tryz.prog [0] 1000000 53 S53 :=
  stands_of (s := S53) 6 [.tmp 2] 1 (fun call e H => S53_0 call e.x0.x0 H) (fun call _ H _ h => by obtain ⟨t0, rfl, h⟩ := argA1_eq h; exact ⟨rfl, (show _ = S53_0 call t0 H by kernel_rfl).trans h⟩)
    fun call => (cv (fun e H => S53_0 call e.x0.x0 H) se)
theorem S54_ok : Stands Tryz.prog [0] 1000000 54 S54 :=
  stands_of (s := S54) 32 [.tmp 2] 1 (fun call e H => S54_1 call e.x0.x0 H) (fun call _ H _ h => by obtain ⟨t0, rfl, h⟩ := argA1_eq h; exact ⟨rfl, (show _ = S54_1 call t0 H by kernel_rfl).trans h⟩)
    fun call => (cv (fun e H => S54_1 call e.x0.x0 H) (sq (sq (sq (cv (fun e H => S54_0 call e.x0.x0 e.x0.x3 e.x0.x4 H) se) se) se) se))
theorem S55_ok : Stands Tryz.prog [0] 1000000 55 S55 :=
  stands_of (s := S55) 21 [.tmp 4] 2 (fun call e H => S55_1 call e.x0.x0 e.x0.x1 H) (fun call _ H _ h => by obtain ⟨t0, t1, rfl, h⟩ := argA2_eq h; exact ⟨rfl, (show _ = S55_1 call t0 t1 H by kernel_rfl).trans h⟩)
    fun call => (cv (fun e H => S55_1 call e.x0.x0 e.x0.x1 H) (sq (sq (sq se (sq (bl (lp (fun n e H => S55_0 call n e.x0.x0 e.x0.x1 e.x0.x5 e.x0.x7 e.x0.x8 H) fun _ => cv _ se)) se)) se) se))
theorem S56_ok : Stands Tryz.prog [0] 1000000 56 S56 :=
  stands_of (s := S56) 19 [.tmp 2] 1 (fun call e H => S56_1 call e.x0.x0 H) (fun call _ H _ h => by obtain ⟨t0, rfl, h⟩ := argA1_eq h; exact ⟨rfl, (show _ = S56_1 call t0 H by kernel_rfl).trans h⟩)
    fun call => (cv (fun e H => S56_1 call e.x0.x0 H) (sq (sq (sq se (sq (sq (cv (fun e H => S56_0 call e.x0.x3 e.x0.x6 e.x0.x11 e.x0.x13 H) se) se) se)) se) se))
theorem S57_ok : Stands Tryz.prog [0] 1000000 57 S57 :=
  stands_of (s := S57) 21 [.tmp 4] 2 (fun call e H => S57_1 call e.x0.x0 e.x0.x1 H) (fun call _ H _ h => by obtain ⟨t0, t1, rfl, h⟩ := argA2_eq h; exact ⟨rfl, (show _ = S57_1 call t0 t1 H by kernel_rfl).trans h⟩)
    fun call => (cv (fun e H => S57_1 call e.x0.x0 e.x0.x1 H) (sq (sq (sq se (sq (bl (lp (fun n e H => S57_0 call n e.x0.x0 e.x0.x1 e.x0.x5 e.x0.x7 e.x0.x8 H) fun _ => cv _ se)) se)) se) se))
theorem S58_ok : Stands Tryz.prog [0] 1000000 58 S58 :=
  stands_of (s := S58) 5 [.tmp 1] 1 (fun call e H => S58_0 call e.x0.x0 H) (fun call _ H _ h => by obtain ⟨t0, rfl, h⟩ := argA1_eq h; exact ⟨rfl, (show _ = S58_0 call t0 H by kernel_rfl).trans h⟩)
    fun call => (cv (fun e H => S58_0 call e.x0.x0 H) se)
theorem S59_ok : Stands Tryz.prog [0] 1000000 59 S59 :=
  stands_of (s := S59) 11 [.tmp 2] 1 (fun call e H => S59_0 call e.x0.x0 H) (fun call _ H _ h => by obtain ⟨t0, rfl, h⟩ := argA1_eq h; exact ⟨rfl, (show _ = S59_0 call t0 H by kernel_rfl).trans h⟩)
    fun call => (cv (fun e H => S59_0 call e.x0.x0 H) se)
theorem S60_ok : Stands Tryz.prog [0] 1000000 60 S60 :=
  stands_of (s := S60) 21 [.tmp 4] 2 (fun call e H => S60_1 call e.x0.x0 e.x0.x1 H) (fun call _ H _ h => by obtain ⟨t0, t1, rfl, h⟩ := argA2_eq h; exact ⟨rfl, (show _ = S60_1 call t0 t1 H by kernel_rfl).trans h⟩)
    fun call => (cv (fun e H => S60_1 call e.x0.x0 e.x0.x1 H) (sq (sq (sq se (sq (bl (lp (fun n e H => S60_0 call n e.x0.x0 e.x0.x1 e.x0.x5 e.x0.x7 e.x0.x8 H) fun _ => cv _ se)) se)) se) se))
theorem S62_ok : Stands Tryz.prog [0] 1000000 62 S62 :=
  stands_of (s := S62) 21 [.tmp 4] 2 (fun call e H => S62_1 call e.x0.x0 e.x0.x1 H) (fun call _ H _ h => by obtain ⟨t0, t1, rfl, h⟩ := argA2_eq h; exact ⟨rfl, (show _ = S62_1 call t0 t1 H by kernel_rfl).trans h⟩)
    fun call => (cv (fun e H => S62_1 call e.x0.x0 e.x0.x1 H) (sq (sq (sq se (sq (bl (lp (fun n e H => S62_0 call n e.x0.x0 e.x0.x1 e.x0.x5 e.x0.x7 e.x0.x8 H) fun _ => cv _ se)) se)) se) se))
theorem S63_ok : Stands Tryz.prog [0] 1000000 63 S63 :=
  stands_of (s := S63) 28 [.cell (.some 7) 2] 1 (fun call e H => S63_0 call e.x0.x0 H) (fun call _ H _ h => by obtain ⟨t0, rfl, h⟩ := argA1_eq h; exact ⟨rfl, (show _ = S63_0 call t0 H by kernel_rfl).trans h⟩)
    fun call => (cv (fun e H => S63_0 call e.x0.x0 H) se)
theorem S64_ok : Stands Tryz.prog [0] 1000000 64 S64 :=
  stands_of (s := S64) 51 [.tmp 6] 3 (fun call e H => S64_2 call e.x0.x0 e.x0.x1 e.x0.x2 H) (fun call _ H _ h => by obtain ⟨t0, t1, t2, rfl, h⟩ := argA3_eq h; exact ⟨rfl, (show _ = S64_2 call t0 t1 t2 H by kernel_rfl).trans h⟩)
    fun call => (cv (fun e H => S64_2 call e.x0.x0 e.x0.x1 e.x0.x2 H) (sq (sq (sq (sq (sq (sq se (sq (bl (lp (fun n e H => S64_0 call n e.x0.x0 e.x2.x2 e.x2.x3 H) fun _ => cv _ se)) se)) se) se) (sq se (sq (sq (cv (fun e H => S64_1 call e.x0.x0 e.x0.x1 e.x0.x2 e.x0.x7 e.x0.x16 e.x1.x1 H) se) se) se))) se) se))
theorem S65_ok : Stands Tryz.prog [0] 1000000 65 S65 :=
  stands_of (s := S65) 78 [.tmp 5] 4 (fun call e H => S65_5 call e.x0.x0 e.x0.x1 e.x0.x2 e.x0.x3 H) (fun call _ H _ h => by obtain ⟨t0, t1, t2, t3, rfl, h⟩ := argA4_eq h; exact ⟨rfl, (show _ = S65_5 call t0 t1 t2 t3 H by kernel_rfl).trans h⟩)
    fun call => (cv (fun e H => S65_5 call e.x0.x0 e.x0.x1 e.x0.x2 e.x0.x3 H) (sq (sq (sq (cv (fun e H => S65_1 call e.x0.x0 e.x0.x1 e.x0.x2 e.x0.x3 e.x0.x6 H) (sq se (sq (bl (lp (fun n e H => S65_0 call n e.x0.x3 e.x0.x6 e.x3.x4 e.x3.x5 e.x3.x6 H) fun _ => cv _ se)) se))) (sq (sq (cn (sq se (sq (bl (lp (fun n e H => S65_2 call n e.x0.x1 e.x0.x3 e.x0.x6 e.x1.x3 e.x1.x4 e.x1.x5 H) fun n1 => cv _ (sq (sq (sq (cv (fun e H => S65_3 call (S65_2 call n1) e.x0.x1 e.x0.x3 e.x0.x6 e.x1.x3 e.x1.x4 e.x1.x5 H) se) (bl (sq (sq se (sq se (sq (sq (cv (fun e H => S65_4 call (S65_2 call n1) e.x0.x1 e.x0.x3 e.x0.x6 e.x0.x9 e.x1.x3 e.x1.x4 e.x1.x5 e.x1.x12 e.x1.x18 H) se) se) se))) se))) se) se))) se)) se) se) se)) se) se))
theorem S66_ok : Stands Tryz.prog [0] 1000000 66 S66 :=
  stands_of (s := S66) 42 [.tmp 4] 2 (fun call e H => S66_3 call e.x0.x0 e.x0.x1 H) (fun call _ H _ h => by obtain ⟨t0, t1, rfl, h⟩ := argA2_eq h; exact ⟨rfl, (show _ = S66_3 call t0 t1 H by kernel_rfl).trans h⟩)
    fun call => (cv (fun e H => S66_3 call e.x0.x0 e.x0.x1 H) (sq (sq se (sq se (sq (sq (cv (fun e H => S66_2 call e.x0.x2 e.x0.x3 e.x0.x8 e.x0.x11 H) (sq (sq (cv (fun e H => S66_1 call e.x0.x2 e.x0.x3 e.x0.x13 e.x0.x19 H) (sq (sq (cv (fun e H => S66_0 call e.x0.x2 e.x0.x3 e.x1.x1 e.x1.x10 H) se) se) se)) se) se)) se) se))) se))
theorem S67_ok : Stands Tryz.prog [0] 1000000 67 S67 :=
  stands_of (s := S67) 25 [.tmp 2] 1 (fun call e H => S67_3 call e.x0.x0 H) (fun call _ H _ h => by obtain ⟨t0, rfl, h⟩ := argA1_eq h; exact ⟨rfl, (show _ = S67_3 call t0 H by kernel_rfl).trans h⟩)
    fun call => (cv (fun e H => S67_3 call e.x0.x0 H) (sq (sq (sq se (sq (bl (lp (fun n e H => S67_0 call n e.x0.x3 e.x0.x6 e.x0.x7 e.x0.x8 H) fun n0 => cv _ (sq (sq (sq (cv (fun e H => S67_1 call (S67_0 call n0) e.x0.x3 e.x0.x6 e.x0.x7 e.x0.x8 H) se) (bl (sq (sq se (sq (sq (cv (fun e H => S67_2 call (S67_0 call n0) e.x0.x3 e.x0.x5 e.x0.x6 e.x0.x7 e.x0.x8 e.x0.x14 e.x0.x16 H) se) se) se)) se))) se) se))) se)) se) se))
theorem S68_ok : Stands Tryz.prog [0] 1000000 68 S68 :=
  stands_of (s := S68) 68 [.tmp 6] 3 (fun call e H => S68_4 call e.x0.x0 e.x0.x1 e.x0.x2 H) (fun call _ H _ h => by obtain ⟨t0, t1, t2, rfl, h⟩ := argA3_eq h; exact ⟨rfl, (show _ = S68_4 call t0 t1 t2 H by kernel_rfl).trans h⟩)
    fun call => (cv (fun e H => S68_4 call e.x0.x0 e.x0.x1 e.x0.x2 H) (sq (sq (sq (sq (cv (fun e H => S68_0 call e.x0.x4 e.x0.x7 H) se) (sq (sq (bl (sq (cn se (sq (cn se (sq (cv (fun e H => S68_2 call e.x0.x2 e.x0.x3 e.x0.x4 e.x0.x7 e.x0.x8 e.x1.x6 e.x2.x2 H) (cn se (sq (cn (sq (bl (lp (fun n e H => S68_1 call n e.x0.x4 e.x0.x7 e.x2.x9 e.x2.x10 e.x2.x11 H) fun _ => cv _ se)) se) se) se))) se)) se)) se)) se) se)) se) (sq se (sq (sq (cv (fun e H => S68_3 call e.x0.x2 e.x0.x3 e.x0.x4 e.x0.x13 e.x0.x18 H) se) se) se))) se))
theorem S69_ok : Stands Tryz.prog [0] 1000000 69 S69 :=
  stands_of (s := S69) 179 [.tmp 4] 2 (fun call e H => S69_12 call e.x0.x0 e.x0.x1 H) (fun call _ H _ h => by obtain ⟨t0, t1, rfl, h⟩ := argA2_eq h; exact ⟨rfl, (show _ = S69_12 call t0 t1 H by kernel_rfl).trans h⟩)
    fun call => (cv (fun e H => S69_12 call e.x0.x0 e.x0.x1 H) (sq (sq se (sq (bl (sq (cn se (sq (cn se (sq (cn se (sq (cn se (sq (cn se (sq (cn se (sq (cn se (sq (cn se (sq (cn se (sq (cn se (sq se (sq (sq (cv (fun e H => S69_0 call e.x0.x2 e.x0.x3 e.x0.x5 e.x7.x2 e.x7.x4 H) se) se) se))) (sq (sq (cv (fun e H => S69_1 call e.x0.x2 e.x0.x3 e.x0.x5 e.x6.x10 e.x6.x12 H) se) se) se))) (sq (sq (cv (fun e H => S69_2 call e.x0.x2 e.x0.x3 e.x0.x5 e.x6.x0 e.x6.x2 H) se) se) se))) se)) se)) se)) se)) se)) (sq (sq (cv (fun e H => S69_4 call e.x0.x2 e.x0.x3 e.x0.x5 e.x2.x13 e.x2.x15 H) (sq (sq (cv (fun e H => S69_3 call e.x0.x2 e.x0.x3 e.x0.x5 e.x2.x17 e.x2.x19 H) se) se) se)) se) se))) (sq (sq (cv (fun e H => S69_6 call e.x0.x2 e.x0.x3 e.x0.x5 e.x1.x17 e.x1.x19 H) (sq (sq (cv (fun e H => S69_5 call e.x0.x2 e.x0.x3 e.x0.x5 e.x2.x1 e.x2.x3 H) se) se) se)) se) se))) (sq (sq (cv (fun e H => S69_11 call e.x0.x2 e.x0.x3 e.x0.x5 e.x0.x11 e.x0.x13 H) (sq (sq (cv (fun e H => S69_10 call e.x0.x2 e.x0.x3 e.x0.x5 e.x0.x15 e.x0.x17 H) (sq (sq (cv (fun e H => S69_9 call e.x0.x2 e.x0.x3 e.x0.x5 e.x0.x19 e.x1.x1 H) (sq (sq (cv (fun e H => S69_8 call e.x0.x2 e.x0.x3 e.x0.x5 e.x1.x3 e.x1.x5 H) (sq (sq (cv (fun e H => S69_7 call e.x0.x2 e.x0.x3 e.x0.x5 e.x1.x7 e.x1.x9 H) se) se) se)) se) se)) se) se)) se) se)) se) se))) se)) se))
theorem S70_ok : Stands Tryz.prog [0] 1000000 70 S70 :=
  stands_of (s := S70) 64 [.tmp 2] 1 (fun call e H => S70_10 call e.x0.x0 H) (fun call _ H _ h => by obtain ⟨t0, rfl, h⟩ := argA1_eq h; exact ⟨rfl, (show _ = S70_10 call t0 H by kernel_rfl).trans h⟩)
    fun call => (cv (fun e H => S70_10 call e.x0.x0 H) (sq (sq se (sq (bl (sq (cn se (sq se (sq (sq (cv (fun e H => S70_0 call e.x0.x1 e.x0.x3 e.x2.x7 e.x2.x9 H) se) se) se))) (sq (sq (cv (fun e H => S70_9 call e.x0.x1 e.x0.x3 e.x0.x9 e.x0.x11 H) (sq (sq (cv (fun e H => S70_8 call e.x0.x1 e.x0.x3 e.x0.x13 e.x0.x16 H) (sq (sq (cv (fun e H => S70_7 call e.x0.x1 e.x0.x3 e.x0.x13 e.x0.x16 e.x0.x18 H) (sq (sq (cv (fun e H => S70_6 call e.x0.x1 e.x0.x3 e.x0.x13 e.x0.x19 H) (sq (sq (cv (fun e H => S70_5 call e.x0.x1 e.x0.x3 e.x1.x1 e.x1.x3 H) (sq (sq (cv (fun e H => S70_4 call e.x0.x1 e.x0.x3 e.x1.x5 e.x1.x7 H) (sq (sq (cv (fun e H => S70_3 call e.x0.x1 e.x0.x3 e.x1.x9 e.x1.x11 H) (sq (sq (cv (fun e H => S70_2 call e.x0.x1 e.x0.x3 e.x1.x13 e.x1.x15 H) (sq (sq (cv (fun e H => S70_1 call e.x0.x1 e.x0.x3 e.x1.x17 e.x1.x19 H) se) se) se)) se) se)) se) se)) se) se)) se) se)) se) se)) se) se)) se) se)) se) se))) se)) se))
end Go.Proofs.YtlmmhkcimjjakaaGreatDoor
