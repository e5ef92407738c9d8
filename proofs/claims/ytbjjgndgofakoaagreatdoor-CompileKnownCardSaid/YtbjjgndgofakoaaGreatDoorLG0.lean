/- They stand for their bodies: part 0. -/
import Derived.Test.YtbjjgndgofakoaaGreatDoorLF0
import Derived.KernelRfl
namespace Go.Proofs.YtbjjgndgofakoaaGreatDoor
open Go.Ab
set_option maxRecDepth 100000
theorem S3_ok : Stands Tryz.prog [] 1000000 3 S3 :=
  stands_of (s := S3) 51 [.tmp 0] 0 (fun call _ H => S3_4 call H) (fun call _ H _ h => by obtain ⟨rfl, h⟩ := argA0_eq h; exact ⟨rfl, (show _ = S3_4 call H by kernel_rfl).trans h⟩)
    fun call => (cv (fun _ H => S3_4 call H) (sq (sq (sq (sq (sq (sq (sq se (sq (sq (cv (fun e H => S3_3 call e.x0.x5 e.x0.x6 e.x0.x8 e.x1.x10 e.x1.x13 H) (sq (sq (cv (fun e H => S3_2 call e.x0.x5 e.x0.x8 e.x1.x15 e.x1.x18 H) (sq (sq (cv (fun e H => S3_1 call e.x0.x8 e.x2.x0 e.x2.x4 H) (sq (sq (cv (fun e H => S3_0 call e.x2.x6 e.x2.x9 H) se) se) se)) se) se)) se) se)) se) se)) se) se) se) se) se) se))
theorem S4_ok : Stands Tryz.prog [] 1000000 4 S4 :=
  stands_of (s := S4) 64 [.tmp 0] 0 (fun call _ H => S4_7 call H) (fun call _ H _ h => by obtain ⟨rfl, h⟩ := argA0_eq h; exact ⟨rfl, (show _ = S4_7 call H by kernel_rfl).trans h⟩)
    fun call => (cv (fun _ H => S4_7 call H) (sq (sq (sq (sq (sq (sq se (sq (sq (cv (fun e H => S4_6 call e.x0.x4 e.x0.x5 e.x0.x6 e.x0.x7 e.x0.x8 e.x1.x10 e.x1.x12 H) (sq (sq (cv (fun e H => S4_5 call e.x0.x5 e.x0.x6 e.x0.x7 e.x0.x8 e.x1.x14 e.x1.x17 H) (sq (sq (cv (fun e H => S4_4 call e.x0.x5 e.x0.x7 e.x0.x8 e.x1.x19 e.x2.x2 H) (sq (sq (cv (fun e H => S4_3 call e.x0.x7 e.x0.x8 e.x2.x4 e.x2.x7 H) (sq (sq (cv (fun e H => S4_2 call e.x0.x7 e.x2.x9 e.x2.x11 H) (sq (sq (cv (fun e H => S4_1 call e.x0.x7 e.x2.x13 e.x2.x16 H) (sq (sq (cv (fun e H => S4_0 call e.x2.x18 e.x3.x2 H) se) se) se)) se) se)) se) se)) se) se)) se) se)) se) se)) se) se)) se) se) se) se) se))
theorem S5_ok : Stands Tryz.prog [] 1000000 5 S5 :=
  stands_of (s := S5) 55 [.cell (.some 6) 2, .cell (.some 2) 3] 1 (fun call e H => S5_0 call e.x0.x0 H) (fun call _ H _ h => by obtain ⟨t0, rfl, h⟩ := argA1_eq h; exact ⟨rfl, (show _ = S5_0 call t0 H by kernel_rfl).trans h⟩)
    fun call => (cv (fun e H => S5_0 call e.x0.x0 H) se)
theorem S6_ok : Stands Tryz.prog [] 1000000 6 S6 :=
  stands_of (s := S6) 18 [.tmp 2, .cell (.some 2) 3] 1 (fun call e H => S6_0 call e.x0.x0 H) (fun call _ H _ h => by obtain ⟨t0, rfl, h⟩ := argA1_eq h; exact ⟨rfl, (show _ = S6_0 call t0 H by kernel_rfl).trans h⟩)
    fun call => (cv (fun e H => S6_0 call e.x0.x0 H) se)
theorem S7_ok : Stands Tryz.prog [] 1000000 7 S7 :=
  stands_of (s := S7) 39 [.cell (.some 7) 6, .tmp 7] 3 (fun call e H => S7_2 call e.x0.x0 e.x0.x1 e.x0.x2 H) (fun call _ H _ h => by obtain ⟨t0, t1, t2, rfl, h⟩ := argA3_eq h; exact ⟨rfl, (show _ = S7_2 call t0 t1 t2 H by kernel_rfl).trans h⟩)
    fun call => (cv (fun e H => S7_2 call e.x0.x0 e.x0.x1 e.x0.x2 H) (sq (sq (sq (sq (sq (cv (fun e H => S7_0 call e.x0.x6 e.x0.x8 e.x0.x10 H) se) (sq (bl (lp (fun n e H => S7_1 call n e.x0.x6 e.x0.x8 e.x0.x10 e.x1.x3 e.x1.x4 e.x1.x5 H) fun _ => cv _ se)) se)) se) se) se) se))
theorem S8_ok : Stands Tryz.prog [] 1000000 8 S8 :=
  stands_of (s := S8) 11 [.tmp 2] 1 (fun call e H => S8_0 call e.x0.x0 H) (fun call _ H _ h => by obtain ⟨t0, rfl, h⟩ := argA1_eq h; exact ⟨rfl, (show _ = S8_0 call t0 H by kernel_rfl).trans h⟩)
    fun call => (cv (fun e H => S8_0 call e.x0.x0 H) se)
theorem S9_ok : Stands Tryz.prog [] 1000000 9 S9 :=
  stands_of (s := S9) 26 [.tmp 4] 2 (fun call e H => S9_1 call e.x0.x0 e.x0.x1 H) (fun call _ H _ h => by obtain ⟨t0, t1, rfl, h⟩ := argA2_eq h; exact ⟨rfl, (show _ = S9_1 call t0 t1 H by kernel_rfl).trans h⟩)
    fun call => (cv (fun e H => S9_1 call e.x0.x0 e.x0.x1 H) (sq (sq (sq se (sq (bl (lp (fun n e H => S9_0 call n e.x0.x0 e.x0.x1 e.x0.x5 H) fun _ => cv _ se)) se)) se) se))
theorem S10_ok : Stands Tryz.prog [] 1000000 10 S10 :=
  stands_of (s := S10) 41 [.cell (.some 4) 2, .tmp 3, .tmp 4] 1 (fun call e H => S10_0 call e.x0.x0 H) (fun call _ H _ h => by obtain ⟨t0, rfl, h⟩ := argA1_eq h; exact ⟨rfl, (show _ = S10_0 call t0 H by kernel_rfl).trans h⟩)
    fun call => (cv (fun e H => S10_0 call e.x0.x0 H) se)
theorem S11_ok : Stands Tryz.prog [] 1000000 11 S11 :=
  stands_of (s := S11) 113 [.tmp 2, .tmp 3] 1 (fun call e H => S11_22 call e.x0.x0 H) (fun call _ H _ h => by obtain ⟨t0, rfl, h⟩ := argA1_eq h; exact ⟨rfl, (show _ = S11_22 call t0 H by kernel_rfl).trans h⟩)
    fun call => (cv (fun e H => S11_22 call e.x0.x0 H) (sq (sq (sq (sq (sq (cv (fun e H => S11_18 call e.x0.x1 e.x0.x4 H) (sq (sq (sq (sq (cv (fun e H => S11_17 call e.x0.x1 e.x0.x4 e.x0.x7 e.x0.x8 e.x0.x9 H) (sq (sq (cv (fun e H => S11_0 call e.x0.x4 H) se) (sq (bl (lp (fun n e H => S11_1 call n e.x0.x4 e.x4.x5 e.x4.x6 e.x4.x7 H) fun n0 => cv _ (sq (sq (sq (cv (fun e H => S11_2 call (S11_1 call n0) e.x0.x4 e.x4.x5 e.x4.x6 e.x4.x7 H) se) (bl (sq (sq se (sq (sq (cv (fun e H => S11_3 call (S11_1 call n0) e.x0.x4 e.x0.x11 e.x4.x5 e.x4.x6 e.x4.x7 e.x4.x14 e.x4.x19 H) se) se) se)) se))) se) se))) se)) (sq (sq (cv (fun e H => S11_16 call e.x0.x1 e.x0.x4 e.x0.x7 e.x0.x9 e.x3.x3 e.x3.x5 e.x3.x6 H) (sq (sq (cv (fun e H => S11_15 call e.x0.x1 e.x0.x4 e.x0.x7 e.x0.x9 e.x3.x3 e.x3.x5 e.x3.x7 H) (sq (sq (cv (fun e H => S11_14 call e.x0.x1 e.x0.x4 e.x0.x7 e.x0.x9 e.x3.x3 e.x3.x5 e.x3.x8 H) (sq (sq (cv (fun e H => S11_13 call e.x0.x1 e.x0.x4 e.x0.x7 e.x0.x9 e.x3.x3 e.x3.x5 e.x3.x9 H) (sq (sq (cv (fun e H => S11_12 call e.x0.x1 e.x0.x4 e.x0.x7 e.x0.x9 e.x3.x3 e.x3.x5 e.x3.x10 H) (sq (sq (cv (fun e H => S11_11 call e.x0.x1 e.x0.x4 e.x0.x7 e.x0.x9 e.x3.x3 e.x3.x5 e.x3.x11 H) (sq (sq (cv (fun e H => S11_10 call e.x0.x1 e.x0.x4 e.x0.x7 e.x0.x9 e.x3.x3 e.x3.x5 e.x3.x12 H) (sq (sq (cv (fun e H => S11_9 call e.x0.x1 e.x0.x4 e.x0.x9 e.x3.x3 e.x3.x14 e.x3.x15 H) (sq (sq (cv (fun e H => S11_8 call e.x0.x1 e.x0.x4 e.x0.x9 e.x3.x3 e.x3.x14 e.x3.x16 H) (sq (sq (cv (fun e H => S11_7 call e.x0.x1 e.x0.x4 e.x0.x9 e.x3.x3 e.x3.x14 e.x3.x17 H) (sq (sq (cv (fun e H => S11_6 call e.x0.x1 e.x0.x4 e.x0.x9 e.x3.x3 e.x3.x14 e.x3.x18 H) (sq (sq (cv (fun e H => S11_5 call e.x0.x1 e.x0.x4 e.x0.x9 e.x3.x3 e.x3.x14 e.x3.x19 H) (sq (sq (cv (fun e H => S11_4 call e.x0.x1 e.x0.x4 e.x0.x9 e.x3.x3 e.x3.x14 e.x4.x0 H) se) se) se)) se) se)) se) se)) se) se)) se) se)) se) se)) se) se)) se) se)) se) se)) se) se)) se) se)) se) se)) se) se))) se) se) se) se)) (sq (bl (lp (fun n e H => S11_19 call n e.x0.x1 e.x0.x4 e.x1.x8 e.x1.x9 e.x1.x10 H) fun n1 => cv _ (sq (sq (sq (cv (fun e H => S11_20 call (S11_19 call n1) e.x0.x1 e.x0.x4 e.x1.x8 e.x1.x9 e.x1.x10 H) se) se) se) se))) se)) se) se) (sq se (sq (sq (cv (fun e H => S11_21 call e.x0.x1 e.x0.x15 e.x0.x18 H) se) se) se))) se))
theorem S12_ok : Stands Tryz.prog [] 1000000 12 S12 :=
  stands_of (s := S12) 106 [.cell (.some 6) 2, .tmp 3] 1 (fun call e H => S12_8 call e.x0.x0 H) (fun call _ H _ h => by obtain ⟨t0, rfl, h⟩ := argA1_eq h; exact ⟨rfl, (show _ = S12_8 call t0 H by kernel_rfl).trans h⟩)
    fun call => (cv (fun e H => S12_8 call e.x0.x0 H) (sq (sq (sq (sq (sq (sq (sq (cv (fun e H => S12_5 call e.x0.x2 e.x0.x6 H) (sq se (sq se (sq (sq (cv (fun e H => S12_4 call e.x0.x2 e.x0.x6 e.x2.x16 e.x3.x3 H) (sq (sq (cv (fun e H => S12_3 call e.x0.x2 e.x0.x6 e.x3.x5 e.x3.x12 H) (sq (sq (cv (fun e H => S12_2 call e.x0.x2 e.x0.x6 e.x3.x14 e.x4.x1 H) (sq (sq (cv (fun e H => S12_1 call e.x0.x2 e.x0.x6 e.x4.x3 e.x4.x10 H) (sq (sq (cv (fun e H => S12_0 call e.x0.x2 e.x0.x6 e.x4.x12 e.x4.x19 H) se) se) se)) se) se)) se) se)) se) se)) se) se)))) (sq (bl (lp (fun n e H => S12_6 call n e.x0.x2 e.x0.x6 e.x1.x12 e.x1.x13 e.x1.x14 H) fun n0 => cv _ (sq (sq (sq se (bl (sq (sq (cv (fun e H => S12_7 call (S12_6 call n0) e.x0.x2 e.x0.x6 e.x0.x8 e.x0.x9 e.x1.x12 e.x1.x13 e.x1.x14 H) se) se) se))) se) se))) se)) se) se) se) se) se) se))
theorem S13_ok : Stands Tryz.prog [] 1000000 13 S13 :=
  stands_of (s := S13) 17 [.cell (.some 6) 2, .tmp 3] 1 (fun call e H => S13_0 call e.x0.x0 H) (fun call _ H _ h => by obtain ⟨t0, rfl, h⟩ := argA1_eq h; exact ⟨rfl, (show _ = S13_0 call t0 H by kernel_rfl).trans h⟩)
    fun call => (cv (fun e H => S13_0 call e.x0.x0 H) se)
theorem S14_ok : Stands Tryz.prog [] 1000000 14 S14 :=
  stands_of (s := S14) 113 [.tmp 2] 1 (fun call e H => S14_8 call e.x0.x0 H) (fun call _ H _ h => by obtain ⟨t0, rfl, h⟩ := argA1_eq h; exact ⟨rfl, (show _ = S14_8 call t0 H by kernel_rfl).trans h⟩)
    fun call => (cv (fun e H => S14_8 call e.x0.x0 H) (sq (sq (sq (sq (cv (fun e H => S14_6 call e.x0.x1 e.x0.x3 H) (sq (sq (sq (cv (fun e H => S14_4 call e.x0.x1 e.x0.x3 H) (sq (sq (cv (fun e H => S14_2 call e.x0.x1 e.x0.x3 H) (sq (sq (cv (fun e H => S14_0 call e.x0.x1 e.x0.x3 H) se) (sq (bl (lp (fun n e H => S14_1 call n e.x0.x1 e.x0.x3 e.x4.x14 e.x4.x15 e.x4.x16 H) fun _ => cv _ se)) se)) se)) (sq (bl (lp (fun n e H => S14_3 call n e.x0.x1 e.x0.x3 e.x3.x9 e.x3.x10 e.x3.x11 H) fun _ => cv _ se)) se)) se)) (sq (bl (lp (fun n e H => S14_5 call n e.x0.x1 e.x0.x3 e.x2.x11 e.x2.x12 e.x2.x13 H) fun _ => cv _ se)) se)) se) se)) (sq (bl (lp (fun n e H => S14_7 call n e.x0.x1 e.x0.x3 e.x1.x2 e.x1.x3 e.x1.x4 H) fun _ => cv _ se)) se)) se) se) se))
theorem S15_ok : Stands Tryz.prog [] 1000000 15 S15 :=
  stands_of (s := S15) 44 [.tmp 4, .tmp 5] 2 (fun call e H => S15_0 call e.x0.x0 e.x0.x1 H) (fun call _ H _ h => by obtain ⟨t0, t1, rfl, h⟩ := argA2_eq h; exact ⟨rfl, (show _ = S15_0 call t0 t1 H by kernel_rfl).trans h⟩)
    fun call => (cv (fun e H => S15_0 call e.x0.x0 e.x0.x1 H) se)
theorem S16_ok : Stands Tryz.prog [] 1000000 16 S16 :=
  stands_of (s := S16) 55 [.tmp 4] 2 (fun call e H => S16_1 call e.x0.x0 e.x0.x1 H) (fun call _ H _ h => by obtain ⟨t0, t1, rfl, h⟩ := argA2_eq h; exact ⟨rfl, (show _ = S16_1 call t0 t1 H by kernel_rfl).trans h⟩)
    fun call => (cv (fun e H => S16_1 call e.x0.x0 e.x0.x1 H) (sq (sq (sq (cv (fun e H => S16_0 call e.x0.x0 e.x0.x1 H) se) se) se) se))
theorem S17_ok : Stands Tryz.prog [] 1000000 17 S17 :=
  stands_of (s := S17) 27 [.cell (.some 7) 4] 2 (fun call e H => S17_0 call e.x0.x0 e.x0.x1 H) (fun call _ H _ h => by obtain ⟨t0, t1, rfl, h⟩ := argA2_eq h; exact ⟨rfl, (show _ = S17_0 call t0 t1 H by kernel_rfl).trans h⟩)
    fun call => (cv (fun e H => S17_0 call e.x0.x0 e.x0.x1 H) se)
theorem S18_ok : Stands Tryz.prog [] 1000000 18 S18 :=
  stands_of (s := S18) 8 [.cell (.some 3) 2, .tmp 3] 1 (fun call e H => S18_0 call e.x0.x0 H) (fun call _ H _ h => by obtain ⟨t0, rfl, h⟩ := argA1_eq h; exact ⟨rfl, (show _ = S18_0 call t0 H by kernel_rfl).trans h⟩)
    fun call => (cv (fun e H => S18_0 call e.x0.x0 H) se)
theorem S19_ok : Stands Tryz.prog [] 1000000 19 S19 :=
  stands_of (s := S19) 48 [.tmp 2, .tmp 3, .tmp 4] 1 (fun call e H => S19_2 call e.x0.x0 H) (fun call _ H _ h => by obtain ⟨t0, rfl, h⟩ := argA1_eq h; exact ⟨rfl, (show _ = S19_2 call t0 H by kernel_rfl).trans h⟩)
    fun call => (cv (fun e H => S19_2 call e.x0.x0 H) (sq (sq (sq (sq (cv (fun e H => S19_0 call e.x0.x0 e.x0.x5 H) se) (sq (bl (lp (fun n e H => S19_1 call n e.x0.x0 e.x0.x5 e.x0.x6 H) fun _ => cv _ se)) se)) se) se) se))
theorem S20_ok : Stands Tryz.prog [] 1000000 20 S20 :=
  stands_of (s := S20) 25 [.cell (.some 4) 2] 1 (fun call e H => S20_3 call e.x0.x0 H) (fun call _ H _ h => by obtain ⟨t0, rfl, h⟩ := argA1_eq h; exact ⟨rfl, (show _ = S20_3 call t0 H by kernel_rfl).trans h⟩)
    fun call => (cv (fun e H => S20_3 call e.x0.x0 H) (sq (sq (sq (cv (fun e H => S20_0 call e.x0.x2 e.x0.x3 H) se) (bl (lp (fun n e H => S20_1 call n e.x0.x0 e.x0.x2 e.x0.x3 H) fun n0 => cv _ (sq se (sq se (sq (sq (cv (fun e H => S20_2 call (S20_1 call n0) e.x0.x0 e.x0.x2 e.x0.x3 e.x0.x11 e.x0.x15 H) se) se) se)))))) se) se))
theorem S21_ok : Stands Tryz.prog [] 1000000 21 S21 :=
  stands_of (s := S21) 11 [.tmp 2] 1 (fun call e H => S21_1 call e.x0.x0 H) (fun call _ H _ h => by obtain ⟨t0, rfl, h⟩ := argA1_eq h; exact ⟨rfl, (show _ = S21_1 call t0 H by kernel_rfl).trans h⟩)
    fun call => (cv (fun e H => S21_1 call e.x0.x0 H) (sq (sq se (sq (sq (cv (fun e H => S21_0 call e.x0.x5 e.x0.x9 H) se) se) se)) se))
theorem S22_ok : Stands Tryz.prog [] 1000000 22 S22 :=
  stands_of (s := S22) 26 [] 2 (fun call e H => S22_1 call e.x0.x0 e.x0.x1 H) (fun call _ H _ h => by obtain ⟨t0, t1, rfl, h⟩ := argA2_eq h; exact ⟨rfl, (show _ = S22_1 call t0 t1 H by kernel_rfl).trans h⟩)
    fun call => (cv (fun e H => S22_1 call e.x0.x0 e.x0.x1 H) (sq (sq (bl (lp (fun n e H => S22_0 call n e.x0.x0 e.x0.x4 e.x0.x8 e.x0.x9 e.x0.x10 H) fun _ => cv _ se)) se) se))
theorem S23_ok : Stands Tryz.prog [] 1000000 23 S23 :=
  stands_of (s := S23) 33 [] 2 (fun call e H => S23_2 call e.x0.x0 e.x0.x1 H) (fun call _ H _ h => by obtain ⟨t0, t1, rfl, h⟩ := argA2_eq h; exact ⟨rfl, (show _ = S23_2 call t0 t1 H by kernel_rfl).trans h⟩)
    fun call => (cv (fun e H => S23_2 call e.x0.x0 e.x0.x1 H) (sq (sq (cv (fun e H => S23_1 call e.x0.x0 e.x0.x3 H) (sq (bl (lp (fun n e H => S23_0 call n e.x0.x0 e.x1.x3 e.x1.x4 e.x1.x5 H) fun _ => cv _ se)) se)) se) se))
theorem S24_ok : Stands Tryz.prog [] 1000000 24 S24 :=
  stands_of (s := S24) 27 [.cell (.some 4) 6, .tmp 7] 3 (fun call e H => S24_0 call e.x0.x0 e.x0.x1 e.x0.x2 H) (fun call _ H _ h => by obtain ⟨t0, t1, t2, rfl, h⟩ := argA3_eq h; exact ⟨rfl, (show _ = S24_0 call t0 t1 t2 H by kernel_rfl).trans h⟩)
    fun call => (cv (fun e H => S24_0 call e.x0.x0 e.x0.x1 e.x0.x2 H) se)
theorem S25_ok : Stands Tryz.prog [] 1000000 25 S25 :=
  stands_of (s := S25) 12 [] 3 (fun call e H => S25_0 call e.x0.x0 e.x0.x1 e.x0.x2 H) (fun call _ H _ h => by obtain ⟨t0, t1, t2, rfl, h⟩ := argA3_eq h; exact ⟨rfl, (show _ = S25_0 call t0 t1 t2 H by kernel_rfl).trans h⟩)
    fun call => (cv (fun e H => S25_0 call e.x0.x0 e.x0.x1 e.x0.x2 H) se)
theorem S26_ok : Stands Tryz.prog [] 1000000 26 S26 :=
  stands_of (s := S26) 107 [] 2 (fun call e H => S26_7 call e.x0.x0 e.x0.x1 H) (fun call _ H _ h => by obtain ⟨t0, t1, rfl, h⟩ := argA2_eq h; exact ⟨rfl, (show _ = S26_7 call t0 t1 H by kernel_rfl).trans h⟩)
    fun call => (cv (fun e H => S26_7 call e.x0.x0 e.x0.x1 H) (sq (sq (sq (sq (sq (sq (sq (cv (fun e H => S26_5 call e.x0.x0 e.x0.x3 e.x0.x4 H) (sq (sq (sq (sq se (sq (sq (cv (fun e H => S26_4 call e.x0.x0 e.x0.x3 e.x0.x4 e.x4.x7 e.x4.x14 e.x4.x15 H) (sq (sq (cv (fun e H => S26_3 call e.x0.x0 e.x0.x3 e.x0.x4 e.x4.x7 e.x4.x14 e.x4.x16 H) (sq (sq (cv (fun e H => S26_2 call e.x0.x0 e.x0.x3 e.x0.x4 e.x4.x7 e.x4.x14 e.x4.x17 H) (sq (sq (cv (fun e H => S26_1 call e.x0.x0 e.x0.x3 e.x0.x4 e.x4.x7 e.x4.x14 e.x4.x18 H) (sq (sq (cv (fun e H => S26_0 call e.x0.x0 e.x0.x3 e.x0.x4 e.x4.x7 e.x4.x14 e.x4.x19 e.x5.x1 H) se) se) se)) se) se)) se) se)) se) se)) se) se)) se) se) se)) (sq (bl (lp (fun n e H => S26_6 call n e.x0.x0 e.x0.x3 e.x0.x4 e.x2.x5 e.x2.x6 e.x2.x7 H) fun _ => cv _ se)) se)) se) se) se) se) se) se))
theorem S27_ok : Stands Tryz.prog [] 1000000 27 S27 :=
  stands_of (s := S27) 51 [] 1 (fun call e H => S27_4 call e.x0.x0 H) (fun call _ H _ h => by obtain ⟨t0, rfl, h⟩ := argA1_eq h; exact ⟨rfl, (show _ = S27_4 call t0 H by kernel_rfl).trans h⟩)
    fun call => (cv (fun e H => S27_4 call e.x0.x0 H) (sq (cv (fun e H => S27_2 call e.x0.x0 H) (sq (bl (lp (fun n e H => S27_0 call n e.x0.x0 e.x1.x11 e.x1.x12 e.x1.x13 H) fun n0 => cv _ (sq (sq (sq se (bl (sq (sq (sq (cv (fun e H => S27_1 call (S27_0 call n0) e.x0.x0 e.x1.x11 e.x1.x12 e.x1.x13 e.x1.x17 e.x2.x2 e.x2.x6 H) se) se) se) se))) se) se))) se)) (sq (bl (lp (fun n e H => S27_3 call n e.x0.x0 e.x0.x7 e.x0.x8 e.x0.x9 H) fun _ => cv _ se)) se)))
theorem S28_ok : Stands Tryz.prog [] 1000000 28 S28 :=
  stands_of (s := S28) 28 [.tmp 4] 2 (fun call e H => S28_2 call e.x0.x0 e.x0.x1 H) (fun call _ H _ h => by obtain ⟨t0, t1, rfl, h⟩ := argA2_eq h; exact ⟨rfl, (show _ = S28_2 call t0 t1 H by kernel_rfl).trans h⟩)
    fun call => (cv (fun e H => S28_2 call e.x0.x0 e.x0.x1 H) (sq (sq (sq se (sq (bl (lp (fun n e H => S28_0 call n e.x0.x1 e.x0.x5 e.x0.x12 e.x0.x13 e.x0.x14 H) fun n0 => cv _ (sq (sq (sq (cv (fun e H => S28_1 call (S28_0 call n0) e.x0.x1 e.x0.x5 e.x0.x12 e.x0.x13 e.x0.x14 H) se) se) se) se))) se)) se) se))
theorem S29_ok : Stands Tryz.prog [] 1000000 29 S29 :=
  stands_of (s := S29) 168 [] 4 (fun call e H => S29_9 call e.x0.x0 e.x0.x1 e.x0.x2 e.x0.x3 H) (fun call _ H _ h => by obtain ⟨t0, t1, t2, t3, rfl, h⟩ := argA4_eq h; exact ⟨rfl, (show _ = S29_9 call t0 t1 t2 t3 H by kernel_rfl).trans h⟩)
    fun call => (cv (fun e H => S29_9 call e.x0.x0 e.x0.x1 e.x0.x2 e.x0.x3 H) (sq (sq (sq (cv (fun e H => S29_7 call e.x0.x0 e.x0.x1 e.x0.x3 e.x0.x6 e.x0.x8 H) (sq (cv (fun e H => S29_5 call e.x0.x0 e.x0.x1 e.x0.x3 e.x0.x6 e.x0.x8 H) (sq (sq (sq (cv (fun e H => S29_4 call e.x0.x0 e.x0.x1 e.x0.x3 e.x0.x6 e.x0.x8 H) (sq (sq (sq (sq (sq (sq (sq (sq (sq (sq (sq (sq (sq (sq (sq (sq (sq (sq (sq (sq (sq (sq (sq (sq (sq (sq (sq (sq (sq (sq (sq (cv (fun e H => S29_0 call e.x0.x8 e.x6.x11 e.x6.x12 e.x6.x13 e.x6.x14 e.x6.x15 e.x6.x17 e.x6.x18 e.x6.x19 e.x7.x0 e.x7.x1 e.x7.x4 e.x7.x5 e.x7.x6 e.x7.x10 e.x7.x14 e.x7.x15 e.x7.x18 H) se) se) se) se) se) se) se) se) se) se) se) se) se) se) se) se) se) se) se) se) se) se) se) se) se) se) se) se) se) se) se) (sq (sq (cv (fun e H => S29_3 call e.x0.x0 e.x0.x1 e.x0.x3 e.x0.x6 e.x0.x8 e.x5.x0 e.x5.x5 e.x5.x11 H) (sq (sq (cv (fun e H => S29_2 call e.x0.x0 e.x0.x1 e.x0.x3 e.x0.x6 e.x0.x8 e.x5.x0 e.x5.x13 e.x5.x19 H) (sq (sq (cv (fun e H => S29_1 call e.x0.x0 e.x0.x1 e.x0.x3 e.x0.x6 e.x0.x8 e.x5.x0 e.x6.x1 e.x6.x4 H) se) se) se)) se) se)) se) se))) se) se) se)) (sq (bl (lp (fun n e H => S29_6 call n e.x0.x0 e.x0.x1 e.x0.x3 e.x0.x6 e.x0.x8 e.x2.x3 e.x2.x4 e.x2.x5 H) fun _ => cv _ se)) se))) (sq (bl (lp (fun n e H => S29_8 call n e.x0.x0 e.x0.x1 e.x0.x3 e.x0.x6 e.x0.x8 e.x1.x1 e.x1.x2 e.x1.x3 H) fun _ => cv _ se)) se)) se) se))
theorem S30_ok : Stands Tryz.prog [] 1000000 30 S30 :=
  stands_of (s := S30) 12 [.tmp 2] 1 (fun call e H => S30_0 call e.x0.x0 H) (fun call _ H _ h => by obtain ⟨t0, rfl, h⟩ := argA1_eq h; exact ⟨rfl, (show _ = S30_0 call t0 H by kernel_rfl).trans h⟩)
    fun call => (cv (fun e H => S30_0 call e.x0.x0 H) se)
theorem S31_ok : Stands Tryz.prog [] 1000000 31 S31 :=
  stands_of (s := S31) 145 [.cell (.some 6) 2] 1 (fun call e H => S31_14 call e.x0.x0 H) (fun call _ H _ h => by obtain ⟨t0, rfl, h⟩ := argA1_eq h; exact ⟨rfl, (show _ = S31_14 call t0 H by kernel_rfl).trans h⟩)
    fun call => (cv (fun e H => S31_14 call e.x0.x0 H) (sq (sq (sq (sq (sq (cv (fun e H => S31_0 call e.x0.x1 e.x0.x2 H) se) (sq (bl (lp (fun n e H => S31_1 call n e.x0.x1 e.x0.x2 e.x0.x3 e.x0.x4 e.x1.x6 e.x1.x7 e.x1.x8 H) fun n0 => cv _ (sq (sq (sq (cv (fun e H => S31_2 call (S31_1 call n0) e.x0.x1 e.x0.x2 e.x0.x3 e.x0.x4 e.x1.x6 e.x1.x7 e.x1.x8 H) se) (bl (sq (sq (sq (sq (sq (cv (fun e H => S31_11 call (S31_1 call n0) e.x0.x1 e.x0.x2 e.x0.x3 e.x0.x4 e.x0.x5 e.x0.x6 e.x0.x7 e.x0.x8 e.x1.x6 e.x1.x7 e.x1.x8 H) (sq (sq (sq (cv (fun e H => S31_3 call (S31_1 call n0) e.x0.x1 e.x0.x2 e.x0.x3 e.x0.x4 e.x0.x5 e.x0.x12 e.x1.x6 e.x1.x7 e.x1.x8 H) se) (sq (bl (lp (fun n e H => S31_4 call (S31_1 call n0) n e.x0.x1 e.x0.x2 e.x0.x3 e.x0.x4 e.x0.x5 e.x0.x7 e.x0.x11 e.x0.x12 e.x1.x6 e.x1.x7 e.x1.x8 e.x3.x0 e.x3.x1 e.x3.x2 H) fun n1 => cv _ (sq (sq (sq (cv (fun e H => S31_5 call (S31_4 call (S31_1 call n0) n1) e.x0.x1 e.x0.x2 e.x0.x3 e.x0.x4 e.x0.x5 e.x0.x7 e.x0.x11 e.x0.x12 e.x1.x6 e.x1.x7 e.x1.x8 e.x3.x0 e.x3.x1 e.x3.x2 H) se) (bl (sq (sq (cv (fun e H => S31_10 call (S31_4 call (S31_1 call n0) n1) e.x0.x1 e.x0.x2 e.x0.x3 e.x0.x4 e.x0.x5 e.x0.x7 e.x0.x11 e.x0.x12 e.x0.x14 e.x1.x6 e.x1.x7 e.x1.x8 e.x3.x0 e.x3.x1 e.x3.x2 H) (sq (cv (fun e H => S31_9 call (S31_4 call (S31_1 call n0) n1) e.x0.x1 e.x0.x2 e.x0.x3 e.x0.x4 e.x0.x5 e.x0.x7 e.x0.x11 e.x0.x12 e.x0.x14 e.x1.x6 e.x1.x7 e.x1.x8 e.x3.x0 e.x3.x1 e.x3.x2 H) (sq (sq (cv (fun e H => S31_6 call (S31_4 call (S31_1 call n0) n1) e.x0.x1 e.x0.x2 e.x0.x3 e.x0.x4 e.x0.x5 e.x0.x7 e.x0.x11 e.x0.x12 e.x0.x14 e.x1.x6 e.x1.x7 e.x1.x8 e.x3.x0 e.x3.x1 e.x3.x2 H) se) (sq (bl (lp (fun n e H => S31_7 call (S31_4 call (S31_1 call n0) n1) n e.x0.x1 e.x0.x2 e.x0.x3 e.x0.x4 e.x0.x5 e.x0.x7 e.x0.x11 e.x0.x12 e.x0.x14 e.x0.x16 e.x0.x17 e.x1.x6 e.x1.x7 e.x1.x8 e.x3.x0 e.x3.x1 e.x3.x2 H) fun n2 => cv _ (sq (sq (cv (fun e H => S31_8 call (S31_7 call (S31_4 call (S31_1 call n0) n1) n2) e.x0.x1 e.x0.x2 e.x0.x3 e.x0.x4 e.x0.x5 e.x0.x7 e.x0.x11 e.x0.x12 e.x0.x14 e.x0.x16 e.x0.x17 e.x1.x6 e.x1.x7 e.x1.x8 e.x3.x0 e.x3.x1 e.x3.x2 H) se) se) se))) se)) se)) se)) se) se))) se) se))) se)) se) se)) (sq (bl (lp (fun n e H => S31_12 call (S31_1 call n0) n e.x0.x1 e.x0.x2 e.x0.x3 e.x0.x4 e.x0.x5 e.x0.x6 e.x0.x7 e.x0.x8 e.x0.x9 e.x1.x6 e.x1.x7 e.x1.x8 e.x2.x1 e.x2.x2 H) fun n3 => cv _ (sq (sq (sq (cv (fun e H => S31_13 call (S31_12 call (S31_1 call n0) n3) e.x0.x1 e.x0.x2 e.x0.x3 e.x0.x4 e.x0.x5 e.x0.x6 e.x0.x7 e.x0.x8 e.x0.x9 e.x1.x6 e.x1.x7 e.x1.x8 e.x2.x1 e.x2.x2 H) se) se) se) se))) se)) se) se) se) se))) se) se))) se)) se) se) se) se))
theorem S32_ok : Stands Tryz.prog [] 1000000 32 S32 :=
  stands_of (s := S32) 9 [.tmp 4] 2 (fun call e H => S32_0 call e.x0.x0 e.x0.x1 H) (fun call _ H _ h => by obtain ⟨t0, t1, rfl, h⟩ := argA2_eq h; exact ⟨rfl, (show _ = S32_0 call t0 t1 H by kernel_rfl).trans h⟩)
    fun call => (cv (fun e H => S32_0 call e.x0.x0 e.x0.x1 H) se)
theorem S33_ok : Stands Tryz.prog [] 1000000 33 S33 :=
  stands_of (s := S33) 7 [.tmp 2] 1 (fun call e H => S33_0 call e.x0.x0 H) (fun call _ H _ h => by obtain ⟨t0, rfl, h⟩ := argA1_eq h; exact ⟨rfl, (show _ = S33_0 call t0 H by kernel_rfl).trans h⟩)
    fun call => (cv (fun e H => S33_0 call e.x0.x0 H) se)
theorem S34_ok : Stands Tryz.prog [] 1000000 34 S34 :=
  stands_of (s := S34) 27 [.cell (.some 6) 2] 1 (fun call e H => S34_2 call e.x0.x0 H) (fun call _ H _ h => by obtain ⟨t0, rfl, h⟩ := argA1_eq h; exact ⟨rfl, (show _ = S34_2 call t0 H by kernel_rfl).trans h⟩)
    fun call => (cv (fun e H => S34_2 call e.x0.x0 H) (sq (sq (sq (sq (cv (fun e H => S34_0 call e.x0.x1 e.x0.x2 H) se) (sq (bl (lp (fun n e H => S34_1 call n e.x0.x1 e.x0.x2 e.x0.x3 e.x0.x10 e.x0.x11 e.x0.x12 H) fun _ => cv _ se)) se)) se) se) se))
theorem S35_ok : Stands Tryz.prog [] 1000000 35 S35 :=
  stands_of (s := S35) 62 [.cell (.some 6) 2] 1 (fun call e H => S35_7 call e.x0.x0 H) (fun call _ H _ h => by obtain ⟨t0, rfl, h⟩ := argA1_eq h; exact ⟨rfl, (show _ = S35_7 call t0 H by kernel_rfl).trans h⟩)
    fun call => (cv (fun e H => S35_7 call e.x0.x0 H) (sq (sq (sq (sq (cv (fun e H => S35_0 call e.x0.x1 e.x0.x2 H) se) (sq (bl (lp (fun n e H => S35_1 call n e.x0.x1 e.x0.x2 e.x0.x3 e.x0.x13 e.x0.x14 e.x0.x15 H) fun n0 => cv _ (sq (sq (sq (cv (fun e H => S35_2 call (S35_1 call n0) e.x0.x1 e.x0.x2 e.x0.x3 e.x0.x13 e.x0.x14 e.x0.x15 H) se) (bl (sq (sq (sq (bl (lp (fun n e H => S35_3 call (S35_1 call n0) n e.x0.x1 e.x0.x2 e.x0.x3 e.x0.x4 e.x0.x5 e.x0.x6 e.x0.x13 e.x0.x14 e.x0.x15 e.x1.x4 e.x1.x5 e.x1.x6 H) fun n1 => cv _ (sq (sq (sq (cv (fun e H => S35_4 call (S35_3 call (S35_1 call n0) n1) e.x0.x1 e.x0.x2 e.x0.x3 e.x0.x4 e.x0.x5 e.x0.x6 e.x0.x13 e.x0.x14 e.x0.x15 e.x1.x4 e.x1.x5 e.x1.x6 H) se) (bl (sq (sq se (sq se (sq (sq (cv (fun e H => S35_6 call (S35_3 call (S35_1 call n0) n1) e.x0.x1 e.x0.x2 e.x0.x3 e.x0.x4 e.x0.x5 e.x0.x6 e.x0.x7 e.x0.x13 e.x0.x14 e.x0.x15 e.x1.x4 e.x1.x5 e.x1.x6 e.x1.x14 e.x1.x17 H) (sq (sq (cv (fun e H => S35_5 call (S35_3 call (S35_1 call n0) n1) e.x0.x1 e.x0.x2 e.x0.x3 e.x0.x4 e.x0.x5 e.x0.x6 e.x0.x7 e.x0.x13 e.x0.x14 e.x0.x15 e.x1.x4 e.x1.x5 e.x1.x6 e.x1.x19 e.x2.x4 H) se) se) se)) se) se))) se))) se) se))) se) se) se))) se) se))) se)) se) se) se))
theorem S36_ok : Stands Tryz.prog [] 1000000 36 S36 :=
  stands_of (s := S36) 2 [.tmp 0] 0 (fun call _ H => S36_0 call H) (fun call _ H _ h => by obtain ⟨rfl, h⟩ := argA0_eq h; exact ⟨rfl, (show _ = S36_0 call H by kernel_rfl).trans h⟩)
    fun call => (cv (fun _ H => S36_0 call H) se)
theorem S37_ok : Stands Tryz.prog [] 1000000 37 S37 :=
  stands_of (s := S37) 32 [] 2 (fun call e H => S37_1 call 1000000 e.x0.x0 e.x0.x1 H) (fun call _ H _ h => by obtain ⟨t0, t1, rfl, h⟩ := argA2_eq h; exact ⟨rfl, (show _ = S37_1 call 1000000 t0 t1 H by kernel_rfl).trans h⟩)
    fun call => (cv (fun e H => S37_1 call 1000000 e.x0.x0 e.x0.x1 H) (sq (cv (fun e H => S37_0 call e.x0.x0 e.x0.x1 H) se) (bl (lp (fun n e H => S37_1 call n e.x0.x0 e.x0.x1 H) fun _ => cv _ se))))
theorem S38_ok : Stands Tryz.prog [] 1000000 38 S38 :=
  stands_of (s := S38) 17 [] 2 (fun call e H => S38_1 call e.x0.x0 e.x0.x1 H) (fun call _ H _ h => by obtain ⟨t0, t1, rfl, h⟩ := argA2_eq h; exact ⟨rfl, (show _ = S38_1 call t0 t1 H by kernel_rfl).trans h⟩)
    fun call => (cv (fun e H => S38_1 call e.x0.x0 e.x0.x1 H) (sq (bl (lp (fun n e H => S38_0 call n e.x0.x0 e.x0.x6 e.x0.x7 e.x0.x8 H) fun _ => cv _ se)) se))
theorem S39_ok : Stands Tryz.prog [] 1000000 39 S39 :=
  stands_of (s := S39) 23 [] 2 (fun call e H => S39_2 call e.x0.x0 e.x0.x1 H) (fun call _ H _ h => by obtain ⟨t0, t1, rfl, h⟩ := argA2_eq h; exact ⟨rfl, (show _ = S39_2 call t0 t1 H by kernel_rfl).trans h⟩)
    fun call => (cv (fun e H => S39_2 call e.x0.x0 e.x0.x1 H) (sq (sq (bl (lp (fun n e H => S39_0 call n e.x0.x0 e.x0.x11 e.x0.x12 e.x0.x13 H) fun n0 => cv _ (sq (sq (sq (cv (fun e H => S39_1 call (S39_0 call n0) e.x0.x0 e.x0.x11 e.x0.x12 e.x0.x13 H) se) se) se) se))) se) se))
theorem S40_ok : Stands Tryz.prog [] 1000000 40 S40 :=
  stands_of (s := S40) 10 [.tmp 2] 1 (fun call e H => S40_0 call e.x0.x0 H) (fun call _ H _ h => by obtain ⟨t0, rfl, h⟩ := argA1_eq h; exact ⟨rfl, (show _ = S40_0 call t0 H by kernel_rfl).trans h⟩)
    fun call => (cv (fun e H => S40_0 call e.x0.x0 H) se)
theorem S41_ok : Stands Tryz.prog [] 1000000 41 S41 :=
  stands_of (s := S41) 67 [] 2 (fun call e H => S41_3 call e.x0.x0 e.x0.x1 H) (fun call _ H _ h => by obtain ⟨t0, t1, rfl, h⟩ := argA2_eq h; exact ⟨rfl, (show _ = S41_3 call t0 t1 H by kernel_rfl).trans h⟩)
    fun call => (cv (fun e H => S41_3 call e.x0.x0 e.x0.x1 H) (sq (sq (sq (sq (sq (cv (fun e H => S41_1 call e.x0.x0 e.x0.x3 H) (sq (sq (bl (lp (fun n e H => S41_0 call n e.x0.x0 e.x2.x17 e.x2.x18 e.x2.x19 H) fun _ => cv _ se)) se) se)) (sq (bl (lp (fun n e H => S41_2 call n e.x0.x0 e.x0.x3 e.x1.x10 e.x1.x11 e.x1.x12 H) fun _ => cv _ se)) se)) se) se) se) se))
theorem S42_ok : Stands Tryz.prog [] 1000000 42 S42 :=
  stands_of (s := S42) 46 [.tmp 4, .tmp 5] 2 (fun call e H => S42_2 call e.x0.x0 e.x0.x1 H) (fun call _ H _ h => by obtain ⟨t0, t1, rfl, h⟩ := argA2_eq h; exact ⟨rfl, (show _ = S42_2 call t0 t1 H by kernel_rfl).trans h⟩)
    fun call => (cv (fun e H => S42_2 call e.x0.x0 e.x0.x1 H) (sq (sq (sq (sq (sq (cv (fun e H => S42_0 call e.x0.x1 e.x0.x8 H) se) (sq (bl (lp (fun n e H => S42_1 call n e.x0.x1 e.x0.x6 e.x0.x8 e.x1.x4 e.x1.x5 e.x1.x6 H) fun _ => cv _ se)) se)) se) se) se) se))
theorem S43_ok : Stands Tryz.prog [] 1000000 43 S43 :=
  stands_of (s := S43) 61 [.cell (.some 6) 2] 1 (fun call e H => S43_2 call e.x0.x0 H) (fun call _ H _ h => by obtain ⟨t0, rfl, h⟩ := argA1_eq h; exact ⟨rfl, (show _ = S43_2 call t0 H by kernel_rfl).trans h⟩)
    fun call => (cv (fun e H => S43_2 call e.x0.x0 H) (sq (sq (sq (sq (cv (fun e H => S43_0 call e.x0.x1 e.x0.x2 H) se) (sq (bl (lp (fun n e H => S43_1 call n e.x0.x1 e.x0.x2 e.x1.x7 e.x1.x8 H) fun _ => cv _ se)) se)) se) se) se))
theorem S44_ok : Stands Tryz.prog [] 1000000 44 S44 :=
  stands_of (s := S44) 7 [.tmp 2] 1 (fun call e H => S44_0 call e.x0.x0 H) (fun call _ H _ h => by obtain ⟨t0, rfl, h⟩ := argA1_eq h; exact ⟨rfl, (show _ = S44_0 call t0 H by kernel_rfl).trans h⟩)
    fun call => (cv (fun e H => S44_0 call e.x0.x0 H) se)
theorem S45_ok : Stands Tryz.prog [] 1000000 45 S45 :=
  stands_of (s := S45) 49 [.tmp 6, .tmp 7] 3 (fun call e H => S45_0 call e.x0.x0 e.x0.x1 e.x0.x2 H) (fun call _ H _ h => by obtain ⟨t0, t1, t2, rfl, h⟩ := argA3_eq h; exact ⟨rfl, (show _ = S45_0 call t0 t1 t2 H by kernel_rfl).trans h⟩)
    fun call => (cv (fun e H => S45_0 call e.x0.x0 e.x0.x1 e.x0.x2 H) se)
theorem S46_ok : Stands Tryz.prog [] 1000000 46 S46 :=
  stands_of (s := S46) 23 [] 1 (fun call e H => S46_11 call e.x0.x0 H) (fun call _ H _ h => by obtain ⟨t0, rfl, h⟩ := argA1_eq h; exact ⟨rfl, (show _ = S46_11 call t0 H by kernel_rfl).trans h⟩)
    fun call => (cv (fun e H => S46_11 call e.x0.x0 H) (sq se (sq (sq (cv (fun e H => S46_10 call e.x0.x0 e.x0.x7 e.x0.x8 H) (sq (sq (cv (fun e H => S46_9 call e.x0.x0 e.x0.x7 e.x0.x9 H) (sq (sq (cv (fun e H => S46_8 call e.x0.x0 e.x0.x7 e.x0.x10 H) (sq (sq (cv (fun e H => S46_7 call e.x0.x0 e.x0.x7 e.x0.x11 H) (sq (sq (cv (fun e H => S46_6 call e.x0.x0 e.x0.x7 e.x0.x11 e.x0.x12 H) (sq (sq (cv (fun e H => S46_5 call e.x0.x0 e.x0.x7 e.x0.x11 e.x0.x13 H) (sq (sq (cv (fun e H => S46_4 call e.x0.x0 e.x0.x7 e.x0.x11 e.x0.x14 H) (sq (sq (cv (fun e H => S46_3 call e.x0.x0 e.x0.x7 e.x0.x11 e.x0.x15 H) (sq (sq (cv (fun e H => S46_2 call e.x0.x0 e.x0.x7 e.x0.x16 H) (sq (sq (cv (fun e H => S46_1 call e.x0.x0 e.x0.x7 e.x0.x17 H) (sq (sq (cv (fun e H => S46_0 call e.x0.x0 e.x0.x7 e.x0.x18 H) se) se) se)) se) se)) se) se)) se) se)) se) se)) se) se)) se) se)) se) se)) se) se)) se) se)) se) se)))
theorem S47_ok : Stands Tryz.prog [] 1000000 47 S47 :=
  stands_of (s := S47) 12 [.tmp 2, .tmp 3] 1 (fun call e H => S47_0 call e.x0.x0 H) (fun call _ H _ h => by obtain ⟨t0, rfl, h⟩ := argA1_eq h; exact ⟨rfl, (show _ = S47_0 call t0 H by kernel_rfl).trans h⟩)
    fun call => (cv (fun e H => S47_0 call e.x0.x0 H) se)
theorem S48_ok : Stands Tryz.prog [] 1000000 48 S48 :=
  stands_of (s := S48) 17 [.tmp 2] 1 (fun call e H => S48_0 call e.x0.x0 H) (fun call _ H _ h => by obtain ⟨t0, rfl, h⟩ := argA1_eq h; exact ⟨rfl, (show _ = S48_0 call t0 H by kernel_rfl).trans h⟩)
    fun call => (cv (fun e H => S48_0 call e.x0.x0 H) se)
theorem S50_ok : Stands Tryz.prog [] 1000000 50 S50 :=
  stands_of (s := S50) 112 [.tmp 6] 3 (fun call e H => S50_4 call e.x0.x0 e.x0.x1 e.x0.x2 H) (fun call _ H _ h => by obtain ⟨t0, t1, t2, rfl, h⟩ := argA3_eq h; exact ⟨rfl, (show _ = S50_4 call t0 t1 t2 H by kernel_rfl).trans h⟩)
    fun call => (cv (fun e H => S50_4 call e.x0.x0 e.x0.x1 e.x0.x2 H) (sq (sq (sq (sq (sq (sq (sq (sq (sq (sq (cv (fun e H => S50_0 call e.x0.x0 H) se) (sq se (sq (sq (cv (fun e H => S50_2 call e.x0.x0 e.x0.x1 e.x0.x2 e.x0.x7 e.x0.x9 e.x0.x11 e.x3.x15 e.x4.x0 H) (sq (sq (cv (fun e H => S50_1 call e.x0.x0 e.x0.x1 e.x0.x2 e.x0.x7 e.x0.x9 e.x0.x11 e.x4.x2 e.x4.x7 H) se) se) se)) se) se))) se) se) se) se) se) se) (sq se (sq (sq (cv (fun e H => S50_3 call e.x0.x0 e.x0.x1 e.x0.x2 e.x0.x7 e.x1.x0 e.x1.x4 H) se) se) se))) se) se))
theorem S51_ok : Stands Tryz.prog [] 1000000 51 S51 :=
  stands_of (s := S51) 9 [.tmp 4] 2 (fun call e H => S51_0 call e.x0.x0 e.x0.x1 H) (fun call _ H _ h => by obtain ⟨t0, t1, rfl, h⟩ := argA2_eq h; exact ⟨rfl, (show _ = S51_0 call t0 t1 H by kernel_rfl).trans h⟩)
    fun call => (cv (fun e H => S51_0 call e.x0.x0 e.x0.x1 H) se)
theorem S52_ok : Stands Tryz.prog [] 1000000 52 S52 :=
  stands_of (s := S52) 8 [.tmp 2] 1 (fun call e H => S52_0 call e.x0.x0 H) (fun call _ H _ h => by obtain ⟨t0, rfl, h⟩ := argA1_eq h; exact ⟨rfl, (show _ = S52_0 call t0 H by kernel_rfl).trans h⟩)
    fun call => (cv (fun e H => S52_0 call e.x0.x0 H) se)
theorem S53_ok : Stands Tryz.prog [] 1000000 53 S53 :=
  stands_of (s := S53) 7 [.tmp 2] 1 (fun call e H => S53_0 call e.x0.x0 H) (fun call _ H _ h => by obtain ⟨t0, rfl, h⟩ := argA1_eq h; exact ⟨rfl, (show _ = S53_0 call t0 H by kernel_rfl).trans h⟩)
    fun call => (cv (fun e H => S53_0 call e.x0.x0 H) se)
theorem S54_ok : Stands Tryz.prog [] 1000000 54 S54 :=
  stands_of (s := S54) 7 [.tmp 2] 1 (fun call e H => S54_0 call e.x0.x0 H) (fun call _ H _ h => by obtain ⟨t0, rfl, h⟩ := argA1_eq h; exact ⟨rfl, (show _ = S54_0 call t0 H by kernel_rfl).trans h⟩)
    fun call => (cv (fun e H => S54_0 call e.x0.x0 H) se)
theorem S55_ok : Stands Tryz.prog [] 1000000 55 S55 :=
  stands_of (s := S55) 7 [.tmp 2] 1 (fun call e H => S55_0 call e.x0.x0 H) (fun call _ H _ h => by obtain ⟨t0, rfl, h⟩ := argA1_eq h; exact ⟨rfl, (show _ = S55_0 call t0 H by kernel_rfl).trans h⟩)
    fun call => (cv (fun e H => S55_0 call e.x0.x0 H) se)
theorem S56_ok : Stands Tryz.prog [] 1000000 56 S56 :=
  stands_of (s := S56) 7 [.tmp 2] 1 (fun call e H => S56_0 call e.x0.x0 H) (fun call _ H _ h => by obtain ⟨t0, rfl, h⟩ := argA1_eq h; exact ⟨rfl, (show _ = S56_0 call t0 H by kernel_rfl).trans h⟩)
    fun call => (cv (fun e H => S56_0 call e.x0.x0 H) se)
theorem S57_ok : Stands Tryz.prog [] 1000000 57 S57 :=
  stands_of (s := S57) 8 [.tmp 2] 1 (fun call e H => S57_0 call e.x0.x0 H) (fun call _ H _ h => by obtain ⟨t0, rfl, h⟩ := argA1_eq h; exact ⟨rfl, (show _ = S57_0 call t0 H by kernel_rfl).trans h⟩)
    fun call => (cv (fun e H => S57_0 call e.x0.x0 H) se)
theorem S58_ok : Stands Tryz.prog [] 1000000 58 S58 :=
  stands_of (s := S58) 93 [.cell (.some 3) 4, .tmp 5] 2 (fun call e H => S58_9 call e.x0.x0 e.x0.x1 H) (fun call _ H _ h => by obtain ⟨t0, t1, rfl, h⟩ := argA2_eq h; exact ⟨rfl, (show _ = S58_9 call t0 t1 H by kernel_rfl).trans h⟩)
    fun call => (cv (fun e H => S58_9 call e.x0.x0 e.x0.x1 H) (sq (sq (sq (cv (fun e H => S58_7 call e.x0.x1 e.x0.x2 e.x0.x4 H) (sq (sq (cv (fun e H => S58_0 call e.x0.x4 H) se) (sq (bl (lp (fun n e H => S58_1 call n e.x0.x1 e.x0.x2 e.x0.x4 e.x0.x9 e.x2.x1 e.x2.x2 e.x2.x3 H) fun n0 => cv _ (sq (sq (sq (cv (fun e H => S58_2 call (S58_1 call n0) e.x0.x1 e.x0.x2 e.x0.x4 e.x0.x9 e.x2.x1 e.x2.x2 e.x2.x3 H) se) (bl (sq (sq (sq (bl (lp (fun n e H => S58_3 call (S58_1 call n0) n e.x0.x1 e.x0.x2 e.x0.x4 e.x0.x9 e.x0.x10 e.x0.x12 e.x2.x1 e.x2.x2 e.x2.x3 e.x2.x17 e.x2.x18 e.x2.x19 H) fun n1 => cv _ (sq (sq (sq (cv (fun e H => S58_4 call (S58_3 call (S58_1 call n0) n1) e.x0.x1 e.x0.x2 e.x0.x4 e.x0.x9 e.x0.x10 e.x0.x12 e.x2.x1 e.x2.x2 e.x2.x3 e.x2.x17 e.x2.x18 e.x2.x19 H) se) (bl (sq (sq (sq (bl (lp (fun n e H => S58_5 call (S58_3 call (S58_1 call n0) n1) n e.x0.x1 e.x0.x2 e.x0.x4 e.x0.x9 e.x0.x10 e.x0.x12 e.x0.x13 e.x0.x15 e.x2.x1 e.x2.x2 e.x2.x3 e.x2.x17 e.x2.x18 e.x2.x19 H) fun n2 => cv _ (sq (sq se (bl (sq se (sq (sq (cv (fun e H => S58_6 call (S58_5 call (S58_3 call (S58_1 call n0) n1) n2) e.x0.x1 e.x0.x2 e.x0.x4 e.x0.x9 e.x0.x10 e.x0.x12 e.x0.x13 e.x0.x15 e.x2.x1 e.x2.x2 e.x2.x3 e.x2.x17 e.x2.x18 e.x2.x19 e.x4.x0 e.x4.x4 H) se) se) se)))) se))) se) se) se))) se) se))) se) se) se))) se) se))) se)) se)) (sq (bl (lp (fun n e H => S58_8 call n e.x0.x1 e.x0.x2 e.x0.x4 e.x1.x3 e.x1.x4 e.x1.x5 H) fun _ => cv _ se)) se)) se) se))
theorem S59_ok : Stands Tryz.prog [] 1000000 59 S59 :=
  stands_of (s := S59) 42 [.tmp 2] 1 (fun call e H => S59_0 call 1000000 e.x0.x0 (.int .i64 (.ofNat 0)) H) (fun call _ H _ h => by obtain ⟨t0, rfl, h⟩ := argA1_eq h; exact ⟨rfl, (show _ = S59_0 call 1000000 t0 (.int .i64 (.ofNat 0)) H by kernel_rfl).trans h⟩)
    fun call => (cv (fun e H => S59_0 call 1000000 e.x0.x0 (.int .i64 (.ofNat 0)) H) (sq (sq (sq se (bl (lp (fun n e H => S59_0 call n e.x0.x0 e.x0.x3 H) fun n0 => cv _ (sq (bl (sq (bl (sq se (sq (sq (cv (fun e H => S59_3 call (S59_0 call n0) e.x0.x0 e.x0.x3 e.x0.x4 e.x0.x16 e.x0.x18 H) (sq (sq (cv (fun e H => S59_2 call (S59_0 call n0) e.x0.x0 e.x0.x3 e.x0.x4 e.x1.x0 e.x1.x2 H) (sq (sq (cv (fun e H => S59_1 call (S59_0 call n0) e.x0.x0 e.x0.x3 e.x1.x4 e.x1.x6 H) se) se) se)) se) se)) se) se))) se)) se)))) se) se))
theorem S60_ok : Stands Tryz.prog [] 1000000 60 S60 :=
  stands_of (s := S60) 64 [.cell (.some 3) 2] 1 (fun call e H => S60_4 call e.x0.x0 H) (fun call _ H _ h => by obtain ⟨t0, rfl, h⟩ := argA1_eq h; exact ⟨rfl, (show _ = S60_4 call t0 H by kernel_rfl).trans h⟩)
    fun call => (cv (fun e H => S60_4 call e.x0.x0 H) (sq (sq (sq (cv (fun e H => S60_0 call e.x0.x2 H) se) (sq (bl (lp (fun n e H => S60_1 call n e.x0.x0 e.x0.x2 e.x2.x11 e.x2.x12 e.x2.x13 H) fun _ => cv _ se)) se)) (bl (sq (cn (sq (sq (cv (fun e H => S60_2 call e.x0.x2 e.x0.x3 H) se) se) se) (sq (cn (sq (sq se (sq (sq se (sq (sq (cv (fun e H => S60_3 call e.x0.x2 e.x0.x4 e.x2.x5 e.x2.x7 H) se) se) se)) se)) se) se) se)) se))) se))
theorem S61_ok : Stands Tryz.prog [] 1000000 61 S61 :=
  stands_of (s := S61) 10 [.cell (.some 4) 4] 2 (fun call e H => S61_0 call e.x0.x0 e.x0.x1 H) (fun call _ H _ h => by obtain ⟨t0, t1, rfl, h⟩ := argA2_eq h; exact ⟨rfl, (show _ = S61_0 call t0 t1 H by kernel_rfl).trans h⟩)
    fun call => (cv (fun e H => S61_0 call e.x0.x0 e.x0.x1 H) se)
theorem S62_ok : Stands Tryz.prog [] 1000000 62 S62 :=
  stands_of (s := S62) 13 [.cell (.some 3) 2] 1 (fun call e H => S62_0 call e.x0.x0 H) (fun call _ H _ h => by obtain ⟨t0, rfl, h⟩ := argA1_eq h; exact ⟨rfl, (show _ = S62_0 call t0 H by kernel_rfl).trans h⟩)
    fun call => (cv (fun e H => S62_0 call e.x0.x0 H) se)
theorem S63_ok : Stands Tryz.prog [] 1000000 63 S63 :=
  stands_of (s := S63) 64 [.cell (.some 4) 2] 1 (fun call e H => S63_4 call e.x0.x0 H) (fun call _ H _ h => by obtain ⟨t0, rfl, h⟩ := argA1_eq h; exact ⟨rfl, (show _ = S63_4 call t0 H by kernel_rfl).trans h⟩)
    fun call => (cv (fun e H => S63_4 call e.x0.x0 H) (sq (sq (sq (cv (fun e H => S63_0 call e.x0.x2 e.x0.x3 H) se) (bl (sq (cn (sq (sq (sq (cv (fun e H => S63_1 call e.x0.x0 e.x0.x2 e.x0.x3 H) se) (bl (lp (fun n e H => S63_2 call n e.x0.x0 e.x0.x2 e.x0.x3 H) fun n0 => cv _ (sq se (sq se (sq (sq (cv (fun e H => S63_3 call (S63_2 call n0) e.x0.x0 e.x0.x2 e.x0.x3 e.x1.x4 e.x1.x8 H) se) se) se)))))) se) se) se) se))) se) se))
end Go.Proofs.YtbjjgndgofakoaaGreatDoor
