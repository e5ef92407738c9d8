/- They stand for their bodies: part 0. -/
import Derived.Test.YtggjnaeefpafhaaGreatDoorCF0
import Derived.KernelRfl
namespace Go.Proofs.YtggjnaeefpafhaaGreatDoor
open Go.Ab
set_option maxRecDepth 100000
theorem S7_ok : Stands Tryz.prog [0] 1000000 7 S7 :=
  stands_of (s := S7) 134 [.tmp 4] 2 (fun call e H => S7_11 call e.x0.x0 e.x0.x1 H) (fun call _ H _ h => by obtain ⟨t0, t1, rfl, h⟩ := argA2_eq h; exact ⟨rfl, (show _ = S7_11 call t0 t1 H by kernel_rfl).trans h⟩)
    fun call => (cv (fun e H => S7_11 call e.x0.x0 e.x0.x1 H) (sq (sq (sq (sq (sq (sq (cv (fun e H => S7_6 call e.x0.x0 e.x0.x1 e.x0.x5 e.x0.x6 H) (sq (sq (sq (cv (fun e H => S7_3 call e.x0.x5 e.x0.x6 e.x0.x8 H) (sq (sq (sq (sq (sq (sq (sq (cv (fun e H => S7_1 call e.x0.x8 e.x0.x10 H) (sq (sq se (sq (sq (cv (fun e H => S7_0 call e.x6.x8 e.x6.x12 H) se) se) se)) se)) (sq (bl (lp (fun n e H => S7_2 call n e.x0.x6 e.x0.x8 e.x0.x10 e.x0.x12 H) fun _ => cv _ se)) se)) se) se) se) se) se) se)) (sq (bl (lp (fun n e H => S7_4 call n e.x0.x0 e.x0.x1 e.x0.x5 e.x0.x6 e.x0.x8 e.x0.x9 H) fun n1 => cv _ (sq (sq (cv (fun e H => S7_5 call (S7_4 call n1) e.x0.x0 e.x0.x1 e.x0.x5 e.x0.x6 e.x0.x8 e.x0.x9 H) se) se) se))) se)) se) se)) (sq (bl (lp (fun n e H => S7_7 call n e.x0.x0 e.x0.x1 e.x0.x5 e.x0.x6 e.x0.x7 H) fun _ => cv _ se)) se)) se) se) (sq se (sq (sq (cv (fun e H => S7_10 call e.x0.x0 e.x0.x1 e.x0.x19 e.x1.x1 H) (sq (sq (cv (fun e H => S7_9 call e.x0.x0 e.x0.x1 e.x1.x3 e.x1.x5 H) (sq (sq (cv (fun e H => S7_8 call e.x0.x0 e.x0.x1 e.x1.x7 e.x1.x9 H) se) se) se)) se) se)) se) se))) se) se))
theorem S10_ok : Stands Tryz.prog [0] 1000000 10 S10 :=
  stands_of (s := S10) 136 [.tmp 0] 0 (fun call _ H => S10_20 call H) (fun call _ H _ h => by obtain ⟨rfl, h⟩ := argA0_eq h; exact ⟨rfl, (show _ = S10_20 call H by kernel_rfl).trans h⟩)
    fun call => (cv (fun _ H => S10_20 call H) (sq (sq (sq (sq (sq (sq (sq (sq (sq (sq se (sq (sq (cv (fun e H => S10_15 call e.x0.x1 e.x0.x5 e.x0.x6 e.x0.x7 e.x0.x8 e.x0.x9 e.x0.x10 e.x2.x17 e.x2.x19 H) (sq (sq (cv (fun e H => S10_14 call e.x0.x1 e.x0.x6 e.x0.x7 e.x0.x8 e.x0.x9 e.x0.x10 e.x3.x1 e.x3.x2 H) (sq (sq (cv (fun e H => S10_13 call e.x0.x1 e.x0.x7 e.x0.x8 e.x0.x9 e.x0.x10 e.x3.x4 e.x3.x5 H) (sq (sq (cv (fun e H => S10_12 call e.x0.x1 e.x0.x8 e.x0.x9 e.x0.x10 e.x3.x7 e.x3.x8 H) (sq (sq (cv (fun e H => S10_11 call e.x0.x1 e.x0.x8 e.x0.x9 e.x0.x10 e.x3.x10 e.x3.x13 H) (sq (sq (cv (fun e H => S10_10 call e.x0.x1 e.x0.x8 e.x0.x9 e.x0.x10 e.x3.x15 e.x3.x18 H) (sq (sq (cv (fun e H => S10_9 call e.x0.x1 e.x0.x8 e.x0.x10 e.x4.x0 e.x4.x2 H) (sq (sq (cv (fun e H => S10_8 call e.x0.x1 e.x0.x8 e.x4.x4 e.x4.x6 H) (sq (sq (cv (fun e H => S10_7 call e.x0.x1 e.x0.x8 e.x4.x8 e.x4.x12 H) (sq (sq (cv (fun e H => S10_6 call e.x0.x1 e.x0.x8 e.x4.x14 e.x4.x17 H) (sq (sq (cv (fun e H => S10_5 call e.x0.x1 e.x0.x8 e.x4.x19 e.x5.x4 H) (sq (sq (cv (fun e H => S10_4 call e.x0.x1 e.x0.x8 e.x5.x6 e.x5.x11 H) (sq (sq (cv (fun e H => S10_3 call e.x0.x1 e.x5.x13 e.x5.x18 H) (sq (sq (cv (fun e H => S10_2 call e.x0.x1 e.x6.x0 e.x6.x2 H) (sq (sq (cv (fun e H => S10_1 call e.x0.x1 e.x6.x4 e.x6.x8 H) (sq (sq (cv (fun e H => S10_0 call e.x6.x10 e.x6.x14 H) se) se) se)) se) se)) se) se)) se) se)) se) se)) se) se)) se) se)) se) se)) se) se)) se) se)) se) se)) se) se)) se) se)) se) se)) se) se)) se) se)) se) se) se) se) (sq (sq (cv (fun e H => S10_16 call e.x0.x1 e.x0.x3 e.x0.x4 e.x2.x0 e.x2.x2 H) se) se) se)) se) (sq se (sq (sq (cv (fun e H => S10_19 call e.x0.x1 e.x0.x18 e.x1.x0 H) (sq (sq (cv (fun e H => S10_18 call e.x0.x1 e.x1.x2 e.x1.x5 H) (sq (sq (cv (fun e H => S10_17 call e.x0.x1 e.x1.x7 e.x1.x11 H) se) se) se)) se) se)) se) se))) se) se))
theorem S11_ok : Stands Tryz.prog [0] 1000000 11 S11 :=
  stands_of (s := S11) 44 [.tmp 4, .tmp 5] 2 (fun call e H => S11_0 call e.x0.x0 e.x0.x1 H) (fun call _ H _ h => by obtain ⟨t0, t1, rfl, h⟩ := argA2_eq h; exact ⟨rfl, (show _ = S11_0 call t0 t1 H by kernel_rfl).trans h⟩)
    fun call => (cv (fun e H => S11_0 call e.x0.x0 e.x0.x1 H) se)
theorem S12_ok : Stands Tryz.prog [0] 1000000 12 S12 :=
  stands_of (s := S12) 11 [.cell (.some 6) 0] 0 (fun call _ H => S12_0 call H) (fun call _ H _ h => by obtain ⟨rfl, h⟩ := argA0_eq h; exact ⟨rfl, (show _ = S12_0 call H by kernel_rfl).trans h⟩)
    fun call => (cv (fun _ H => S12_0 call H) se)
theorem S13_ok : Stands Tryz.prog [0] 1000000 13 S13 :=
  stands_of (s := S13) 112 [.tmp 6] 3 (fun call e H => S13_4 call e.x0.x0 e.x0.x1 e.x0.x2 H) (fun call _ H _ h => by obtain ⟨t0, t1, t2, rfl, h⟩ := argA3_eq h; exact ⟨rfl, (show _ = S13_4 call t0 t1 t2 H by kernel_rfl).trans h⟩)
    fun call => (cv (fun e H => S13_4 call e.x0.x0 e.x0.x1 e.x0.x2 H) (sq (sq (sq (sq (sq (sq (sq (sq (sq (sq (cv (fun e H => S13_0 call e.x0.x0 H) se) (sq se (sq (sq (cv (fun e H => S13_2 call e.x0.x0 e.x0.x1 e.x0.x2 e.x0.x7 e.x0.x9 e.x0.x11 e.x3.x15 e.x4.x0 H) (sq (sq (cv (fun e H => S13_1 call e.x0.x0 e.x0.x1 e.x0.x2 e.x0.x7 e.x0.x9 e.x0.x11 e.x4.x2 e.x4.x7 H) se) se) se)) se) se))) se) se) se) se) se) se) (sq se (sq (sq (cv (fun e H => S13_3 call e.x0.x0 e.x0.x1 e.x0.x2 e.x0.x7 e.x1.x0 e.x1.x4 H) se) se) se))) se) se))
theorem S14_ok : Stands Tryz.prog [0] 1000000 14 S14 :=
  stands_of (s := S14) 12 [.tmp 2, .tmp 3] 1 (fun call e H => S14_0 call e.x0.x0 H) (fun call _ H _ h => by obtain ⟨t0, rfl, h⟩ := argA1_eq h; exact ⟨rfl, (show _ = S14_0 call t0 H by kernel_rfl).trans h⟩)
    fun call => (cv (fun e H => S14_0 call e.x0.x0 H) se)
theorem S15_ok : Stands Tryz.prog [0] 1000000 15 S15 :=
  stands_of (s := S15) 8 [.tmp 2] 1 (fun call e H => S15_0 call e.x0.x0 H) (fun call _ H _ h => by obtain ⟨t0, rfl, h⟩ := argA1_eq h; exact ⟨rfl, (show _ = S15_0 call t0 H by kernel_rfl).trans h⟩)
    fun call => (cv (fun e H => S15_0 call e.x0.x0 H) se)
theorem S17_ok : Stands Tryz.prog [0] 1000000 17 S17 :=
  stands_of (s := S17) 17 [.tmp 2] 1 (fun call e H => S17_0 call e.x0.x0 H) (fun call _ H _ h => by obtain ⟨t0, rfl, h⟩ := argA1_eq h; exact ⟨rfl, (show _ = S17_0 call t0 H by kernel_rfl).trans h⟩)
    fun call => (cv (fun e H => S17_0 call e.x0.x0 H) se)
theorem S18_ok : Stands Tryz.prog [0] 1000000 18 S18 :=
  stands_of (s := S18) 23 [.tmp 2] 1 (fun call e H => S18_0 call e.x0.x0 H) (fun call _ H _ h => by obtain ⟨t0, rfl, h⟩ := argA1_eq h; exact ⟨rfl, (show _ = S18_0 call t0 H by kernel_rfl).trans h⟩)
    fun call => (cv (fun e H => S18_0 call e.x0.x0 H) se)
theorem S19_ok : Stands Tryz.prog [0] 1000000 19 S19 :=
  stands_of (s := S19) 9 [.tmp 4] 2 (fun call e H => S19_0 call e.x0.x0 e.x0.x1 H) (fun call _ H _ h => by obtain ⟨t0, t1, rfl, h⟩ := argA2_eq h; exact ⟨rfl, (show _ = S19_0 call t0 t1 H by kernel_rfl).trans h⟩)
    fun call => (cv (fun e H => S19_0 call e.x0.x0 e.x0.x1 H) se)
theorem S20_ok : Stands Tryz.prog [0] 1000000 20 S20 :=
  stands_of (s := S20) 34 [.tmp 2] 1 (fun call e H => S20_2 call e.x0.x0 H) (fun call _ H _ h => by obtain ⟨t0, rfl, h⟩ := argA1_eq h; exact ⟨rfl, (show _ = S20_2 call t0 H by kernel_rfl).trans h⟩)
    fun call => (cv (fun e H => S20_2 call e.x0.x0 H) (sq (sq (sq (sq se (sq (bl (lp (fun n e H => S20_0 call n e.x0.x1 e.x0.x3 e.x0.x12 e.x0.x13 e.x0.x14 H) fun n0 => cv _ (sq (sq (sq se (bl (sq (sq se (sq (sq (cv (fun e H => S20_1 call (S20_0 call n0) e.x0.x1 e.x0.x3 e.x0.x12 e.x0.x13 e.x0.x14 e.x1.x1 e.x1.x11 H) se) se) se)) se))) se) se))) se)) se) se) se))
theorem S21_ok : Stands Tryz.prog [0] 1000000 21 S21 :=
  stands_of (s := S21) 7 [.tmp 2] 1 (fun call e H => S21_0 call e.x0.x0 H) (fun call _ H _ h => by obtain ⟨t0, rfl, h⟩ := argA1_eq h; exact ⟨rfl, (show _ = S21_0 call t0 H by kernel_rfl).trans h⟩)
    fun call => (cv (fun e H => S21_0 call e.x0.x0 H) se)
theorem S22_ok : Stands Tryz.prog [0] 1000000 22 S22 :=
  stands_of (s := S22) 7 [.tmp 2] 1 (fun call e H => S22_0 call e.x0.x0 H) (fun call _ H _ h => by obtain ⟨t0, rfl, h⟩ := argA1_eq h; exact ⟨rfl, (show _ = S22_0 call t0 H by kernel_rfl).trans h⟩)
    fun call => (cv (fun e H => S22_0 call e.x0.x0 H) se)
theorem S23_ok : Stands Tryz.prog [0] 1000000 23 S23 :=
  stands_of (s := S23) 7 [.tmp 2] 1 (fun call e H => S23_0 call e.x0.x0 H) (fun call _ H _ h => by obtain ⟨t0, rfl, h⟩ := argA1_eq h; exact ⟨rfl, (show _ = S23_0 call t0 H by kernel_rfl).trans h⟩)
    fun call => (cv (fun e H => S23_0 call e.x0.x0 H) se)
theorem S24_ok : Stands Tryz.prog [0] 1000000 24 S24 :=
  stands_of (s := S24) 12 [.tmp 2] 1 (fun call e H => S24_0 call e.x0.x0 H) (fun call _ H _ h => by obtain ⟨t0, rfl, h⟩ := argA1_eq h; exact ⟨rfl, (show _ = S24_0 call t0 H by kernel_rfl).trans h⟩)
    fun call => (cv (fun e H => S24_0 call e.x0.x0 H) se)
theorem S26_ok : Stands Tryz.prog [0] 1000000 26 S26 :=
  stands_of (s := S26) 8 [.tmp 2] 1 (fun call e H => S26_0 call e.x0.x0 H) (fun call _ H _ h => by obtain ⟨t0, rfl, h⟩ := argA1_eq h; exact ⟨rfl, (show _ = S26_0 call t0 H by kernel_rfl).trans h⟩)
    fun call => (cv (fun e H => S26_0 call e.x0.x0 H) se)
theorem S30_ok : Stands Tryz.prog [0] 1000000 30 S30 :=
  stands_of (s := S30) 26 [.tmp 4] 2 (fun call e H => S30_1 call e.x0.x0 e.x0.x1 H) (fun call _ H _ h => by obtain ⟨t0, t1, rfl, h⟩ := argA2_eq h; exact ⟨rfl, (show _ = S30_1 call t0 t1 H by kernel_rfl).trans h⟩)
    fun call => (cv (fun e H => S30_1 call e.x0.x0 e.x0.x1 H) (sq (sq (sq se (sq (bl (lp (fun n e H => S30_0 call n e.x0.x0 e.x0.x1 e.x0.x5 H) fun _ => cv _ se)) se)) se) se))
theorem S31_ok : Stands Tryz.prog [0] 1000000 31 S31 :=
  stands_of (s := S31) 47 [.tmp 4] 2 (fun call e H => S31_4 call e.x0.x0 e.x0.x1 H) (fun call _ H _ h => by obtain ⟨t0, t1, rfl, h⟩ := argA2_eq h; exact ⟨rfl, (show _ = S31_4 call t0 t1 H by kernel_rfl).trans h⟩)
    fun call => (cv (fun e H => S31_4 call e.x0.x0 e.x0.x1 H) (sq (sq (sq (cv (fun e H => S31_1 call e.x0.x2 e.x0.x3 e.x0.x5 H) (sq (sq se (sq (bl (lp (fun n e H => S31_0 call n e.x0.x5 e.x0.x8 e.x1.x14 e.x1.x15 H) fun _ => cv _ se)) se)) se)) (sq (bl (lp (fun n e H => S31_2 call n e.x0.x2 e.x0.x3 e.x0.x5 e.x0.x16 e.x0.x17 e.x0.x18 H) fun n1 => cv _ (sq (sq (sq (cv (fun e H => S31_3 call (S31_2 call n1) e.x0.x2 e.x0.x3 e.x0.x5 e.x0.x16 e.x0.x17 e.x0.x18 H) se) se) se) se))) se)) se) se))
theorem S33_ok : Stands Tryz.prog [0] 1000000 33 S33 :=
  stands_of (s := S33) 17 [.tmp 4] 2 (fun call e H => S33_0 call e.x0.x0 e.x0.x1 H) (fun call _ H _ h => by obtain ⟨t0, t1, rfl, h⟩ := argA2_eq h; exact ⟨rfl, (show _ = S33_0 call t0 t1 H by kernel_rfl).trans h⟩)
    fun call => (cv (fun e H => S33_0 call e.x0.x0 e.x0.x1 H) se)
theorem S37_ok : Stands Tryz.prog [0] 1000000 37 S37 :=
  stands_of (s := S37) 8 [.tmp 2] 1 (fun call e H => S37_0 call e.x0.x0 H) (fun call _ H _ h => by obtain ⟨t0, rfl, h⟩ := argA1_eq h; exact ⟨rfl, (show _ = S37_0 call t0 H by kernel_rfl).trans h⟩)
    fun call => (cv (fun e H => S37_0 call e.x0.x0 H) se)
theorem S38_ok : Stands Tryz.prog [0] 1000000 38 S38 :=
  stands_of (s := S38) 11 [.tmp 2] 1 (fun call e H => S38_0 call e.x0.x0 H) (fun call _ H _ h => by obtain ⟨t0, rfl, h⟩ := argA1_eq h; exact ⟨rfl, (show _ = S38_0 call t0 H by kernel_rfl).trans h⟩)
    fun call => (cv (fun e H => S38_0 call e.x0.x0 H) se)
theorem S39_ok : Stands Tryz.prog [0] 1000000 39 S39 :=
  stands_of (s := S39) 46 [.tmp 4, .tmp 5] 2 (fun call e H => S39_2 call e.x0.x0 e.x0.x1 H) (fun call _ H _ h => by obtain ⟨t0, t1, rfl, h⟩ := argA2_eq h; exact ⟨rfl, (show _ = S39_2 call t0 t1 H by kernel_rfl).trans h⟩)
    fun call => (cv (fun e H => S39_2 call e.x0.x0 e.x0.x1 H) (sq (sq (sq (sq (sq (cv (fun e H => S39_0 call e.x0.x1 e.x0.x8 H) se) (sq (bl (lp (fun n e H => S39_1 call n e.x0.x1 e.x0.x6 e.x0.x8 e.x1.x4 e.x1.x5 e.x1.x6 H) fun _ => cv _ se)) se)) se) se) se) se))
theorem S40_ok : Stands Tryz.prog [0] 1000000 40 S40 :=
  stands_of (s := S40) 61 [.cell (.some 6) 2] 1 (fun call e H => S40_2 call e.x0.x0 H) (fun call _ H _ h => by obtain ⟨t0, rfl, h⟩ := argA1_eq h; exact ⟨rfl, (show _ = S40_2 call t0 H by kernel_rfl).trans h⟩)
    fun call => (cv (fun e H => S40_2 call e.x0.x0 H) (sq (sq (sq (sq (cv (fun e H => S40_0 call e.x0.x1 e.x0.x2 H) se) (sq (bl (lp (fun n e H => S40_1 call n e.x0.x1 e.x0.x2 e.x1.x7 e.x1.x8 H) fun _ => cv _ se)) se)) se) se) se))
theorem S41_ok : Stands Tryz.prog [0] 1000000 41 S41 :=
  stands_of (s := S41) 7 [.tmp 2] 1 (fun call e H => S41_0 call e.x0.x0 H) (fun call _ H _ h => by obtain ⟨t0, rfl, h⟩ := argA1_eq h; exact ⟨rfl, (show _ = S41_0 call t0 H by kernel_rfl).trans h⟩)
    fun call => (cv (fun e H => S41_0 call e.x0.x0 H) se)
theorem S42_ok : Stands Tryz.prog [0] 1000000 42 S42 :=
  stands_of (s := S42) 49 [.tmp 6, .tmp 7] 3 (fun call e H => S42_0 call e.x0.x0 e.x0.x1 e.x0.x2 H) (fun call _ H _ h => by obtain ⟨t0, t1, t2, rfl, h⟩ := argA3_eq h; exact ⟨rfl, (show _ = S42_0 call t0 t1 t2 H by kernel_rfl).trans h⟩)
    fun call => (cv (fun e H => S42_0 call e.x0.x0 e.x0.x1 e.x0.x2 H) se)
theorem S43_ok : Stands Tryz.prog [0] 1000000 43 S43 :=
  stands_of (s := S43) 23 [] 1 (fun call e H => S43_11 call e.x0.x0 H) (fun call _ H _ h => by obtain ⟨t0, rfl, h⟩ := argA1_eq h; exact ⟨rfl, (show _ = S43_11 call t0 H by kernel_rfl).trans h⟩)
    fun call => (cv (fun e H => S43_11 call e.x0.x0 H) (sq se (sq (sq (cv (fun e H => S43_10 call e.x0.x0 e.x0.x7 e.x0.x8 H) (sq (sq (cv (fun e H => S43_9 call e.x0.x0 e.x0.x7 e.x0.x9 H) (sq (sq (cv (fun e H => S43_8 call e.x0.x0 e.x0.x7 e.x0.x10 H) (sq (sq (cv (fun e H => S43_7 call e.x0.x0 e.x0.x7 e.x0.x11 H) (sq (sq (cv (fun e H => S43_6 call e.x0.x0 e.x0.x7 e.x0.x11 e.x0.x12 H) (sq (sq (cv (fun e H => S43_5 call e.x0.x0 e.x0.x7 e.x0.x11 e.x0.x13 H) (sq (sq (cv (fun e H => S43_4 call e.x0.x0 e.x0.x7 e.x0.x11 e.x0.x14 H) (sq (sq (cv (fun e H => S43_3 call e.x0.x0 e.x0.x7 e.x0.x11 e.x0.x15 H) (sq (sq (cv (fun e H => S43_2 call e.x0.x0 e.x0.x7 e.x0.x16 H) (sq (sq (cv (fun e H => S43_1 call e.x0.x0 e.x0.x7 e.x0.x17 H) (sq (sq (cv (fun e H => S43_0 call e.x0.x0 e.x0.x7 e.x0.x18 H) se) se) se)) se) se)) se) se)) se) se)) se) se)) se) se)) se) se)) se) se)) se) se)) se) se)) se) se)))
theorem S44_ok : Stands Tryz.prog [0] 1000000 44 S44 :=
  stands_of (s := S44) 20 [.tmp 4] 2 (fun call e H => S44_0 call e.x0.x0 e.x0.x1 H) (fun call _ H _ h => by obtain ⟨t0, t1, rfl, h⟩ := argA2_eq h; exact ⟨rfl, (show _ = S44_0 call t0 t1 H by kernel_rfl).trans h⟩)
    fun call => (cv (fun e H => S44_0 call e.x0.x0 e.x0.x1 H) se)
theorem S45_ok : Stands Tryz.prog [0] 1000000 45 S45 :=
  stands_of (s := S45) 11 [.tmp 4] 2 (fun call e H => S45_0 call e.x0.x0 e.x0.x1 H) (fun call _ H _ h => by obtain ⟨t0, t1, rfl, h⟩ := argA2_eq h; exact ⟨rfl, (show _ = S45_0 call t0 t1 H by kernel_rfl).trans h⟩)
    fun call => (cv (fun e H => S45_0 call e.x0.x0 e.x0.x1 H) se)
theorem S46_ok : Stands Tryz.prog [0] 1000000 46 S46 :=
  stands_of (s := S46) 68 [.cell (.some 5) 4, .tmp 5] 2 (fun call e H => S46_33 call e.x0.x0 e.x0.x1 H) (fun call _ H _ h => by obtain ⟨t0, t1, rfl, h⟩ := argA2_eq h; exact ⟨rfl, (show _ = S46_33 call t0 t1 H by kernel_rfl).trans h⟩)
    fun call => (cv (fun e H => S46_33 call e.x0.x0 e.x0.x1 H) (sq (sq (sq se (sq se (sq (sq (cv (fun e H => S46_32 call e.x0.x3 e.x0.x4 e.x0.x6 e.x0.x11 e.x0.x12 H) (sq (sq (cv (fun e H => S46_31 call e.x0.x3 e.x0.x4 e.x0.x6 e.x0.x11 e.x0.x13 H) (sq (sq (cv (fun e H => S46_30 call e.x0.x3 e.x0.x4 e.x0.x6 e.x0.x11 e.x0.x14 H) (sq (sq (cv (fun e H => S46_29 call e.x0.x3 e.x0.x4 e.x0.x6 e.x0.x11 e.x0.x15 H) (sq (sq (cv (fun e H => S46_28 call e.x0.x3 e.x0.x4 e.x0.x6 e.x0.x11 e.x0.x16 H) (sq (sq (cv (fun e H => S46_27 call e.x0.x3 e.x0.x4 e.x0.x6 e.x0.x18 e.x0.x19 H) (sq (sq (cv (fun e H => S46_26 call e.x0.x3 e.x0.x4 e.x0.x6 e.x0.x18 e.x1.x0 H) (sq (sq (cv (fun e H => S46_25 call e.x0.x3 e.x0.x4 e.x0.x6 e.x0.x18 e.x1.x1 H) (sq (sq (cv (fun e H => S46_24 call e.x0.x3 e.x0.x4 e.x0.x6 e.x0.x18 e.x1.x2 H) (sq (sq (cv (fun e H => S46_23 call e.x0.x3 e.x0.x4 e.x0.x6 e.x0.x18 e.x1.x2 e.x1.x3 H) (sq (sq (cv (fun e H => S46_22 call e.x0.x3 e.x0.x4 e.x0.x6 e.x0.x18 e.x1.x2 e.x1.x4 H) (sq (sq (cv (fun e H => S46_21 call e.x0.x3 e.x0.x4 e.x0.x6 e.x0.x18 e.x1.x2 e.x1.x5 H) (sq (sq (cv (fun e H => S46_20 call e.x0.x3 e.x0.x4 e.x0.x6 e.x0.x18 e.x1.x6 H) (sq (sq (cv (fun e H => S46_19 call e.x0.x3 e.x0.x4 e.x0.x6 e.x1.x8 e.x1.x9 H) (sq (sq (cv (fun e H => S46_18 call e.x0.x3 e.x0.x4 e.x0.x6 e.x1.x8 e.x1.x10 H) (sq (sq (cv (fun e H => S46_17 call e.x0.x3 e.x0.x4 e.x0.x6 e.x1.x8 e.x1.x11 H) (sq (sq (cv (fun e H => S46_16 call e.x0.x3 e.x0.x4 e.x0.x6 e.x1.x8 e.x1.x12 H) (sq (sq (cv (fun e H => S46_15 call e.x0.x3 e.x0.x4 e.x0.x6 e.x1.x8 e.x1.x13 H) (sq (sq (cv (fun e H => S46_14 call e.x0.x3 e.x0.x4 e.x0.x6 e.x1.x15 e.x1.x16 H) (sq (sq (cv (fun e H => S46_13 call e.x0.x3 e.x0.x4 e.x0.x6 e.x1.x15 e.x1.x17 H) (sq (sq (cv (fun e H => S46_12 call e.x0.x3 e.x0.x4 e.x0.x6 e.x1.x15 e.x1.x18 H) (sq (sq (cv (fun e H => S46_11 call e.x0.x3 e.x0.x4 e.x0.x6 e.x1.x15 e.x1.x19 H) (sq (sq (cv (fun e H => S46_10 call e.x0.x3 e.x0.x4 e.x0.x6 e.x1.x15 e.x1.x19 e.x2.x0 H) (sq (sq (cv (fun e H => S46_9 call e.x0.x3 e.x0.x4 e.x0.x6 e.x1.x15 e.x1.x19 e.x2.x1 H) (sq (sq (cv (fun e H => S46_8 call e.x0.x3 e.x0.x4 e.x0.x6 e.x1.x15 e.x1.x19 e.x2.x1 e.x2.x2 H) (sq (sq (cv (fun e H => S46_7 call e.x0.x3 e.x0.x4 e.x0.x6 e.x1.x15 e.x1.x19 e.x2.x1 e.x2.x3 H) (sq (sq (cv (fun e H => S46_6 call e.x0.x3 e.x0.x4 e.x0.x6 e.x1.x15 e.x1.x19 e.x2.x1 e.x2.x4 H) (sq (sq (cv (fun e H => S46_5 call e.x0.x3 e.x0.x4 e.x0.x6 e.x1.x15 e.x1.x19 e.x2.x1 e.x2.x5 H) (sq (sq (cv (fun e H => S46_4 call e.x0.x3 e.x0.x4 e.x0.x6 e.x1.x15 e.x1.x19 e.x2.x6 H) (sq (sq (cv (fun e H => S46_3 call e.x0.x3 e.x0.x4 e.x0.x6 e.x1.x15 e.x1.x19 e.x2.x7 H) (sq (sq (cv (fun e H => S46_2 call e.x0.x3 e.x0.x4 e.x0.x6 e.x1.x15 e.x1.x19 e.x2.x8 H) (sq (sq (cv (fun e H => S46_1 call e.x0.x3 e.x0.x4 e.x0.x6 e.x1.x15 e.x1.x19 e.x2.x9 H) (sq (sq (cv (fun e H => S46_0 call e.x0.x3 e.x0.x4 e.x0.x6 e.x1.x15 e.x2.x10 H) se) se) se)) se) se)) se) se)) se) se)) se) se)) se) se)) se) se)) se) se)) se) se)) se) se)) se) se)) se) se)) se) se)) se) se)) se) se)) se) se)) se) se)) se) se)) se) se)) se) se)) se) se)) se) se)) se) se)) se) se)) se) se)) se) se)) se) se)) se) se)) se) se)) se) se)) se) se)) se) se)) se) se))) se) se))
theorem S47_ok : Stands Tryz.prog [0] 1000000 47 S47 :=
  stands_of (s := S47) 14 [.cell (.some 3) 2, .tmp 3] 1 (fun call e H => S47_0 call e.x0.x0 H) (fun call _ H _ h => by obtain ⟨t0, rfl, h⟩ := argA1_eq h; exact ⟨rfl, (show _ = S47_0 call t0 H by kernel_rfl).trans h⟩)
    fun call => (cv (fun e H => S47_0 call e.x0.x0 H) se)
theorem S48_ok : Stands Tryz.prog [0] 1000000 48 S48 :=
  stands_of (s := S48) 23 [.tmp 4] 2 (fun call e H => S48_5 call e.x0.x0 e.x0.x1 H) (fun call _ H _ h => by obtain ⟨t0, t1, rfl, h⟩ := argA2_eq h; exact ⟨rfl, (show _ = S48_5 call t0 t1 H by kernel_rfl).trans h⟩)
    fun call => (cv (fun e H => S48_5 call e.x0.x0 e.x0.x1 H) (sq (sq se (sq (sq (cv (fun e H => S48_4 call e.x0.x0 e.x0.x1 e.x0.x7 e.x0.x9 H) (sq (sq (cv (fun e H => S48_3 call e.x0.x0 e.x0.x1 e.x0.x11 e.x0.x13 H) (sq (sq (cv (fun e H => S48_2 call e.x0.x1 e.x0.x15 e.x0.x18 H) (sq (sq (cv (fun e H => S48_1 call e.x0.x15 e.x0.x18 e.x1.x0 H) (sq (sq (cv (fun e H => S48_0 call e.x0.x15 e.x1.x1 H) se) se) se)) se) se)) se) se)) se) se)) se) se)) se))
theorem S49_ok : Stands Tryz.prog [0] 1000000 49 S49 :=
  stands_of (s := S49) 8 [.tmp 2] 1 (fun call e H => S49_0 call e.x0.x0 H) (fun call _ H _ h => by obtain ⟨t0, rfl, h⟩ := argA1_eq h; exact ⟨rfl, (show _ = S49_0 call t0 H by kernel_rfl).trans h⟩)
    fun call => (cv (fun e H => S49_0 call e.x0.x0 H) se)
theorem S50_ok : Stands Tryz.prog [0] 1000000 50 S50 :=
  stands_of (s := S50) 98 [] 1 (fun call e H => S50_5 call e.x0.x0 H) (fun call _ H _ h => by obtain ⟨t0, rfl, h⟩ := argA1_eq h; exact ⟨rfl, (show _ = S50_5 call t0 H by kernel_rfl).trans h⟩)
    fun call => (cv (fun e H => S50_5 call e.x0.x0 H) (sq (bl (sq (cn se (sq (cn se (sq (cn se (sq (cn se (sq (cn (sq (cv (fun e H => S50_0 call e.x0.x0 H) se) se) se) se)) se)) (sq (sq (cv (fun e H => S50_3 call e.x0.x0 e.x0.x2 e.x1.x7 e.x1.x9 H) (sq (sq (cv (fun e H => S50_2 call e.x0.x0 e.x0.x2 e.x1.x11 e.x1.x13 H) (sq (sq (cv (fun e H => S50_1 call e.x0.x0 e.x0.x2 e.x1.x15 e.x1.x17 H) se) se) se)) se) se)) se) se))) se)) (sq (sq (cv (fun e H => S50_4 call e.x0.x0 e.x0.x2 e.x0.x13 e.x0.x15 H) se) se) se))) se))
theorem S51_ok : Stands Tryz.prog [0] 1000000 51 S51 :=
  stands_of (s := S51) 8 [.tmp 2] 1 (fun call e H => S51_0 call e.x0.x0 H) (fun call _ H _ h => by obtain ⟨t0, rfl, h⟩ := argA1_eq h; exact ⟨rfl, (show _ = S51_0 call t0 H by kernel_rfl).trans h⟩)
    fun call => (cv (fun e H => S51_0 call e.x0.x0 H) se)
theorem S52_ok : Stands Tryz.prog [0] 1000000 52 S52 :=
  stands_of (s := S52) 9 [.tmp 4] 2 (fun call e H => S52_0 call e.x0.x0 e.x0.x1 H) (fun call _ H _ h => by obtain ⟨t0, t1, rfl, h⟩ := argA2_eq h; exact ⟨rfl, (show _ = S52_0 call t0 t1 H by kernel_rfl).trans h⟩)
    fun call => (cv (fun e H => S52_0 call e.x0.x0 e.x0.x1 H) se)
theorem S53_ok : Stands Tryz.prog [0] 1000000 53 S53 :=
  stands_of (s := S53) 81 [.tmp 4] 2 (fun call e H => S53_0 call e.x0.x0 e.x0.x1 H) (fun call _ H _ h => by obtain ⟨t0, t1, rfl, h⟩ := argA2_eq h; exact ⟨rfl, (show _ = S53_0 call t0 t1 H by kernel_rfl).trans h⟩)
    fun call => (cv (fun e H => S53_0 call e.x0.x0 e.x0.x1 H) se)
theorem S54_ok : Stands Tryz.prog [0] 1000000 54 S54 :=
  stands_of (s := S54) 26 [.tmp 4] 2 (fun call e H => S54_0 call e.x0.x0 e.x0.x1 H) (fun call _ H _ h => by obtain ⟨t0, t1, rfl, h⟩ := argA2_eq h; exact ⟨rfl, (show _ = S54_0 call t0 t1 H by kernel_rfl).trans h⟩)
    fun call => (cv (fun e H => S54_0 call e.x0.x0 e.x0.x1 H) se)
theorem S56_ok : Stands Tryz.prog [0] 1000000 56 S56 :=
  stands_of (s := S56) 9 [.tmp 4] 2 (fun call e H => S56_0 call e.x0.x0 e.x0.x1 H) (fun call _ H _ h => by obtain ⟨t0, t1, rfl, h⟩ := argA2_eq h; exact ⟨rfl, (show _ = S56_0 call t0 t1 H by kernel_rfl).trans h⟩)
    fun call => (cv (fun e H => S56_0 call e.x0.x0 e.x0.x1 H) se)
theorem S57_ok : Stands Tryz.prog [0] 1000000 57 S57 :=
  stands_of (s := S57) 22 [.tmp 2] 1 (fun call e H => S57_1 call e.x0.x0 H) (fun call _ H _ h => by obtain ⟨t0, rfl, h⟩ := argA1_eq h; exact ⟨rfl, (show _ = S57_1 call t0 H by kernel_rfl).trans h⟩)
    fun call => (cv (fun e H => S57_1 call e.x0.x0 H) (sq (sq (sq se (sq (bl (lp (fun n e H => S57_0 call n e.x0.x0 e.x0.x3 e.x0.x9 e.x0.x10 e.x0.x11 H) fun _ => cv _ se)) se)) se) se))
theorem S58_ok : Stands Tryz.prog [0] 1000000 58 S58 :=
  stands_of (s := S58) 7 [.tmp 2] 1 (fun call e H => S58_0 call e.x0.x0 H) (fun call _ H _ h => by obtain ⟨t0, rfl, h⟩ := argA1_eq h; exact ⟨rfl, (show _ = S58_0 call t0 H by kernel_rfl).trans h⟩)
    fun call => (cv (fun e H => S58_0 call e.x0.x0 H) se)
theorem S60_ok : Stands Tryz.prog [0] 1000000 60 S60 :=
  stands_of (s := S60) 41 [.tmp 4] 2 (fun call e H => S60_3 call e.x0.x0 e.x0.x1 H) (fun call _ H _ h => by obtain ⟨t0, t1, rfl, h⟩ := argA2_eq h; exact ⟨rfl, (show _ = S60_3 call t0 t1 H by kernel_rfl).trans h⟩)
    fun call => (cv (fun e H => S60_3 call e.x0.x0 e.x0.x1 H) (sq (sq (sq (sq (cv (fun e H => S60_0 call e.x0.x5 H) se) (bl (lp (fun n e H => S60_1 call n e.x0.x0 e.x0.x5 e.x0.x6 H) fun n0 => cv _ (sq (bl (sq (sq (sq se (sq (sq (cv (fun e H => S60_2 call (S60_1 call n0) e.x0.x0 e.x0.x5 e.x0.x6 e.x0.x7 e.x1.x3 e.x1.x9 H) se) se) se)) se) se)) se)))) se) se) se))
theorem S61_ok : Stands Tryz.prog [0] 1000000 61 S61 :=
  stands_of (s := S61) 43 [.tmp 4, .tmp 5] 2 (fun call e H => S61_1 call e.x0.x0 e.x0.x1 H) (fun call _ H _ h => by obtain ⟨t0, t1, rfl, h⟩ := argA2_eq h; exact ⟨rfl, (show _ = S61_1 call t0 t1 H by kernel_rfl).trans h⟩)
    fun call => (cv (fun e H => S61_1 call e.x0.x0 e.x0.x1 H) (sq (sq (sq (sq (sq se (sq se (sq (sq (cv (fun e H => S61_0 call e.x0.x0 e.x0.x6 e.x0.x8 e.x0.x19 e.x1.x12 H) se) se) se))) se) se) se) se))
theorem S62_ok : Stands Tryz.prog [0] 1000000 62 S62 :=
  stands_of (s := S62) 8 [.tmp 2] 1 (fun call e H => S62_0 call e.x0.x0 H) (fun call _ H _ h => by obtain ⟨t0, rfl, h⟩ := argA1_eq h; exact ⟨rfl, (show _ = S62_0 call t0 H by kernel_rfl).trans h⟩)
    fun call => (cv (fun e H => S62_0 call e.x0.x0 H) se)
theorem S63_ok : Stands Tryz.prog [0] 1000000 63 S63 :=
  stands_of (s := S63) 53 [.tmp 4] 2 (fun call e H => S63_4 call e.x0.x0 e.x0.x1 H) (fun call _ H _ h => by obtain ⟨t0, t1, rfl, h⟩ := argA2_eq h; exact ⟨rfl, (show _ = S63_4 call t0 t1 H by kernel_rfl).trans h⟩)
    fun call => (cv (fun e H => S63_4 call e.x0.x0 e.x0.x1 H) (sq (sq (sq (sq (cv (fun e H => S63_0 call e.x0.x5 H) se) (sq (bl (lp (fun n e H => S63_1 call n e.x0.x2 e.x0.x3 e.x0.x5 e.x0.x6 e.x0.x7 H) fun n0 => cv _ (sq (bl (sq (sq (bl (lp (fun n e H => S63_2 call (S63_1 call n0) n e.x0.x2 e.x0.x3 e.x0.x5 e.x0.x6 e.x0.x7 e.x0.x8 H) fun n1 => cv _ (sq (sq (cv (fun e H => S63_3 call (S63_2 call (S63_1 call n0) n1) e.x0.x2 e.x0.x3 e.x0.x5 e.x0.x6 e.x0.x7 e.x0.x8 H) se) se) se))) se) se)) se))) se)) se) se) se))
theorem S64_ok : Stands Tryz.prog [0] 1000000 64 S64 :=
  stands_of (s := S64) 16 [.tmp 4] 2 (fun call e H => S64_1 call e.x0.x0 e.x0.x1 H) (fun call _ H _ h => by obtain ⟨t0, t1, rfl, h⟩ := argA2_eq h; exact ⟨rfl, (show _ = S64_1 call t0 t1 H by kernel_rfl).trans h⟩)
    fun call => (cv (fun e H => S64_1 call e.x0.x0 e.x0.x1 H) (sq (sq se (sq (sq (cv (fun e H => S64_0 call e.x0.x7 e.x0.x14 H) se) se) se)) se))
theorem S85_ok : Stands Tryz.prog [0] 1000000 85 S85 :=
  stands_of (s := S85) 9 [.tmp 2] 1 (fun call e H => S85_0 call e.x0.x0 H) (fun call _ H _ h => by obtain ⟨t0, rfl, h⟩ := argA1_eq h; exact ⟨rfl, (show _ = S85_0 call t0 H by kernel_rfl).trans h⟩)
    fun call => (cv (fun e H => S85_0 call e.x0.x0 H) se)
theorem S86_ok : Stands Tryz.prog [0] 1000000 86 S86 :=
  stands_of (s := S86) 8 [.cell (.some 3) 2, .tmp 3] 1 (fun call e H => S86_0 call e.x0.x0 H) (fun call _ H _ h => by obtain ⟨t0, rfl, h⟩ := argA1_eq h; exact ⟨rfl, (show _ = S86_0 call t0 H by kernel_rfl).trans h⟩)
    fun call => (cv (fun e H => S86_0 call e.x0.x0 H) se)
theorem S87_ok : Stands Tryz.prog [0] 1000000 87 S87 :=
  stands_of (s := S87) 26 [.tmp 2, .tmp 3] 1 (fun call e H => S87_0 call e.x0.x0 H) (fun call _ H _ h => by obtain ⟨t0, rfl, h⟩ := argA1_eq h; exact ⟨rfl, (show _ = S87_0 call t0 H by kernel_rfl).trans h⟩)
    fun call => (cv (fun e H => S87_0 call e.x0.x0 H) se)
theorem S88_ok : Stands Tryz.prog [0] 1000000 88 S88 :=
  stands_of (s := S88) 7 [.tmp 2] 1 (fun call e H => S88_0 call e.x0.x0 H) (fun call _ H _ h => by obtain ⟨t0, rfl, h⟩ := argA1_eq h; exact ⟨rfl, (show _ = S88_0 call t0 H by kernel_rfl).trans h⟩)
    fun call => (cv (fun e H => S88_0 call e.x0.x0 H) se)
theorem S89_ok : Stands Tryz.prog [0] 1000000 89 S89 :=
  stands_of (s := S89) 54 [.tmp 4, .tmp 5] 2 (fun call e H => S89_0 call e.x0.x0 e.x0.x1 H) (fun call _ H _ h => by obtain ⟨t0, t1, rfl, h⟩ := argA2_eq h; exact ⟨rfl, (show _ = S89_0 call t0 t1 H by kernel_rfl).trans h⟩)
    fun call => (cv (fun e H => S89_0 call e.x0.x0 e.x0.x1 H) se)
theorem S90_ok : Stands Tryz.prog [0] 1000000 90 S90 :=
  stands_of (s := S90) 8 [.tmp 2] 1 (fun call e H => S90_0 call e.x0.x0 H) (fun call _ H _ h => by obtain ⟨t0, rfl, h⟩ := argA1_eq h; exact ⟨rfl, (show _ = S90_0 call t0 H by kernel_rfl).trans h⟩)
    fun call => (cv (fun e H => S90_0 call e.x0.x0 H) se)
theorem S91_ok : Stands Tryz.prog [0] 1000000 91 S91 :=
  stands_of (s := S91) 8 [.tmp 2] 1 (fun call e H => S91_0 call e.x0.x0 H) (fun call _ H _ h => by obtain ⟨t0, rfl, h⟩ := argA1_eq h; exact ⟨rfl, (show _ = S91_0 call t0 H by kernel_rfl).trans h⟩)
    fun call => (cv (fun e H => S91_0 call e.x0.x0 H) se)
theorem S92_ok : Stands Tryz.prog [0] 1000000 92 S92 :=
  stands_of (s := S92) 8 [.tmp 2] 1 (fun call e H => S92_0 call e.x0.x0 H) (fun call _ H _ h => by obtain ⟨t0, rfl, h⟩ := argA1_eq h; exact ⟨rfl, (show _ = S92_0 call t0 H by kernel_rfl).trans h⟩)
    fun call => (cv (fun e H => S92_0 call e.x0.x0 H) se)
theorem S93_ok : Stands Tryz.prog [0] 1000000 93 S93 :=
  stands_of (s := S93) 8 [.tmp 2] 1 (fun call e H => S93_0 call e.x0.x0 H) (fun call _ H _ h => by obtain ⟨t0, rfl, h⟩ := argA1_eq h; exact ⟨rfl, (show _ = S93_0 call t0 H by kernel_rfl).trans h⟩)
    fun call => (cv (fun e H => S93_0 call e.x0.x0 H) se)
theorem S94_ok : Stands Tryz.prog [0] 1000000 94 S94 :=
  stands_of (s := S94) 8 [.tmp 2] 1 (fun call e H => S94_0 call e.x0.x0 H) (fun call _ H _ h => by obtain ⟨t0, rfl, h⟩ := argA1_eq h; exact ⟨rfl, (show _ = S94_0 call t0 H by kernel_rfl).trans h⟩)
    fun call => (cv (fun e H => S94_0 call e.x0.x0 H) se)
theorem S95_ok : Stands Tryz.prog [0] 1000000 95 S95 :=
  stands_of (s := S95) 8 [.tmp 2] 1 (fun call e H => S95_0 call e.x0.x0 H) (fun call _ H _ h => by obtain ⟨t0, rfl, h⟩ := argA1_eq h; exact ⟨rfl, (show _ = S95_0 call t0 H by kernel_rfl).trans h⟩)
    fun call => (cv (fun e H => S95_0 call e.x0.x0 H) se)
theorem S96_ok : Stands Tryz.prog [0] 1000000 96 S96 :=
  stands_of (s := S96) 24 [.tmp 6, .tmp 7] 3 (fun call e H => S96_0 call e.x0.x0 e.x0.x1 e.x0.x2 H) (fun call _ H _ h => by obtain ⟨t0, t1, t2, rfl, h⟩ := argA3_eq h; exact ⟨rfl, (show _ = S96_0 call t0 t1 t2 H by kernel_rfl).trans h⟩)
    fun call => (cv (fun e H => S96_0 call e.x0.x0 e.x0.x1 e.x0.x2 H) se)
theorem S97_ok : Stands Tryz.prog [0] 1000000 97 S97 :=
  stands_of (s := S97) 82 [.tmp 6] 3 (fun call e H => S97_5 call e.x0.x0 e.x0.x1 e.x0.x2 H) (fun call _ H _ h => by obtain ⟨t0, t1, t2, rfl, h⟩ := argA3_eq h; exact ⟨rfl, (show _ = S97_5 call t0 t1 t2 H by kernel_rfl).trans h⟩)
    fun call => (cv (fun e H => S97_5 call e.x0.x0 e.x0.x1 e.x0.x2 H) (sq (sq (sq (sq (sq (sq (sq (sq (sq (cv (fun e H => S97_1 call e.x0.x11 e.x0.x12 H) (sq se (sq se (sq (sq (cv (fun e H => S97_0 call e.x0.x11 e.x0.x12 e.x3.x14 e.x3.x16 H) se) se) se)))) (sq (bl (lp (fun n e H => S97_2 call n e.x0.x0 e.x0.x1 e.x0.x2 e.x0.x11 e.x0.x12 e.x2.x17 e.x2.x18 e.x2.x19 H) fun _ => cv _ se)) se)) se) se) (sq se (sq (sq (cv (fun e H => S97_4 call e.x0.x0 e.x0.x1 e.x0.x2 e.x0.x7 e.x0.x8 e.x1.x17 e.x2.x0 H) (sq (sq (cv (fun e H => S97_3 call e.x0.x0 e.x0.x1 e.x0.x2 e.x0.x7 e.x0.x8 e.x2.x2 e.x2.x5 H) se) se) se)) se) se))) se) se) se) se) se))
theorem S98_ok : Stands Tryz.prog [0] 1000000 98 S98 :=
  stands_of (s := S98) 20 [.tmp 2] 1 (fun call e H => S98_0 call e.x0.x0 H) (fun call _ H _ h => by obtain ⟨t0, rfl, h⟩ := argA1_eq h; exact ⟨rfl, (show _ = S98_0 call t0 H by kernel_rfl).trans h⟩)
    fun call => (cv (fun e H => S98_0 call e.x0.x0 H) se)
theorem S99_ok : Stands Tryz.prog [0] 1000000 99 S99 :=
  stands_of (s := S99) 8 [.cell (.some 3) 2] 1 (fun call e H => S99_0 call e.x0.x0 H) (fun call _ H _ h => by obtain ⟨t0, rfl, h⟩ := argA1_eq h; exact ⟨rfl, (show _ = S99_0 call t0 H by kernel_rfl).trans h⟩)
    fun call => (cv (fun e H => S99_0 call e.x0.x0 H) se)
end Go.Proofs.YtggjnaeefpafhaaGreatDoor
