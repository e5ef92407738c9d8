/- They stand for their bodies: part 0. -/
import Derived.Test.YtdccenbljfanpaaGreatDoorLF0
import Derived.KernelRfl
namespace Go.Proofs.YtdccenbljfanpaaGreatDoor
open Go.Ab
set_option maxRecDepth 100000
theorem S3_ok : Stands Tryz.prog [] 1000000 3 S3 :=
  stands_of (s := S3) 54 [.tmp 0] 0 (fun call _ H => S3_6 call H) (fun call _ H _ h => by obtain ⟨rfl, h⟩ := argA0_eq h; exact ⟨rfl, (show _ = S3_6 call H by kernel_rfl).trans h⟩)
    fun call => (cv (fun _ H => S3_6 call H) (sq (sq (sq (sq (sq se (sq (sq (cv (fun e H => S3_5 call e.x0.x4 e.x0.x5 e.x0.x6 e.x1.x5 e.x1.x7 H) (sq (sq (cv (fun e H => S3_4 call e.x0.x4 e.x0.x5 e.x1.x9 e.x1.x11 H) (sq (sq (cv (fun e H => S3_3 call e.x0.x4 e.x1.x13 e.x1.x15 H) (sq (sq (cv (fun e H => S3_2 call e.x1.x17 e.x2.x1 H) (sq (sq (cv (fun e H => S3_1 call e.x2.x3 e.x2.x6 H) (sq (sq (cv (fun e H => S3_0 call e.x2.x8 e.x2.x12 H) se) se) se)) se) se)) se) se)) se) se)) se) se)) se) se)) se) se) se) se))
theorem S5_ok : Stands Tryz.prog [] 1000000 5 S5 :=
  stands_of (s := S5) 48 [.tmp 0] 0 (fun call _ H => S5_5 call H) (fun call _ H _ h => by obtain ⟨rfl, h⟩ := argA0_eq h; exact ⟨rfl, (show _ = S5_5 call H by kernel_rfl).trans h⟩)
    fun call => (cv (fun _ H => S5_5 call H) (sq (sq (sq (sq se (sq (sq (cv (fun e H => S5_4 call e.x0.x1 e.x0.x3 e.x0.x4 e.x1.x4 e.x1.x6 H) (sq (sq (cv (fun e H => S5_3 call e.x0.x1 e.x0.x3 e.x1.x8 e.x1.x10 H) (sq (sq (cv (fun e H => S5_2 call e.x0.x1 e.x0.x3 e.x1.x12 e.x1.x16 H) (sq (sq (cv (fun e H => S5_1 call e.x0.x1 e.x1.x18 e.x2.x1 H) (sq (sq (cv (fun e H => S5_0 call e.x2.x3 e.x2.x6 H) se) se) se)) se) se)) se) se)) se) se)) se) se)) se) se) se))
theorem S6_ok : Stands Tryz.prog [] 1000000 6 S6 :=
  stands_of (s := S6) 47 [.cell (.some 7) 6, .tmp 7, .tmp 8] 3 (fun call e H => S6_3 call e.x0.x0 e.x0.x1 e.x0.x2 H) (fun call _ H _ h => by obtain ⟨t0, t1, t2, rfl, h⟩ := argA3_eq h; exact ⟨rfl, (show _ = S6_3 call t0 t1 t2 H by kernel_rfl).trans h⟩)
    fun call => (cv (fun e H => S6_3 call e.x0.x0 e.x0.x1 e.x0.x2 H) (sq (sq (sq (sq (sq (sq (cv (fun e H => S6_0 call e.x0.x6 e.x0.x9 e.x0.x11 e.x0.x12 H) se) (bl (lp (fun n e H => S6_1 call n e.x0.x2 e.x0.x6 e.x0.x9 e.x0.x11 e.x0.x12 H) fun n0 => cv _ (sq se (sq se (sq (sq (cv (fun e H => S6_2 call (S6_1 call n0) e.x0.x2 e.x0.x6 e.x0.x9 e.x0.x11 e.x0.x12 e.x1.x10 e.x1.x16 H) se) se) se)))))) se) se) se) se) se))
theorem S7_ok : Stands Tryz.prog [] 1000000 7 S7 :=
  stands_of (s := S7) 11 [.cell (.some 6) 0] 0 (fun call _ H => S7_0 call H) (fun call _ H _ h => by obtain ⟨rfl, h⟩ := argA0_eq h; exact ⟨rfl, (show _ = S7_0 call H by kernel_rfl).trans h⟩)
    fun call => (cv (fun _ H => S7_0 call H) se)
theorem S8_ok : Stands Tryz.prog [] 1000000 8 S8 :=
  stands_of (s := S8) 36 [.tmp 2] 1 (fun call e H => S8_2 call e.x0.x0 H) (fun call _ H _ h => by obtain ⟨t0, rfl, h⟩ := argA1_eq h; exact ⟨rfl, (show _ = S8_2 call t0 H by kernel_rfl).trans h⟩)
    fun call => (cv (fun e H => S8_2 call e.x0.x0 H) (sq (sq (sq (cv (fun e H => S8_0 call e.x0.x1 e.x0.x3 H) se) (sq (bl (lp (fun n e H => S8_1 call n e.x0.x1 e.x0.x3 e.x0.x7 e.x0.x8 e.x0.x9 H) fun _ => cv _ se)) se)) se) se))
theorem S9_ok : Stands Tryz.prog [] 1000000 9 S9 :=
  stands_of (s := S9) 20 [.tmp 2] 1 (fun call e H => S9_1 call e.x0.x0 H) (fun call _ H _ h => by obtain ⟨t0, rfl, h⟩ := argA1_eq h; exact ⟨rfl, (show _ = S9_1 call t0 H by kernel_rfl).trans h⟩)
    fun call => (cv (fun e H => S9_1 call e.x0.x0 H) (sq (sq (sq se (sq (bl (lp (fun n e H => S9_0 call n e.x0.x3 e.x0.x7 e.x0.x8 e.x0.x9 H) fun _ => cv _ se)) se)) se) se))
theorem S12_ok : Stands Tryz.prog [] 1000000 12 S12 :=
  stands_of (s := S12) 39 [.cell (.some 7) 6, .tmp 7] 3 (fun call e H => S12_2 call e.x0.x0 e.x0.x1 e.x0.x2 H) (fun call _ H _ h => by obtain ⟨t0, t1, t2, rfl, h⟩ := argA3_eq h; exact ⟨rfl, (show _ = S12_2 call t0 t1 t2 H by kernel_rfl).trans h⟩)
    fun call => (cv (fun e H => S12_2 call e.x0.x0 e.x0.x1 e.x0.x2 H) (sq (sq (sq (sq (sq (cv (fun e H => S12_0 call e.x0.x6 e.x0.x8 e.x0.x10 H) se) (sq (bl (lp (fun n e H => S12_1 call n e.x0.x6 e.x0.x8 e.x0.x10 e.x1.x3 e.x1.x4 e.x1.x5 H) fun _ => cv _ se)) se)) se) se) se) se))
theorem S13_ok : Stands Tryz.prog [] 1000000 13 S13 :=
  stands_of (s := S13) 26 [.tmp 4] 2 (fun call e H => S13_1 call e.x0.x0 e.x0.x1 H) (fun call _ H _ h => by obtain ⟨t0, t1, rfl, h⟩ := argA2_eq h; exact ⟨rfl, (show _ = S13_1 call t0 t1 H by kernel_rfl).trans h⟩)
    fun call => (cv (fun e H => S13_1 call e.x0.x0 e.x0.x1 H) (sq (sq (sq se (sq (bl (lp (fun n e H => S13_0 call n e.x0.x0 e.x0.x1 e.x0.x5 H) fun _ => cv _ se)) se)) se) se))
theorem S14_ok : Stands Tryz.prog [] 1000000 14 S14 :=
  stands_of (s := S14) 26 [.tmp 4] 2 (fun call e H => S14_1 call e.x0.x0 e.x0.x1 H) (fun call _ H _ h => by obtain ⟨t0, t1, rfl, h⟩ := argA2_eq h; exact ⟨rfl, (show _ = S14_1 call t0 t1 H by kernel_rfl).trans h⟩)
    fun call => (cv (fun e H => S14_1 call e.x0.x0 e.x0.x1 H) (sq (sq (sq se (sq (bl (lp (fun n e H => S14_0 call n e.x0.x0 e.x0.x1 e.x0.x5 H) fun _ => cv _ se)) se)) se) se))
theorem S15_ok : Stands Tryz.prog [] 1000000 15 S15 :=
  stands_of (s := S15) 44 [.tmp 4, .tmp 5] 2 (fun call e H => S15_0 call e.x0.x0 e.x0.x1 H) (fun call _ H _ h => by obtain ⟨t0, t1, rfl, h⟩ := argA2_eq h; exact ⟨rfl, (show _ = S15_0 call t0 t1 H by kernel_rfl).trans h⟩)
    fun call => (cv (fun e H => S15_0 call e.x0.x0 e.x0.x1 H) se)
theorem S16_ok : Stands Tryz.prog [] 1000000 16 S16 :=
  stands_of (s := S16) 61 [.tmp 4] 2 (fun call e H => S16_4 call e.x0.x0 e.x0.x1 H) (fun call _ H _ h => by obtain ⟨t0, t1, rfl, h⟩ := argA2_eq h; exact ⟨rfl, (show _ = S16_4 call t0 t1 H by kernel_rfl).trans h⟩)
    fun call => (cv (fun e H => S16_4 call e.x0.x0 e.x0.x1 H) (sq (sq (sq (sq (sq se (sq (sq (cv (fun e H => S16_1 call e.x0.x0 e.x0.x5 e.x2.x4 e.x2.x9 H) (sq (sq (cv (fun e H => S16_0 call e.x2.x11 e.x2.x19 H) se) se) se)) se) se)) se) se) (sq se (sq (sq (cv (fun e H => S16_3 call e.x0.x0 e.x0.x3 e.x0.x11 e.x0.x17 H) (sq (sq (cv (fun e H => S16_2 call e.x0.x0 e.x0.x3 e.x0.x19 e.x1.x4 H) se) se) se)) se) se))) se))
theorem S17_ok : Stands Tryz.prog [] 1000000 17 S17 :=
  stands_of (s := S17) 27 [.cell (.some 7) 4] 2 (fun call e H => S17_0 call e.x0.x0 e.x0.x1 H) (fun call _ H _ h => by obtain ⟨t0, t1, rfl, h⟩ := argA2_eq h; exact ⟨rfl, (show _ = S17_0 call t0 t1 H by kernel_rfl).trans h⟩)
    fun call => (cv (fun e H => S17_0 call e.x0.x0 e.x0.x1 H) se)
theorem S19_ok : Stands Tryz.prog [] 1000000 19 S19 :=
  stands_of (s := S19) 5 [.tmp 2] 1 (fun call e H => S19_0 call e.x0.x0 H) (fun call _ H _ h => by obtain ⟨t0, rfl, h⟩ := argA1_eq h; exact ⟨rfl, (show _ = S19_0 call t0 H by kernel_rfl).trans h⟩)
    fun call => (cv (fun e H => S19_0 call e.x0.x0 H) se)
theorem S20_ok : Stands Tryz.prog [] 1000000 20 S20 :=
  stands_of (s := S20) 6 [.tmp 2] 1 (fun call e H => S20_0 call e.x0.x0 H) (fun call _ H _ h => by obtain ⟨t0, rfl, h⟩ := argA1_eq h; exact ⟨rfl, (show _ = S20_0 call t0 H by kernel_rfl).trans h⟩)
    fun call => (cv (fun e H => S20_0 call e.x0.x0 H) se)
theorem S23_ok : Stands Tryz.prog [] 1000000 23 S23 :=
  stands_of (s := S23) 55 [.tmp 4] 2 (fun call e H => S23_1 call e.x0.x0 e.x0.x1 H) (fun call _ H _ h => by obtain ⟨t0, t1, rfl, h⟩ := argA2_eq h; exact ⟨rfl, (show _ = S23_1 call t0 t1 H by kernel_rfl).trans h⟩)
    fun call => (cv (fun e H => S23_1 call e.x0.x0 e.x0.x1 H) (sq (sq (sq (cv (fun e H => S23_0 call e.x0.x0 e.x0.x1 H) se) se) se) se))
theorem S24_ok : Stands Tryz.prog [] 1000000 24 S24 :=
  stands_of (s := S24) 11 [.tmp 2] 1 (fun call e H => S24_0 call e.x0.x0 H) (fun call _ H _ h => by obtain ⟨t0, rfl, h⟩ := argA1_eq h; exact ⟨rfl, (show _ = S24_0 call t0 H by kernel_rfl).trans h⟩)
    fun call => (cv (fun e H => S24_0 call e.x0.x0 H) se)
theorem S25_ok : Stands Tryz.prog [] 1000000 25 S25 :=
  stands_of (s := S25) 46 [.tmp 4, .tmp 5] 2 (fun call e H => S25_2 call e.x0.x0 e.x0.x1 H) (fun call _ H _ h => by obtain ⟨t0, t1, rfl, h⟩ := argA2_eq h; exact ⟨rfl, (show _ = S25_2 call t0 t1 H by kernel_rfl).trans h⟩)
    fun call => (cv (fun e H => S25_2 call e.x0.x0 e.x0.x1 H) (sq (sq (sq (sq (sq (cv (fun e H => S25_0 call e.x0.x1 e.x0.x8 H) se) (sq (bl (lp (fun n e H => S25_1 call n e.x0.x1 e.x0.x6 e.x0.x8 e.x1.x4 e.x1.x5 e.x1.x6 H) fun _ => cv _ se)) se)) se) se) se) se))
theorem S26_ok : Stands Tryz.prog [] 1000000 26 S26 :=
  stands_of (s := S26) 61 [.cell (.some 6) 2] 1 (fun call e H => S26_2 call e.x0.x0 H) (fun call _ H _ h => by obtain ⟨t0, rfl, h⟩ := argA1_eq h; exact ⟨rfl, (show _ = S26_2 call t0 H by kernel_rfl).trans h⟩)
    fun call => (cv (fun e H => S26_2 call e.x0.x0 H) (sq (sq (sq (sq (cv (fun e H => S26_0 call e.x0.x1 e.x0.x2 H) se) (sq (bl (lp (fun n e H => S26_1 call n e.x0.x1 e.x0.x2 e.x1.x7 e.x1.x8 H) fun _ => cv _ se)) se)) se) se) se))
theorem S27_ok : Stands Tryz.prog [] 1000000 27 S27 :=
  stands_of (s := S27) 7 [.tmp 2] 1 (fun call e H => S27_0 call e.x0.x0 H) (fun call _ H _ h => by obtain ⟨t0, rfl, h⟩ := argA1_eq h; exact ⟨rfl, (show _ = S27_0 call t0 H by kernel_rfl).trans h⟩)
    fun call => (cv (fun e H => S27_0 call e.x0.x0 H) se)
theorem S28_ok : Stands Tryz.prog [] 1000000 28 S28 :=
  stands_of (s := S28) 49 [.tmp 6, .tmp 7] 3 (fun call e H => S28_0 call e.x0.x0 e.x0.x1 e.x0.x2 H) (fun call _ H _ h => by obtain ⟨t0, t1, t2, rfl, h⟩ := argA3_eq h; exact ⟨rfl, (show _ = S28_0 call t0 t1 t2 H by kernel_rfl).trans h⟩)
    fun call => (cv (fun e H => S28_0 call e.x0.x0 e.x0.x1 e.x0.x2 H) se)
theorem S29_ok : Stands Tryz.prog [] 1000000 29 S29 :=
  stands_of (s := S29) 23 [] 1 (fun call e H => S29_11 call e.x0.x0 H) (fun call _ H _ h => by obtain ⟨t0, rfl, h⟩ := argA1_eq h; exact ⟨rfl, (show _ = S29_11 call t0 H by kernel_rfl).trans h⟩)
    fun call => (cv (fun e H => S29_11 call e.x0.x0 H) (sq se (sq (sq (cv (fun e H => S29_10 call e.x0.x0 e.x0.x7 e.x0.x8 H) (sq (sq (cv (fun e H => S29_9 call e.x0.x0 e.x0.x7 e.x0.x9 H) (sq (sq (cv (fun e H => S29_8 call e.x0.x0 e.x0.x7 e.x0.x10 H) (sq (sq (cv (fun e H => S29_7 call e.x0.x0 e.x0.x7 e.x0.x11 H) (sq (sq (cv (fun e H => S29_6 call e.x0.x0 e.x0.x7 e.x0.x11 e.x0.x12 H) (sq (sq (cv (fun e H => S29_5 call e.x0.x0 e.x0.x7 e.x0.x11 e.x0.x13 H) (sq (sq (cv (fun e H => S29_4 call e.x0.x0 e.x0.x7 e.x0.x11 e.x0.x14 H) (sq (sq (cv (fun e H => S29_3 call e.x0.x0 e.x0.x7 e.x0.x11 e.x0.x15 H) (sq (sq (cv (fun e H => S29_2 call e.x0.x0 e.x0.x7 e.x0.x16 H) (sq (sq (cv (fun e H => S29_1 call e.x0.x0 e.x0.x7 e.x0.x17 H) (sq (sq (cv (fun e H => S29_0 call e.x0.x0 e.x0.x7 e.x0.x18 H) se) se) se)) se) se)) se) se)) se) se)) se) se)) se) se)) se) se)) se) se)) se) se)) se) se)) se) se)))
theorem S30_ok : Stands Tryz.prog [] 1000000 30 S30 :=
  stands_of (s := S30) 26 [.tmp 4] 2 (fun call e H => S30_0 call 1000000 e.x0.x0 e.x0.x1 H) (fun call _ H _ h => by obtain ⟨t0, t1, rfl, h⟩ := argA2_eq h; exact ⟨rfl, (show _ = S30_0 call 1000000 t0 t1 H by kernel_rfl).trans h⟩)
    fun call => (cv (fun e H => S30_0 call 1000000 e.x0.x0 e.x0.x1 H) (sq (bl (lp (fun n e H => S30_0 call n e.x0.x0 e.x0.x1 H) fun n0 => cv _ (bl (sq (sq se (sq se (sq (sq (cv (fun e H => S30_1 call (S30_0 call n0) e.x0.x0 e.x0.x1 e.x0.x6 e.x0.x17 e.x0.x19 H) se) se) se))) se)))) se))
theorem S31_ok : Stands Tryz.prog [] 1000000 31 S31 :=
  stands_of (s := S31) 8 [.tmp 2] 1 (fun call e H => S31_0 call e.x0.x0 H) (fun call _ H _ h => by obtain ⟨t0, rfl, h⟩ := argA1_eq h; exact ⟨rfl, (show _ = S31_0 call t0 H by kernel_rfl).trans h⟩)
    fun call => (cv (fun e H => S31_0 call e.x0.x0 H) se)
theorem S32_ok : Stands Tryz.prog [] 1000000 32 S32 :=
  stands_of (s := S32) 19 [.tmp 4] 2 (fun call e H => S32_1 call e.x0.x0 e.x0.x1 H) (fun call _ H _ h => by obtain ⟨t0, t1, rfl, h⟩ := argA2_eq h; exact ⟨rfl, (show _ = S32_1 call t0 t1 H by kernel_rfl).trans h⟩)
    fun call => (cv (fun e H => S32_1 call e.x0.x0 e.x0.x1 H) (sq (sq se (sq (bl (lp (fun n e H => S32_0 call n e.x0.x0 e.x0.x3 e.x0.x7 e.x0.x8 H) fun _ => cv _ se)) se)) se))
theorem S33_ok : Stands Tryz.prog [] 1000000 33 S33 :=
  stands_of (s := S33) 20 [.tmp 4] 2 (fun call e H => S33_0 call e.x0.x0 e.x0.x1 H) (fun call _ H _ h => by obtain ⟨t0, t1, rfl, h⟩ := argA2_eq h; exact ⟨rfl, (show _ = S33_0 call t0 t1 H by kernel_rfl).trans h⟩)
    fun call => (cv (fun e H => S33_0 call e.x0.x0 e.x0.x1 H) se)
theorem S34_ok : Stands Tryz.prog [] 1000000 34 S34 :=
  stands_of (s := S34) 29 [.tmp 6] 3 (fun call e H => S34_1 call e.x0.x0 e.x0.x1 e.x0.x2 H) (fun call _ H _ h => by obtain ⟨t0, t1, t2, rfl, h⟩ := argA3_eq h; exact ⟨rfl, (show _ = S34_1 call t0 t1 t2 H by kernel_rfl).trans h⟩)
    fun call => (cv (fun e H => S34_1 call e.x0.x0 e.x0.x1 e.x0.x2 H) (sq (sq se (sq se (sq (sq (cv (fun e H => S34_0 call e.x0.x0 e.x0.x12 e.x1.x0 H) se) se) se))) se))
theorem S35_ok : Stands Tryz.prog [] 1000000 35 S35 :=
  stands_of (s := S35) 12 [.tmp 2, .tmp 3] 1 (fun call e H => S35_0 call e.x0.x0 H) (fun call _ H _ h => by obtain ⟨t0, rfl, h⟩ := argA1_eq h; exact ⟨rfl, (show _ = S35_0 call t0 H by kernel_rfl).trans h⟩)
    fun call => (cv (fun e H => S35_0 call e.x0.x0 H) se)
theorem S36_ok : Stands Tryz.prog [] 1000000 36 S36 :=
  stands_of (s := S36) 8 [.tmp 2] 1 (fun call e H => S36_0 call e.x0.x0 H) (fun call _ H _ h => by obtain ⟨t0, rfl, h⟩ := argA1_eq h; exact ⟨rfl, (show _ = S36_0 call t0 H by kernel_rfl).trans h⟩)
    fun call => (cv (fun e H => S36_0 call e.x0.x0 H) se)
theorem S37_ok : Stands Tryz.prog [] 1000000 37 S37 :=
  stands_of (s := S37) 7 [.tmp 2] 1 (fun call e H => S37_0 call e.x0.x0 H) (fun call _ H _ h => by obtain ⟨t0, rfl, h⟩ := argA1_eq h; exact ⟨rfl, (show _ = S37_0 call t0 H by kernel_rfl).trans h⟩)
    fun call => (cv (fun e H => S37_0 call e.x0.x0 H) se)
theorem S38_ok : Stands Tryz.prog [] 1000000 38 S38 :=
  stands_of (s := S38) 7 [.tmp 2] 1 (fun call e H => S38_0 call e.x0.x0 H) (fun call _ H _ h => by obtain ⟨t0, rfl, h⟩ := argA1_eq h; exact ⟨rfl, (show _ = S38_0 call t0 H by kernel_rfl).trans h⟩)
    fun call => (cv (fun e H => S38_0 call e.x0.x0 H) se)
theorem S39_ok : Stands Tryz.prog [] 1000000 39 S39 :=
  stands_of (s := S39) 7 [.tmp 2] 1 (fun call e H => S39_0 call e.x0.x0 H) (fun call _ H _ h => by obtain ⟨t0, rfl, h⟩ := argA1_eq h; exact ⟨rfl, (show _ = S39_0 call t0 H by kernel_rfl).trans h⟩)
    fun call => (cv (fun e H => S39_0 call e.x0.x0 H) se)
theorem S40_ok : Stands Tryz.prog [] 1000000 40 S40 :=
  stands_of (s := S40) 7 [.tmp 2] 1 (fun call e H => S40_0 call e.x0.x0 H) (fun call _ H _ h => by obtain ⟨t0, rfl, h⟩ := argA1_eq h; exact ⟨rfl, (show _ = S40_0 call t0 H by kernel_rfl).trans h⟩)
    fun call => (cv (fun e H => S40_0 call e.x0.x0 H) se)
theorem S42_ok : Stands Tryz.prog [] 1000000 42 S42 :=
  stands_of (s := S42) 5 [.tmp 2] 1 (fun call e H => S42_0 call e.x0.x0 H) (fun call _ H _ h => by obtain ⟨t0, rfl, h⟩ := argA1_eq h; exact ⟨rfl, (show _ = S42_0 call t0 H by kernel_rfl).trans h⟩)
    fun call => (cv (fun e H => S42_0 call e.x0.x0 H) se)
theorem S43_ok : Stands Tryz.prog [] 1000000 43 S43 :=
  stands_of (s := S43) 18 [.cell (.some 2) 2] 1 (fun call e H => S43_1 call e.x0.x0 H) (fun call _ H _ h => by obtain ⟨t0, rfl, h⟩ := argA1_eq h; exact ⟨rfl, (show _ = S43_1 call t0 H by kernel_rfl).trans h⟩)
    fun call => (cv (fun e H => S43_1 call e.x0.x0 H) (sq (sq (sq se (sq se (sq (sq (cv (fun e H => S43_0 call e.x0.x0 e.x0.x2 e.x0.x3 e.x0.x7 e.x0.x11 H) se) se) se))) se) se))
theorem S44_ok : Stands Tryz.prog [] 1000000 44 S44 :=
  stands_of (s := S44) 17 [.tmp 2] 1 (fun call e H => S44_0 call e.x0.x0 H) (fun call _ H _ h => by obtain ⟨t0, rfl, h⟩ := argA1_eq h; exact ⟨rfl, (show _ = S44_0 call t0 H by kernel_rfl).trans h⟩)
    fun call => (cv (fun e H => S44_0 call e.x0.x0 H) se)
theorem S46_ok : Stands Tryz.prog [] 1000000 46 S46 :=
  stands_of (s := S46) 112 [.tmp 6] 3 (fun call e H => S46_4 call e.x0.x0 e.x0.x1 e.x0.x2 H) (fun call _ H _ h => by obtain ⟨t0, t1, t2, rfl, h⟩ := argA3_eq h; exact ⟨rfl, (show _ = S46_4 call t0 t1 t2 H by kernel_rfl).trans h⟩)
    fun call => (cv (fun e H => S46_4 call e.x0.x0 e.x0.x1 e.x0.x2 H) (sq (sq (sq (sq (sq (sq (sq (sq (sq (sq (cv (fun e H => S46_0 call e.x0.x0 H) se) (sq se (sq (sq (cv (fun e H => S46_2 call e.x0.x0 e.x0.x1 e.x0.x2 e.x0.x7 e.x0.x9 e.x0.x11 e.x3.x15 e.x4.x0 H) (sq (sq (cv (fun e H => S46_1 call e.x0.x0 e.x0.x1 e.x0.x2 e.x0.x7 e.x0.x9 e.x0.x11 e.x4.x2 e.x4.x7 H) se) se) se)) se) se))) se) se) se) se) se) se) (sq se (sq (sq (cv (fun e H => S46_3 call e.x0.x0 e.x0.x1 e.x0.x2 e.x0.x7 e.x1.x0 e.x1.x4 H) se) se) se))) se) se))
theorem S47_ok : Stands Tryz.prog [] 1000000 47 S47 :=
  stands_of (s := S47) 9 [.tmp 4] 2 (fun call e H => S47_0 call e.x0.x0 e.x0.x1 H) (fun call _ H _ h => by obtain ⟨t0, t1, rfl, h⟩ := argA2_eq h; exact ⟨rfl, (show _ = S47_0 call t0 t1 H by kernel_rfl).trans h⟩)
    fun call => (cv (fun e H => S47_0 call e.x0.x0 e.x0.x1 H) se)
theorem S48_ok : Stands Tryz.prog [] 1000000 48 S48 :=
  stands_of (s := S48) 8 [.cell (.some 3) 2, .tmp 3] 1 (fun call e H => S48_0 call e.x0.x0 H) (fun call _ H _ h => by obtain ⟨t0, rfl, h⟩ := argA1_eq h; exact ⟨rfl, (show _ = S48_0 call t0 H by kernel_rfl).trans h⟩)
    fun call => (cv (fun e H => S48_0 call e.x0.x0 H) se)
theorem S49_ok : Stands Tryz.prog [] 1000000 49 S49 :=
  stands_of (s := S49) 26 [.tmp 2, .tmp 3] 1 (fun call e H => S49_0 call e.x0.x0 H) (fun call _ H _ h => by obtain ⟨t0, rfl, h⟩ := argA1_eq h; exact ⟨rfl, (show _ = S49_0 call t0 H by kernel_rfl).trans h⟩)
    fun call => (cv (fun e H => S49_0 call e.x0.x0 H) se)
theorem S52_ok : Stands Tryz.prog [] 1000000 52 S52 :=
  stands_of (s := S52) 8 [.tmp 2] 1 (fun call e H => S52_0 call e.x0.x0 H) (fun call _ H _ h => by obtain ⟨t0, rfl, h⟩ := argA1_eq h; exact ⟨rfl, (show _ = S52_0 call t0 H by kernel_rfl).trans h⟩)
    fun call => (cv (fun e H => S52_0 call e.x0.x0 H) se)
theorem S53_ok : Stands Tryz.prog [] 1000000 53 S53 :=
  stands_of (s := S53) 8 [.tmp 2] 1 (fun call e H => S53_0 call e.x0.x0 H) (fun call _ H _ h => by obtain ⟨t0, rfl, h⟩ := argA1_eq h; exact ⟨rfl, (show _ = S53_0 call t0 H by kernel_rfl).trans h⟩)
    fun call => (cv (fun e H => S53_0 call e.x0.x0 H) se)
theorem S54_ok : Stands Tryz.prog [] 1000000 54 S54 :=
  stands_of (s := S54) 8 [.tmp 2] 1 (fun call e H => S54_0 call e.x0.x0 H) (fun call _ H _ h => by obtain ⟨t0, rfl, h⟩ := argA1_eq h; exact ⟨rfl, (show _ = S54_0 call t0 H by kernel_rfl).trans h⟩)
    fun call => (cv (fun e H => S54_0 call e.x0.x0 H) se)
theorem S55_ok : Stands Tryz.prog [] 1000000 55 S55 :=
  stands_of (s := S55) 8 [.tmp 2] 1 (fun call e H => S55_0 call e.x0.x0 H) (fun call _ H _ h => by obtain ⟨t0, rfl, h⟩ := argA1_eq h; exact ⟨rfl, (show _ = S55_0 call t0 H by kernel_rfl).trans h⟩)
    fun call => (cv (fun e H => S55_0 call e.x0.x0 H) se)
theorem S56_ok : Stands Tryz.prog [] 1000000 56 S56 :=
  stands_of (s := S56) 8 [.tmp 2] 1 (fun call e H => S56_0 call e.x0.x0 H) (fun call _ H _ h => by obtain ⟨t0, rfl, h⟩ := argA1_eq h; exact ⟨rfl, (show _ = S56_0 call t0 H by kernel_rfl).trans h⟩)
    fun call => (cv (fun e H => S56_0 call e.x0.x0 H) se)
theorem S57_ok : Stands Tryz.prog [] 1000000 57 S57 :=
  stands_of (s := S57) 8 [.tmp 2] 1 (fun call e H => S57_0 call e.x0.x0 H) (fun call _ H _ h => by obtain ⟨t0, rfl, h⟩ := argA1_eq h; exact ⟨rfl, (show _ = S57_0 call t0 H by kernel_rfl).trans h⟩)
    fun call => (cv (fun e H => S57_0 call e.x0.x0 H) se)
theorem S58_ok : Stands Tryz.prog [] 1000000 58 S58 :=
  stands_of (s := S58) 8 [.tmp 2] 1 (fun call e H => S58_0 call e.x0.x0 H) (fun call _ H _ h => by obtain ⟨t0, rfl, h⟩ := argA1_eq h; exact ⟨rfl, (show _ = S58_0 call t0 H by kernel_rfl).trans h⟩)
    fun call => (cv (fun e H => S58_0 call e.x0.x0 H) se)
theorem S59_ok : Stands Tryz.prog [] 1000000 59 S59 :=
  stands_of (s := S59) 24 [.tmp 6, .tmp 7] 3 (fun call e H => S59_0 call e.x0.x0 e.x0.x1 e.x0.x2 H) (fun call _ H _ h => by obtain ⟨t0, t1, t2, rfl, h⟩ := argA3_eq h; exact ⟨rfl, (show _ = S59_0 call t0 t1 t2 H by kernel_rfl).trans h⟩)
    fun call => (cv (fun e H => S59_0 call e.x0.x0 e.x0.x1 e.x0.x2 H) se)
theorem S60_ok : Stands Tryz.prog [] 1000000 60 S60 :=
  stands_of (s := S60) 9 [.tmp 4] 2 (fun call e H => S60_0 call e.x0.x0 e.x0.x1 H) (fun call _ H _ h => by obtain ⟨t0, t1, rfl, h⟩ := argA2_eq h; exact ⟨rfl, (show _ = S60_0 call t0 t1 H by kernel_rfl).trans h⟩)
    fun call => (cv (fun e H => S60_0 call e.x0.x0 e.x0.x1 H) se)
theorem S62_ok : Stands Tryz.prog [] 1000000 62 S62 :=
  stands_of (s := S62) 8 [.tmp 2] 1 (fun call e H => S62_0 call e.x0.x0 H) (fun call _ H _ h => by obtain ⟨t0, rfl, h⟩ := argA1_eq h; exact ⟨rfl, (show _ = S62_0 call t0 H by kernel_rfl).trans h⟩)
    fun call => (cv (fun e H => S62_0 call e.x0.x0 H) se)
theorem S63_ok : Stands Tryz.prog [] 1000000 63 S63 :=
  stands_of (s := S63) 82 [.tmp 6] 3 (fun call e H => S63_5 call e.x0.x0 e.x0.x1 e.x0.x2 H) (fun call _ H _ h => by obtain ⟨t0, t1, t2, rfl, h⟩ := argA3_eq h; exact ⟨rfl, (show _ = S63_5 call t0 t1 t2 H by kernel_rfl).trans h⟩)
    fun call => (cv (fun e H => S63_5 call e.x0.x0 e.x0.x1 e.x0.x2 H) (sq (sq (sq (sq (sq (sq (sq (sq (sq (cv (fun e H => S63_1 call e.x0.x11 e.x0.x12 H) (sq se (sq se (sq (sq (cv (fun e H => S63_0 call e.x0.x11 e.x0.x12 e.x3.x14 e.x3.x16 H) se) se) se)))) (sq (bl (lp (fun n e H => S63_2 call n e.x0.x0 e.x0.x1 e.x0.x2 e.x0.x11 e.x0.x12 e.x2.x17 e.x2.x18 e.x2.x19 H) fun _ => cv _ se)) se)) se) se) (sq se (sq (sq (cv (fun e H => S63_4 call e.x0.x0 e.x0.x1 e.x0.x2 e.x0.x7 e.x0.x8 e.x1.x17 e.x2.x0 H) (sq (sq (cv (fun e H => S63_3 call e.x0.x0 e.x0.x1 e.x0.x2 e.x0.x7 e.x0.x8 e.x2.x2 e.x2.x5 H) se) se) se)) se) se))) se) se) se) se) se))
theorem S65_ok : Stands Tryz.prog [] 1000000 65 S65 :=
  stands_of (s := S65) 54 [.tmp 4] 2 (fun call e H => S65_2 call e.x0.x0 e.x0.x1 H) (fun call _ H _ h => by obtain ⟨t0, t1, rfl, h⟩ := argA2_eq h; exact ⟨rfl, (show _ = S65_2 call t0 t1 H by kernel_rfl).trans h⟩)
    fun call => (cv (fun e H => S65_2 call e.x0.x0 e.x0.x1 H) (sq (sq se (sq (cn (sq (sq (sq (sq (cv (fun e H => S65_0 call e.x0.x0 e.x0.x5 e.x0.x6 H) se) se) se) se) (sq se (sq (sq (cv (fun e H => S65_1 call e.x0.x0 e.x0.x14 e.x0.x16 H) se) se) se))) se) se)) se))
theorem S69_ok : Stands Tryz.prog [] 1000000 69 S69 :=
  stands_of (s := S69) 11 [.tmp 4] 2 (fun call e H => S69_0 call e.x0.x0 e.x0.x1 H) (fun call _ H _ h => by obtain ⟨t0, t1, rfl, h⟩ := argA2_eq h; exact ⟨rfl, (show _ = S69_0 call t0 t1 H by kernel_rfl).trans h⟩)
    fun call => (cv (fun e H => S69_0 call e.x0.x0 e.x0.x1 H) se)
theorem S70_ok : Stands Tryz.prog [] 1000000 70 S70 :=
  stands_of (s := S70) 68 [.cell (.some 5) 4, .tmp 5] 2 (fun call e H => S70_33 call e.x0.x0 e.x0.x1 H) (fun call _ H _ h => by obtain ⟨t0, t1, rfl, h⟩ := argA2_eq h; exact ⟨rfl, (show _ = S70_33 call t0 t1 H by kernel_rfl).trans h⟩)
    fun call => (cv (fun e H => S70_33 call e.x0.x0 e.x0.x1 H) (sq (sq (sq se (sq se (sq (sq (cv (fun e H => S70_32 call e.x0.x3 e.x0.x4 e.x0.x6 e.x0.x11 e.x0.x12 H) (sq (sq (cv (fun e H => S70_31 call e.x0.x3 e.x0.x4 e.x0.x6 e.x0.x11 e.x0.x13 H) (sq (sq (cv (fun e H => S70_30 call e.x0.x3 e.x0.x4 e.x0.x6 e.x0.x11 e.x0.x14 H) (sq (sq (cv (fun e H => S70_29 call e.x0.x3 e.x0.x4 e.x0.x6 e.x0.x11 e.x0.x15 H) (sq (sq (cv (fun e H => S70_28 call e.x0.x3 e.x0.x4 e.x0.x6 e.x0.x11 e.x0.x16 H) (sq (sq (cv (fun e H => S70_27 call e.x0.x3 e.x0.x4 e.x0.x6 e.x0.x18 e.x0.x19 H) (sq (sq (cv (fun e H => S70_26 call e.x0.x3 e.x0.x4 e.x0.x6 e.x0.x18 e.x1.x0 H) (sq (sq (cv (fun e H => S70_25 call e.x0.x3 e.x0.x4 e.x0.x6 e.x0.x18 e.x1.x1 H) (sq (sq (cv (fun e H => S70_24 call e.x0.x3 e.x0.x4 e.x0.x6 e.x0.x18 e.x1.x2 H) (sq (sq (cv (fun e H => S70_23 call e.x0.x3 e.x0.x4 e.x0.x6 e.x0.x18 e.x1.x2 e.x1.x3 H) (sq (sq (cv (fun e H => S70_22 call e.x0.x3 e.x0.x4 e.x0.x6 e.x0.x18 e.x1.x2 e.x1.x4 H) (sq (sq (cv (fun e H => S70_21 call e.x0.x3 e.x0.x4 e.x0.x6 e.x0.x18 e.x1.x2 e.x1.x5 H) (sq (sq (cv (fun e H => S70_20 call e.x0.x3 e.x0.x4 e.x0.x6 e.x0.x18 e.x1.x6 H) (sq (sq (cv (fun e H => S70_19 call e.x0.x3 e.x0.x4 e.x0.x6 e.x1.x8 e.x1.x9 H) (sq (sq (cv (fun e H => S70_18 call e.x0.x3 e.x0.x4 e.x0.x6 e.x1.x8 e.x1.x10 H) (sq (sq (cv (fun e H => S70_17 call e.x0.x3 e.x0.x4 e.x0.x6 e.x1.x8 e.x1.x11 H) (sq (sq (cv (fun e H => S70_16 call e.x0.x3 e.x0.x4 e.x0.x6 e.x1.x8 e.x1.x12 H) (sq (sq (cv (fun e H => S70_15 call e.x0.x3 e.x0.x4 e.x0.x6 e.x1.x8 e.x1.x13 H) (sq (sq (cv (fun e H => S70_14 call e.x0.x3 e.x0.x4 e.x0.x6 e.x1.x15 e.x1.x16 H) (sq (sq (cv (fun e H => S70_13 call e.x0.x3 e.x0.x4 e.x0.x6 e.x1.x15 e.x1.x17 H) (sq (sq (cv (fun e H => S70_12 call e.x0.x3 e.x0.x4 e.x0.x6 e.x1.x15 e.x1.x18 H) (sq (sq (cv (fun e H => S70_11 call e.x0.x3 e.x0.x4 e.x0.x6 e.x1.x15 e.x1.x19 H) (sq (sq (cv (fun e H => S70_10 call e.x0.x3 e.x0.x4 e.x0.x6 e.x1.x15 e.x1.x19 e.x2.x0 H) (sq (sq (cv (fun e H => S70_9 call e.x0.x3 e.x0.x4 e.x0.x6 e.x1.x15 e.x1.x19 e.x2.x1 H) (sq (sq (cv (fun e H => S70_8 call e.x0.x3 e.x0.x4 e.x0.x6 e.x1.x15 e.x1.x19 e.x2.x1 e.x2.x2 H) (sq (sq (cv (fun e H => S70_7 call e.x0.x3 e.x0.x4 e.x0.x6 e.x1.x15 e.x1.x19 e.x2.x1 e.x2.x3 H) (sq (sq (cv (fun e H => S70_6 call e.x0.x3 e.x0.x4 e.x0.x6 e.x1.x15 e.x1.x19 e.x2.x1 e.x2.x4 H) (sq (sq (cv (fun e H => S70_5 call e.x0.x3 e.x0.x4 e.x0.x6 e.x1.x15 e.x1.x19 e.x2.x1 e.x2.x5 H) (sq (sq (cv (fun e H => S70_4 call e.x0.x3 e.x0.x4 e.x0.x6 e.x1.x15 e.x1.x19 e.x2.x6 H) (sq (sq (cv (fun e H => S70_3 call e.x0.x3 e.x0.x4 e.x0.x6 e.x1.x15 e.x1.x19 e.x2.x7 H) (sq (sq (cv (fun e H => S70_2 call e.x0.x3 e.x0.x4 e.x0.x6 e.x1.x15 e.x1.x19 e.x2.x8 H) (sq (sq (cv (fun e H => S70_1 call e.x0.x3 e.x0.x4 e.x0.x6 e.x1.x15 e.x1.x19 e.x2.x9 H) (sq (sq (cv (fun e H => S70_0 call e.x0.x3 e.x0.x4 e.x0.x6 e.x1.x15 e.x2.x10 H) se) se) se)) se) se)) se) se)) se) se)) se) se)) se) se)) se) se)) se) se)) se) se)) se) se)) se) se)) se) se)) se) se)) se) se)) se) se)) se) se)) se) se)) se) se)) se) se)) se) se)) se) se)) se) se)) se) se)) se) se)) se) se)) se) se)) se) se)) se) se)) se) se)) se) se)) se) se)) se) se)) se) se))) se) se))
theorem S71_ok : Stands Tryz.prog [] 1000000 71 S71 :=
  stands_of (s := S71) 14 [.cell (.some 3) 2, .tmp 3] 1 (fun call e H => S71_0 call e.x0.x0 H) (fun call _ H _ h => by obtain ⟨t0, rfl, h⟩ := argA1_eq h; exact ⟨rfl, (show _ = S71_0 call t0 H by kernel_rfl).trans h⟩)
    fun call => (cv (fun e H => S71_0 call e.x0.x0 H) se)
theorem S72_ok : Stands Tryz.prog [] 1000000 72 S72 :=
  stands_of (s := S72) 23 [.tmp 4] 2 (fun call e H => S72_5 call e.x0.x0 e.x0.x1 H) (fun call _ H _ h => by obtain ⟨t0, t1, rfl, h⟩ := argA2_eq h; exact ⟨rfl, (show _ = S72_5 call t0 t1 H by kernel_rfl).trans h⟩)
    fun call => (cv (fun e H => S72_5 call e.x0.x0 e.x0.x1 H) (sq (sq se (sq (sq (cv (fun e H => S72_4 call e.x0.x0 e.x0.x1 e.x0.x7 e.x0.x9 H) (sq (sq (cv (fun e H => S72_3 call e.x0.x0 e.x0.x1 e.x0.x11 e.x0.x13 H) (sq (sq (cv (fun e H => S72_2 call e.x0.x1 e.x0.x15 e.x0.x18 H) (sq (sq (cv (fun e H => S72_1 call e.x0.x15 e.x0.x18 e.x1.x0 H) (sq (sq (cv (fun e H => S72_0 call e.x0.x15 e.x1.x1 H) se) se) se)) se) se)) se) se)) se) se)) se) se)) se))
theorem S73_ok : Stands Tryz.prog [] 1000000 73 S73 :=
  stands_of (s := S73) 8 [.tmp 2] 1 (fun call e H => S73_0 call e.x0.x0 H) (fun call _ H _ h => by obtain ⟨t0, rfl, h⟩ := argA1_eq h; exact ⟨rfl, (show _ = S73_0 call t0 H by kernel_rfl).trans h⟩)
    fun call => (cv (fun e H => S73_0 call e.x0.x0 H) se)
theorem S74_ok : Stands Tryz.prog [] 1000000 74 S74 :=
  stands_of (s := S74) 98 [] 1 (fun call e H => S74_5 call e.x0.x0 H) (fun call _ H _ h => by obtain ⟨t0, rfl, h⟩ := argA1_eq h; exact ⟨rfl, (show _ = S74_5 call t0 H by kernel_rfl).trans h⟩)
    fun call => (cv (fun e H => S74_5 call e.x0.x0 H) (sq (bl (sq (cn se (sq (cn se (sq (cn se (sq (cn se (sq (cn (sq (cv (fun e H => S74_0 call e.x0.x0 H) se) se) se) se)) se)) (sq (sq (cv (fun e H => S74_3 call e.x0.x0 e.x0.x2 e.x1.x7 e.x1.x9 H) (sq (sq (cv (fun e H => S74_2 call e.x0.x0 e.x0.x2 e.x1.x11 e.x1.x13 H) (sq (sq (cv (fun e H => S74_1 call e.x0.x0 e.x0.x2 e.x1.x15 e.x1.x17 H) se) se) se)) se) se)) se) se))) se)) (sq (sq (cv (fun e H => S74_4 call e.x0.x0 e.x0.x2 e.x0.x13 e.x0.x15 H) se) se) se))) se))
theorem S75_ok : Stands Tryz.prog [] 1000000 75 S75 :=
  stands_of (s := S75) 93 [.cell (.some 3) 4, .tmp 5] 2 (fun call e H => S75_9 call e.x0.x0 e.x0.x1 H) (fun call _ H _ h => by obtain ⟨t0, t1, rfl, h⟩ := argA2_eq h; exact ⟨rfl, (show _ = S75_9 call t0 t1 H by kernel_rfl).trans h⟩)
    fun call => (cv (fun e H => S75_9 call e.x0.x0 e.x0.x1 H) (sq (sq (sq (cv (fun e H => S75_7 call e.x0.x1 e.x0.x2 e.x0.x4 H) (sq (sq (cv (fun e H => S75_0 call e.x0.x4 H) se) (sq (bl (lp (fun n e H => S75_1 call n e.x0.x1 e.x0.x2 e.x0.x4 e.x0.x9 e.x2.x1 e.x2.x2 e.x2.x3 H) fun n0 => cv _ (sq (sq (sq (cv (fun e H => S75_2 call (S75_1 call n0) e.x0.x1 e.x0.x2 e.x0.x4 e.x0.x9 e.x2.x1 e.x2.x2 e.x2.x3 H) se) (bl (sq (sq (sq (bl (lp (fun n e H => S75_3 call (S75_1 call n0) n e.x0.x1 e.x0.x2 e.x0.x4 e.x0.x9 e.x0.x10 e.x0.x12 e.x2.x1 e.x2.x2 e.x2.x3 e.x2.x17 e.x2.x18 e.x2.x19 H) fun n1 => cv _ (sq (sq (sq (cv (fun e H => S75_4 call (S75_3 call (S75_1 call n0) n1) e.x0.x1 e.x0.x2 e.x0.x4 e.x0.x9 e.x0.x10 e.x0.x12 e.x2.x1 e.x2.x2 e.x2.x3 e.x2.x17 e.x2.x18 e.x2.x19 H) se) (bl (sq (sq (sq (bl (lp (fun n e H => S75_5 call (S75_3 call (S75_1 call n0) n1) n e.x0.x1 e.x0.x2 e.x0.x4 e.x0.x9 e.x0.x10 e.x0.x12 e.x0.x13 e.x0.x15 e.x2.x1 e.x2.x2 e.x2.x3 e.x2.x17 e.x2.x18 e.x2.x19 H) fun n2 => cv _ (sq (sq se (bl (sq se (sq (sq (cv (fun e H => S75_6 call (S75_5 call (S75_3 call (S75_1 call n0) n1) n2) e.x0.x1 e.x0.x2 e.x0.x4 e.x0.x9 e.x0.x10 e.x0.x12 e.x0.x13 e.x0.x15 e.x2.x1 e.x2.x2 e.x2.x3 e.x2.x17 e.x2.x18 e.x2.x19 e.x4.x0 e.x4.x4 H) se) se) se)))) se))) se) se) se))) se) se))) se) se) se))) se) se))) se)) se)) (sq (bl (lp (fun n e H => S75_8 call n e.x0.x1 e.x0.x2 e.x0.x4 e.x1.x3 e.x1.x4 e.x1.x5 H) fun _ => cv _ se)) se)) se) se))
theorem S76_ok : Stands Tryz.prog [] 1000000 76 S76 :=
  stands_of (s := S76) 36 [.tmp 2, .tmp 3] 1 (fun call e H => S76_2 call e.x0.x0 H) (fun call _ H _ h => by obtain ⟨t0, rfl, h⟩ := argA1_eq h; exact ⟨rfl, (show _ = S76_2 call t0 H by kernel_rfl).trans h⟩)
    fun call => (cv (fun e H => S76_2 call e.x0.x0 H) (sq (sq (sq (sq se (sq (bl (lp (fun n e H => S76_0 call n e.x0.x4 e.x1.x3 e.x1.x4 H) fun _ => cv _ se)) se)) se) (sq se (sq (sq (cv (fun e H => S76_1 call e.x0.x0 e.x0.x8 e.x0.x10 H) se) se) se))) se))
theorem S77_ok : Stands Tryz.prog [] 1000000 77 S77 :=
  stands_of (s := S77) 4 [.tmp 0] 0 (fun call _ H => S77_0 call H) (fun call _ H _ h => by obtain ⟨rfl, h⟩ := argA0_eq h; exact ⟨rfl, (show _ = S77_0 call H by kernel_rfl).trans h⟩)
    fun call => (cv (fun _ H => S77_0 call H) se)
end Go.Proofs.YtdccenbljfanpaaGreatDoor
