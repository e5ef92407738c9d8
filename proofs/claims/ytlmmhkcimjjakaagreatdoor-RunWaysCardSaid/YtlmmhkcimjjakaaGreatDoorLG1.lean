/- They stand for their bodies: part 1. -/
import Derived.Test.YtlmmhkcimjjakaaGreatDoorLF1
import Derived.KernelRfl
namespace Go.Proofs.YtlmmhkcimjjakaaGreatDoor
open Go.Ab
set_option maxRecDepth 100000
theorem S71_ok : Stands Tryz.prog [0] 1000000 71 S71 :=
  stands_of (s := S71) 8 [.cell (.some 3) 2, .tmp 3] 1 (fun call e H => S71_0 call e.x0.x0 H) (fun call _ H _ h => by obtain ⟨t0, rfl, h⟩ := argA1_eq h; exact ⟨rfl, (show _ = S71_0 call t0 H by kernel_rfl).trans h⟩)
    fun call => (cv (fun e H => S71_0 call e.x0.x0 H) se)
theorem S72_ok : Stands Tryz.prog [0] 1000000 72 S72 :=
  stands_of (s := S72) 26 [.tmp 2, .tmp 3] 1 (fun call e H => S72_0 call e.x0.x0 H) (fun call _ H _ h => by obtain ⟨t0, rfl, h⟩ := argA1_eq h; exact ⟨rfl, (show _ = S72_0 call t0 H by kernel_rfl).trans h⟩)
    fun call => (cv (fun e H => S72_0 call e.x0.x0 H) se)
theorem S73_ok : Stands Tryz.prog [0] 1000000 73 S73 :=
  stands_of (s := S73) 7 [.tmp 2] 1 (fun call e H => S73_0 call e.x0.x0 H) (fun call _ H _ h => by obtain ⟨t0, rfl, h⟩ := argA1_eq h; exact ⟨rfl, (show _ = S73_0 call t0 H by kernel_rfl).trans h⟩)
    fun call => (cv (fun e H => S73_0 call e.x0.x0 H) se)
theorem S74_ok : Stands Tryz.prog [0] 1000000 74 S74 :=
  stands_of (s := S74) 54 [.tmp 4, .tmp 5] 2 (fun call e H => S74_0 call e.x0.x0 e.x0.x1 H) (fun call _ H _ h => by obtain ⟨t0, t1, rfl, h⟩ := argA2_eq h; exact ⟨rfl, (show _ = S74_0 call t0 t1 H by kernel_rfl).trans h⟩)
    fun call => (cv (fun e H => S74_0 call e.x0.x0 e.x0.x1 H) se)
theorem S75_ok : Stands Tryz.prog [0] 1000000 75 S75 :=
  stands_of (s := S75) 8 [.tmp 2] 1 (fun call e H => S75_0 call e.x0.x0 H) (fun call _ H _ h => by obtain ⟨t0, rfl, h⟩ := argA1_eq h; exact ⟨rfl, (show _ = S75_0 call t0 H by kernel_rfl).trans h⟩)
    fun call => (cv (fun e H => S75_0 call e.x0.x0 H) se)
theorem S76_ok : Stands Tryz.prog [0] 1000000 76 S76 :=
  stands_of (s := S76) 8 [.tmp 2] 1 (fun call e H => S76_0 call e.x0.x0 H) (fun call _ H _ h => by obtain ⟨t0, rfl, h⟩ := argA1_eq h; exact ⟨rfl, (show _ = S76_0 call t0 H by kernel_rfl).trans h⟩)
    fun call => (cv (fun e H => S76_0 call e.x0.x0 H) se)
theorem S77_ok : Stands Tryz.prog [0] 1000000 77 S77 :=
  stands_of (s := S77) 8 [.tmp 2] 1 (fun call e H => S77_0 call e.x0.x0 H) (fun call _ H _ h => by obtain ⟨t0, rfl, h⟩ := argA1_eq h; exact ⟨rfl, (show _ = S77_0 call t0 H by kernel_rfl).trans h⟩)
    fun call => (cv (fun e H => S77_0 call e.x0.x0 H) se)
theorem S78_ok : Stands Tryz.prog [0] 1000000 78 S78 :=
  stands_of (s := S78) 8 [.tmp 2] 1 (fun call e H => S78_0 call e.x0.x0 H) (fun call _ H _ h => by obtain ⟨t0, rfl, h⟩ := argA1_eq h; exact ⟨rfl, (show _ = S78_0 call t0 H by kernel_rfl).trans h⟩)
    fun call => (cv (fun e H => S78_0 call e.x0.x0 H) se)
theorem S79_ok : Stands Tryz.prog [0] 1000000 79 S79 :=
  stands_of (s := S79) 8 [.tmp 2] 1 (fun call e H => S79_0 call e.x0.x0 H) (fun call _ H _ h => by obtain ⟨t0, rfl, h⟩ := argA1_eq h; exact ⟨rfl, (show _ = S79_0 call t0 H by kernel_rfl).trans h⟩)
    fun call => (cv (fun e H => S79_0 call e.x0.x0 H) se)
theorem S80_ok : Stands Tryz.prog [0] 1000000 80 S80 :=
  stands_of (s := S80) 8 [.tmp 2] 1 (fun call e H => S80_0 call e.x0.x0 H) (fun call _ H _ h => by obtain ⟨t0, rfl, h⟩ := argA1_eq h; exact ⟨rfl, (show _ = S80_0 call t0 H by kernel_rfl).trans h⟩)
    fun call => (cv (fun e H => S80_0 call e.x0.x0 H) se)
theorem S81_ok : Stands Tryz.prog [0] 1000000 81 S81 :=
  stands_of (s := S81) 8 [.tmp 2] 1 (fun call e H => S81_0 call e.x0.x0 H) (fun call _ H _ h => by obtain ⟨t0, rfl, h⟩ := argA1_eq h; exact ⟨rfl, (show _ = S81_0 call t0 H by kernel_rfl).trans h⟩)
    fun call => (cv (fun e H => S81_0 call e.x0.x0 H) se)
theorem S82_ok : Stands Tryz.prog [0] 1000000 82 S82 :=
  stands_of (s := S82) 24 [.tmp 6, .tmp 7] 3 (fun call e H => S82_0 call e.x0.x0 e.x0.x1 e.x0.x2 H) (fun call _ H _ h => by obtain ⟨t0, t1, t2, rfl, h⟩ := argA3_eq h; exact ⟨rfl, (show _ = S82_0 call t0 t1 t2 H by kernel_rfl).trans h⟩)
    fun call => (cv (fun e H => S82_0 call e.x0.x0 e.x0.x1 e.x0.x2 H) se)
theorem S83_ok : Stands Tryz.prog [0] 1000000 83 S83 :=
  stands_of (s := S83) 9 [.tmp 4] 2 (fun call e H => S83_0 call e.x0.x0 e.x0.x1 H) (fun call _ H _ h => by obtain ⟨t0, t1, rfl, h⟩ := argA2_eq h; exact ⟨rfl, (show _ = S83_0 call t0 t1 H by kernel_rfl).trans h⟩)
    fun call => (cv (fun e H => S83_0 call e.x0.x0 e.x0.x1 H) se)
theorem S84_ok : Stands Tryz.prog [0] 1000000 84 S84 :=
  stands_of (s := S84) 81 [.tmp 4] 2 (fun call e H => S84_0 call e.x0.x0 e.x0.x1 H) (fun call _ H _ h => by obtain ⟨t0, t1, rfl, h⟩ := argA2_eq h; exact ⟨rfl, (show _ = S84_0 call t0 t1 H by kernel_rfl).trans h⟩)
    fun call => (cv (fun e H => S84_0 call e.x0.x0 e.x0.x1 H) se)
theorem S85_ok : Stands Tryz.prog [0] 1000000 85 S85 :=
  stands_of (s := S85) 26 [.tmp 4] 2 (fun call e H => S85_0 call e.x0.x0 e.x0.x1 H) (fun call _ H _ h => by obtain ⟨t0, t1, rfl, h⟩ := argA2_eq h; exact ⟨rfl, (show _ = S85_0 call t0 t1 H by kernel_rfl).trans h⟩)
    fun call => (cv (fun e H => S85_0 call e.x0.x0 e.x0.x1 H) se)
theorem S86_ok : Stands Tryz.prog [0] 1000000 86 S86 :=
  stands_of (s := S86) 20 [.tmp 4] 2 (fun call e H => S86_0 call e.x0.x0 e.x0.x1 H) (fun call _ H _ h => by obtain ⟨t0, t1, rfl, h⟩ := argA2_eq h; exact ⟨rfl, (show _ = S86_0 call t0 t1 H by kernel_rfl).trans h⟩)
    fun call => (cv (fun e H => S86_0 call e.x0.x0 e.x0.x1 H) se)
theorem S87_ok : Stands Tryz.prog [0] 1000000 87 S87 :=
  stands_of (s := S87) 11 [.tmp 4] 2 (fun call e H => S87_0 call e.x0.x0 e.x0.x1 H) (fun call _ H _ h => by obtain ⟨t0, t1, rfl, h⟩ := argA2_eq h; exact ⟨rfl, (show _ = S87_0 call t0 t1 H by kernel_rfl).trans h⟩)
    fun call => (cv (fun e H => S87_0 call e.x0.x0 e.x0.x1 H) se)
theorem S88_ok : Stands Tryz.prog [0] 1000000 88 S88 :=
  stands_of (s := S88) 68 [.cell (.some 5) 4, .tmp 5] 2 (fun call e H => S88_33 call e.x0.x0 e.x0.x1 H) (fun call _ H _ h => by obtain ⟨t0, t1, rfl, h⟩ := argA2_eq h; exact ⟨rfl, (show _ = S88_33 call t0 t1 H by kernel_rfl).trans h⟩)
    fun call => (cv (fun e H => S88_33 call e.x0.x0 e.x0.x1 H) (sq (sq (sq se (sq se (sq (sq (cv (fun e H => S88_32 call e.x0.x3 e.x0.x4 e.x0.x6 e.x0.x11 e.x0.x12 H) (sq (sq (cv (fun e H => S88_31 call e.x0.x3 e.x0.x4 e.x0.x6 e.x0.x11 e.x0.x13 H) (sq (sq (cv (fun e H => S88_30 call e.x0.x3 e.x0.x4 e.x0.x6 e.x0.x11 e.x0.x14 H) (sq (sq (cv (fun e H => S88_29 call e.x0.x3 e.x0.x4 e.x0.x6 e.x0.x11 e.x0.x15 H) (sq (sq (cv (fun e H => S88_28 call e.x0.x3 e.x0.x4 e.x0.x6 e.x0.x11 e.x0.x16 H) (sq (sq (cv (fun e H => S88_27 call e.x0.x3 e.x0.x4 e.x0.x6 e.x0.x18 e.x0.x19 H) (sq (sq (cv (fun e H => S88_26 call e.x0.x3 e.x0.x4 e.x0.x6 e.x0.x18 e.x1.x0 H) (sq (sq (cv (fun e H => S88_25 call e.x0.x3 e.x0.x4 e.x0.x6 e.x0.x18 e.x1.x1 H) (sq (sq (cv (fun e H => S88_24 call e.x0.x3 e.x0.x4 e.x0.x6 e.x0.x18 e.x1.x2 H) (sq (sq (cv (fun e H => S88_23 call e.x0.x3 e.x0.x4 e.x0.x6 e.x0.x18 e.x1.x2 e.x1.x3 H) (sq (sq (cv (fun e H => S88_22 call e.x0.x3 e.x0.x4 e.x0.x6 e.x0.x18 e.x1.x2 e.x1.x4 H) (sq (sq (cv (fun e H => S88_21 call e.x0.x3 e.x0.x4 e.x0.x6 e.x0.x18 e.x1.x2 e.x1.x5 H) (sq (sq (cv (fun e H => S88_20 call e.x0.x3 e.x0.x4 e.x0.x6 e.x0.x18 e.x1.x6 H) (sq (sq (cv (fun e H => S88_19 call e.x0.x3 e.x0.x4 e.x0.x6 e.x1.x8 e.x1.x9 H) (sq (sq (cv (fun e H => S88_18 call e.x0.x3 e.x0.x4 e.x0.x6 e.x1.x8 e.x1.x10 H) (sq (sq (cv (fun e H => S88_17 call e.x0.x3 e.x0.x4 e.x0.x6 e.x1.x8 e.x1.x11 H) (sq (sq (cv (fun e H => S88_16 call e.x0.x3 e.x0.x4 e.x0.x6 e.x1.x8 e.x1.x12 H) (sq (sq (cv (fun e H => S88_15 call e.x0.x3 e.x0.x4 e.x0.x6 e.x1.x8 e.x1.x13 H) (sq (sq (cv (fun e H => S88_14 call e.x0.x3 e.x0.x4 e.x0.x6 e.x1.x15 e.x1.x16 H) (sq (sq (cv (fun e H => S88_13 call e.x0.x3 e.x0.x4 e.x0.x6 e.x1.x15 e.x1.x17 H) (sq (sq (cv (fun e H => S88_12 call e.x0.x3 e.x0.x4 e.x0.x6 e.x1.x15 e.x1.x18 H) (sq (sq (cv (fun e H => S88_11 call e.x0.x3 e.x0.x4 e.x0.x6 e.x1.x15 e.x1.x19 H) (sq (sq (cv (fun e H => S88_10 call e.x0.x3 e.x0.x4 e.x0.x6 e.x1.x15 e.x1.x19 e.x2.x0 H) (sq (sq (cv (fun e H => S88_9 call e.x0.x3 e.x0.x4 e.x0.x6 e.x1.x15 e.x1.x19 e.x2.x1 H) (sq (sq (cv (fun e H => S88_8 call e.x0.x3 e.x0.x4 e.x0.x6 e.x1.x15 e.x1.x19 e.x2.x1 e.x2.x2 H) (sq (sq (cv (fun e H => S88_7 call e.x0.x3 e.x0.x4 e.x0.x6 e.x1.x15 e.x1.x19 e.x2.x1 e.x2.x3 H) (sq (sq (cv (fun e H => S88_6 call e.x0.x3 e.x0.x4 e.x0.x6 e.x1.x15 e.x1.x19 e.x2.x1 e.x2.x4 H) (sq (sq (cv (fun e H => S88_5 call e.x0.x3 e.x0.x4 e.x0.x6 e.x1.x15 e.x1.x19 e.x2.x1 e.x2.x5 H) (sq (sq (cv (fun e H => S88_4 call e.x0.x3 e.x0.x4 e.x0.x6 e.x1.x15 e.x1.x19 e.x2.x6 H) (sq (sq (cv (fun e H => S88_3 call e.x0.x3 e.x0.x4 e.x0.x6 e.x1.x15 e.x1.x19 e.x2.x7 H) (sq (sq (cv (fun e H => S88_2 call e.x0.x3 e.x0.x4 e.x0.x6 e.x1.x15 e.x1.x19 e.x2.x8 H) (sq (sq (cv (fun e H => S88_1 call e.x0.x3 e.x0.x4 e.x0.x6 e.x1.x15 e.x1.x19 e.x2.x9 H) (sq (sq (cv (fun e H => S88_0 call e.x0.x3 e.x0.x4 e.x0.x6 e.x1.x15 e.x2.x10 H) se) se) se)) se) se)) se) se)) se) se)) se) se)) se) se)) se) se)) se) se)) se) se)) se) se)) se) se)) se) se)) se) se)) se) se)) se) se)) se) se)) se) se)) se) se)) se) se)) se) se)) se) se)) se) se)) se) se)) se) se)) se) se)) se) se)) se) se)) se) se)) se) se)) se) se)) se) se)) se) se)) se) se))) se) se))
theorem S89_ok : Stands Tryz.prog [0] 1000000 89 S89 :=
  stands_of (s := S89) 14 [.cell (.some 3) 2, .tmp 3] 1 (fun call e H => S89_0 call e.x0.x0 H) (fun call _ H _ h => by obtain ⟨t0, rfl, h⟩ := argA1_eq h; exact ⟨rfl, (show _ = S89_0 call t0 H by kernel_rfl).trans h⟩)
    fun call => (cv (fun e H => S89_0 call e.x0.x0 H) se)
theorem S90_ok : Stands Tryz.prog [0] 1000000 90 S90 :=
  stands_of (s := S90) 23 [.tmp 4] 2 (fun call e H => S90_5 call e.x0.x0 e.x0.x1 H) (fun call _ H _ h => by obtain ⟨t0, t1, rfl, h⟩ := argA2_eq h; exact ⟨rfl, (show _ = S90_5 call t0 t1 H by kernel_rfl).trans h⟩)
    fun call => (cv (fun e H => S90_5 call e.x0.x0 e.x0.x1 H) (sq (sq se (sq (sq (cv (fun e H => S90_4 call e.x0.x0 e.x0.x1 e.x0.x7 e.x0.x9 H) (sq (sq (cv (fun e H => S90_3 call e.x0.x0 e.x0.x1 e.x0.x11 e.x0.x13 H) (sq (sq (cv (fun e H => S90_2 call e.x0.x1 e.x0.x15 e.x0.x18 H) (sq (sq (cv (fun e H => S90_1 call e.x0.x15 e.x0.x18 e.x1.x0 H) (sq (sq (cv (fun e H => S90_0 call e.x0.x15 e.x1.x1 H) se) se) se)) se) se)) se) se)) se) se)) se) se)) se))
theorem S91_ok : Stands Tryz.prog [0] 1000000 91 S91 :=
  stands_of (s := S91) 8 [.tmp 2] 1 (fun call e H => S91_0 call e.x0.x0 H) (fun call _ H _ h => by obtain ⟨t0, rfl, h⟩ := argA1_eq h; exact ⟨rfl, (show _ = S91_0 call t0 H by kernel_rfl).trans h⟩)
    fun call => (cv (fun e H => S91_0 call e.x0.x0 H) se)
theorem S92_ok : Stands Tryz.prog [0] 1000000 92 S92 :=
  stands_of (s := S92) 98 [] 1 (fun call e H => S92_5 call e.x0.x0 H) (fun call _ H _ h => by obtain ⟨t0, rfl, h⟩ := argA1_eq h; exact ⟨rfl, (show _ = S92_5 call t0 H by kernel_rfl).trans h⟩)
    fun call => (cv (fun e H => S92_5 call e.x0.x0 H) (sq (bl (sq (cn se (sq (cn se (sq (cn se (sq (cn se (sq (cn (sq (cv (fun e H => S92_0 call e.x0.x0 H) se) se) se) se)) se)) (sq (sq (cv (fun e H => S92_3 call e.x0.x0 e.x0.x2 e.x1.x7 e.x1.x9 H) (sq (sq (cv (fun e H => S92_2 call e.x0.x0 e.x0.x2 e.x1.x11 e.x1.x13 H) (sq (sq (cv (fun e H => S92_1 call e.x0.x0 e.x0.x2 e.x1.x15 e.x1.x17 H) se) se) se)) se) se)) se) se))) se)) (sq (sq (cv (fun e H => S92_4 call e.x0.x0 e.x0.x2 e.x0.x13 e.x0.x15 H) se) se) se))) se))
theorem S93_ok : Stands Tryz.prog [0] 1000000 93 S93 :=
  stands_of (s := S93) 8 [.tmp 2] 1 (fun call e H => S93_0 call e.x0.x0 H) (fun call _ H _ h => by obtain ⟨t0, rfl, h⟩ := argA1_eq h; exact ⟨rfl, (show _ = S93_0 call t0 H by kernel_rfl).trans h⟩)
    fun call => (cv (fun e H => S93_0 call e.x0.x0 H) se)
theorem S94_ok : Stands Tryz.prog [0] 1000000 94 S94 :=
  stands_of (s := S94) 23 [.tmp 2] 1 (fun call e H => S94_1 call e.x0.x0 H) (fun call _ H _ h => by obtain ⟨t0, rfl, h⟩ := argA1_eq h; exact ⟨rfl, (show _ = S94_1 call t0 H by kernel_rfl).trans h⟩)
    fun call => (cv (fun e H => S94_1 call e.x0.x0 H) (sq (sq (sq (cv (fun e H => S94_0 call e.x0.x0 e.x0.x3 H) se) se) se) se))
theorem S95_ok : Stands Tryz.prog [0] 1000000 95 S95 :=
  stands_of (s := S95) 41 [.tmp 2, .tmp 3] 1 (fun call e H => S95_3 call e.x0.x0 H) (fun call _ H _ h => by obtain ⟨t0, rfl, h⟩ := argA1_eq h; exact ⟨rfl, (show _ = S95_3 call t0 H by kernel_rfl).trans h⟩)
    fun call => (cv (fun e H => S95_3 call e.x0.x0 H) (sq (sq (sq se (sq (bl (lp (fun n e H => S95_0 call n e.x0.x4 e.x0.x7 e.x0.x8 e.x0.x9 H) fun n0 => cv _ (sq (sq (sq se (bl (sq (sq (sq (sq (cn (sq se (sq se (sq (sq (cv (fun e H => S95_1 call e.x0.x4 e.x0.x5 e.x1.x13 e.x1.x15 H) se) se) se))) se) se) se) (sq se (sq (sq (cv (fun e H => S95_2 call (S95_0 call n0) e.x0.x4 e.x0.x5 e.x0.x6 e.x0.x7 e.x0.x8 e.x0.x9 e.x0.x16 e.x0.x18 H) se) se) se))) se))) se) se))) se)) se) se))
theorem S96_ok : Stands Tryz.prog [0] 1000000 96 S96 :=
  stands_of (s := S96) 21 [.tmp 4] 2 (fun call e H => S96_1 call e.x0.x0 e.x0.x1 H) (fun call _ H _ h => by obtain ⟨t0, t1, rfl, h⟩ := argA2_eq h; exact ⟨rfl, (show _ = S96_1 call t0 t1 H by kernel_rfl).trans h⟩)
    fun call => (cv (fun e H => S96_1 call e.x0.x0 e.x0.x1 H) (sq (sq (sq se (sq (bl (lp (fun n e H => S96_0 call n e.x0.x0 e.x0.x1 e.x0.x5 e.x0.x7 e.x0.x8 H) fun _ => cv _ se)) se)) se) se))
theorem S97_ok : Stands Tryz.prog [0] 1000000 97 S97 :=
  stands_of (s := S97) 13 [.cell (.some 5) 1] 1 (fun call e H => S97_0 call e.x0.x0 H) (fun call _ H _ h => by obtain ⟨t0, rfl, h⟩ := argA1_eq h; exact ⟨rfl, (show _ = S97_0 call t0 H by kernel_rfl).trans h⟩)
    fun call => (cv (fun e H => S97_0 call e.x0.x0 H) se)
theorem S98_ok : Stands Tryz.prog [0] 1000000 98 S98 :=
  stands_of (s := S98) 21 [.tmp 4] 2 (fun call e H => S98_1 call e.x0.x0 e.x0.x1 H) (fun call _ H _ h => by obtain ⟨t0, t1, rfl, h⟩ := argA2_eq h; exact ⟨rfl, (show _ = S98_1 call t0 t1 H by kernel_rfl).trans h⟩)
    fun call => (cv (fun e H => S98_1 call e.x0.x0 e.x0.x1 H) (sq (sq (sq se (sq (bl (lp (fun n e H => S98_0 call n e.x0.x0 e.x0.x1 e.x0.x5 e.x0.x7 e.x0.x8 H) fun _ => cv _ se)) se)) se) se))
theorem S99_ok : Stands Tryz.prog [0] 1000000 99 S99 :=
  stands_of (s := S99) 42 [.tmp 4] 2 (fun call e H => S99_3 call e.x0.x0 e.x0.x1 H) (fun call _ H _ h => by obtain ⟨t0, t1, rfl, h⟩ := argA2_eq h; exact ⟨rfl, (show _ = S99_3 call t0 t1 H by kernel_rfl).trans h⟩)
    fun call => (cv (fun e H => S99_3 call e.x0.x0 e.x0.x1 H) (sq (sq (sq (sq (cv (fun e H => S99_0 call e.x0.x0 e.x0.x5 H) se) (sq (bl (lp (fun n e H => S99_1 call n e.x0.x0 e.x0.x1 e.x0.x5 e.x0.x6 H) fun n0 => cv _ (sq (sq (cv (fun e H => S99_2 call (S99_1 call n0) e.x0.x0 e.x0.x1 e.x0.x5 e.x0.x6 H) se) se) se))) se)) se) se) se))
theorem S100_ok : Stands Tryz.prog [0] 1000000 100 S100 :=
  stands_of (s := S100) 13 [.tmp 3] 2 (fun call e H => S100_1 call e.x0.x0 e.x0.x1 H) (fun call _ H _ h => by obtain ⟨t0, t1, rfl, h⟩ := argA2_eq h; exact ⟨rfl, (show _ = S100_1 call t0 t1 H by kernel_rfl).trans h⟩)
    fun call => (cv (fun e H => S100_1 call e.x0.x0 e.x0.x1 H) (sq (sq se (sq (sq (cv (fun e H => S100_0 call e.x0.x6 e.x0.x11 H) se) se) se)) se))
theorem S101_ok : Stands Tryz.prog [0] 1000000 101 S101 :=
  stands_of (s := S101) 11 [] 1 (fun call e H => S101_0 call e.x0.x0 H) (fun call _ H _ h => by obtain ⟨t0, rfl, h⟩ := argA1_eq h; exact ⟨rfl, (show _ = S101_0 call t0 H by kernel_rfl).trans h⟩)
    fun call => (cv (fun e H => S101_0 call e.x0.x0 H) se)
theorem S102_ok : Stands Tryz.prog [0] 1000000 102 S102 :=
  stands_of (s := S102) 61 [.tmp 2] 1 (fun call e H => S102_5 call e.x0.x0 H) (fun call _ H _ h => by obtain ⟨t0, rfl, h⟩ := argA1_eq h; exact ⟨rfl, (show _ = S102_5 call t0 H by kernel_rfl).trans h⟩)
    fun call => (cv (fun e H => S102_5 call e.x0.x0 H) (sq (sq (sq se (sq (bl (lp (fun n e H => S102_0 call n e.x0.x0 e.x0.x3 H) fun n0 => cv _ (sq (sq (cv (fun e H => S102_1 call (S102_0 call n0) e.x0.x0 e.x0.x3 H) se) (bl (sq (cn (sq (sq (cv (fun e H => S102_2 call e.x0.x0 e.x0.x3 H) se) (sq (bl (lp (fun n e H => S102_3 call n e.x0.x0 e.x0.x3 e.x0.x4 e.x0.x5 H) fun n1 => cv _ (sq (sq (cv (fun e H => S102_4 call (S102_3 call n1) e.x0.x0 e.x0.x3 e.x0.x4 e.x0.x5 H) se) se) se))) se)) se) se) se))) se))) se)) se) se))
theorem S103_ok : Stands Tryz.prog [0] 1000000 103 S103 :=
  stands_of (s := S103) 21 [.tmp 4] 2 (fun call e H => S103_1 call e.x0.x0 e.x0.x1 H) (fun call _ H _ h => by obtain ⟨t0, t1, rfl, h⟩ := argA2_eq h; exact ⟨rfl, (show _ = S103_1 call t0 t1 H by kernel_rfl).trans h⟩)
    fun call => (cv (fun e H => S103_1 call e.x0.x0 e.x0.x1 H) (sq (sq (sq se (sq (cn (sq (bl (lp (fun n e H => S103_0 call n e.x0.x0 e.x0.x5 e.x0.x9 e.x0.x10 H) fun _ => cv _ se)) se) se) se)) se) se))
theorem S104_ok : Stands Tryz.prog [0] 1000000 104 S104 :=
  stands_of (s := S104) 20 [.cell (.some 7) 4] 2 (fun call e H => S104_1 call e.x0.x0 e.x0.x1 H) (fun call _ H _ h => by obtain ⟨t0, t1, rfl, h⟩ := argA2_eq h; exact ⟨rfl, (show _ = S104_1 call t0 t1 H by kernel_rfl).trans h⟩)
    fun call => (cv (fun e H => S104_1 call e.x0.x0 e.x0.x1 H) (sq (sq se (sq se (sq (sq (cv (fun e H => S104_0 call e.x0.x1 e.x0.x2 e.x0.x4 e.x0.x7 e.x0.x12 H) se) se) se))) se))
theorem S105_ok : Stands Tryz.prog [0] 1000000 105 S105 :=
  stands_of (s := S105) 5 [.tmp 2] 1 (fun call e H => S105_0 call e.x0.x0 H) (fun call _ H _ h => by obtain ⟨t0, rfl, h⟩ := argA1_eq h; exact ⟨rfl, (show _ = S105_0 call t0 H by kernel_rfl).trans h⟩)
    fun call => (cv (fun e H => S105_0 call e.x0.x0 H) se)
theorem S106_ok : Stands Tryz.prog [0] 1000000 106 S106 :=
  stands_of (s := S106) 30 [.tmp 2] 1 (fun call e H => S106_3 call e.x0.x0 H) (fun call _ H _ h => by obtain ⟨t0, rfl, h⟩ := argA1_eq h; exact ⟨rfl, (show _ = S106_3 call t0 H by kernel_rfl).trans h⟩)
    fun call => (cv (fun e H => S106_3 call e.x0.x0 H) (sq (sq (sq se (sq (bl (lp (fun n e H => S106_0 call n e.x0.x3 e.x0.x6 e.x0.x7 e.x0.x8 H) fun n0 => cv _ (sq (sq (sq (cv (fun e H => S106_1 call (S106_0 call n0) e.x0.x3 e.x0.x6 e.x0.x7 e.x0.x8 H) se) (bl (sq (sq (cv (fun e H => S106_2 call (S106_0 call n0) e.x0.x3 e.x0.x5 e.x0.x6 e.x0.x7 e.x0.x8 H) se) se) se))) se) se))) se)) se) se))
theorem S107_ok : Stands Tryz.prog [0] 1000000 107 S107 :=
  stands_of (s := S107) 93 [.cell (.some 3) 4, .tmp 5] 2 (fun call e H => S107_9 call e.x0.x0 e.x0.x1 H) (fun call _ H _ h => by obtain ⟨t0, t1, rfl, h⟩ := argA2_eq h; exact ⟨rfl, (show _ = S107_9 call t0 t1 H by kernel_rfl).trans h⟩)
    fun call => (cv (fun e H => S107_9 call e.x0.x0 e.x0.x1 H) (sq (sq (sq (cv (fun e H => S107_7 call e.x0.x1 e.x0.x2 e.x0.x4 H) (sq (sq (cv (fun e H => S107_0 call e.x0.x4 H) se) (sq (bl (lp (fun n e H => S107_1 call n e.x0.x1 e.x0.x2 e.x0.x4 e.x0.x9 e.x2.x1 e.x2.x2 e.x2.x3 H) fun n0 => cv _ (sq (sq (sq (cv (fun e H => S107_2 call (S107_1 call n0) e.x0.x1 e.x0.x2 e.x0.x4 e.x0.x9 e.x2.x1 e.x2.x2 e.x2.x3 H) se) (bl (sq (sq (sq (bl (lp (fun n e H => S107_3 call (S107_1 call n0) n e.x0.x1 e.x0.x2 e.x0.x4 e.x0.x9 e.x0.x10 e.x0.x12 e.x2.x1 e.x2.x2 e.x2.x3 e.x2.x17 e.x2.x18 e.x2.x19 H) fun n1 => cv _ (sq (sq (sq (cv (fun e H => S107_4 call (S107_3 call (S107_1 call n0) n1) e.x0.x1 e.x0.x2 e.x0.x4 e.x0.x9 e.x0.x10 e.x0.x12 e.x2.x1 e.x2.x2 e.x2.x3 e.x2.x17 e.x2.x18 e.x2.x19 H) se) (bl (sq (sq (sq (bl (lp (fun n e H => S107_5 call (S107_3 call (S107_1 call n0) n1) n e.x0.x1 e.x0.x2 e.x0.x4 e.x0.x9 e.x0.x10 e.x0.x12 e.x0.x13 e.x0.x15 e.x2.x1 e.x2.x2 e.x2.x3 e.x2.x17 e.x2.x18 e.x2.x19 H) fun n2 => cv _ (sq (sq se (bl (sq se (sq (sq (cv (fun e H => S107_6 call (S107_5 call (S107_3 call (S107_1 call n0) n1) n2) e.x0.x1 e.x0.x2 e.x0.x4 e.x0.x9 e.x0.x10 e.x0.x12 e.x0.x13 e.x0.x15 e.x2.x1 e.x2.x2 e.x2.x3 e.x2.x17 e.x2.x18 e.x2.x19 e.x4.x0 e.x4.x4 H) se) se) se)))) se))) se) se) se))) se) se))) se) se) se))) se) se))) se)) se)) (sq (bl (lp (fun n e H => S107_8 call n e.x0.x1 e.x0.x2 e.x0.x4 e.x1.x3 e.x1.x4 e.x1.x5 H) fun _ => cv _ se)) se)) se) se))
theorem S108_ok : Stands Tryz.prog [0] 1000000 108 S108 :=
  stands_of (s := S108) 36 [.tmp 2, .tmp 3] 1 (fun call e H => S108_2 call e.x0.x0 H) (fun call _ H _ h => by obtain ⟨t0, rfl, h⟩ := argA1_eq h; exact ⟨rfl, (show _ = S108_2 call t0 H by kernel_rfl).trans h⟩)
    fun call => (cv (fun e H => S108_2 call e.x0.x0 H) (sq (sq (sq (sq se (sq (bl (lp (fun n e H => S108_0 call n e.x0.x4 e.x1.x3 e.x1.x4 H) fun _ => cv _ se)) se)) se) (sq se (sq (sq (cv (fun e H => S108_1 call e.x0.x0 e.x0.x8 e.x0.x10 H) se) se) se))) se))
theorem S109_ok : Stands Tryz.prog [0] 1000000 109 S109 :=
  stands_of (s := S109) 4 [.tmp 0] 0 (fun call _ H => S109_0 call H) (fun call _ H _ h => by obtain ⟨rfl, h⟩ := argA0_eq h; exact ⟨rfl, (show _ = S109_0 call H by kernel_rfl).trans h⟩)
    fun call => (cv (fun _ H => S109_0 call H) se)
theorem S110_ok : Stands Tryz.prog [0] 1000000 110 S110 :=
  stands_of (s := S110) 9 [.tmp 2] 1 (fun call e H => S110_0 call e.x0.x0 H) (fun call _ H _ h => by obtain ⟨t0, rfl, h⟩ := argA1_eq h; exact ⟨rfl, (show _ = S110_0 call t0 H by kernel_rfl).trans h⟩)
    fun call => (cv (fun e H => S110_0 call e.x0.x0 H) se)
theorem S111_ok : Stands Tryz.prog [0] 1000000 111 S111 :=
  stands_of (s := S111) 10 [.tmp 4] 2 (fun call e H => S111_0 call e.x0.x0 e.x0.x1 H) (fun call _ H _ h => by obtain ⟨t0, t1, rfl, h⟩ := argA2_eq h; exact ⟨rfl, (show _ = S111_0 call t0 t1 H by kernel_rfl).trans h⟩)
    fun call => (cv (fun e H => S111_0 call e.x0.x0 e.x0.x1 H) se)
theorem S112_ok : Stands Tryz.prog [0] 1000000 112 S112 :=
  stands_of (s := S112) 36 [.tmp 2] 1 (fun call e H => S112_5 call e.x0.x0 H) (fun call _ H _ h => by obtain ⟨t0, rfl, h⟩ := argA1_eq h; exact ⟨rfl, (show _ = S112_5 call t0 H by kernel_rfl).trans h⟩)
    fun call => (cv (fun e H => S112_5 call e.x0.x0 H) (sq (sq se (sq (bl (sq (cv (fun e H => S112_4 call e.x0.x1 e.x0.x4 e.x0.x5 H) (cn (sq se (sq (sq (cv (fun e H => S112_1 call e.x0.x1 e.x0.x11 e.x0.x14 H) (sq (sq (cv (fun e H => S112_0 call e.x0.x16 e.x1.x3 H) se) se) se)) se) se)) (sq (cv (fun e H => S112_3 call e.x0.x1 e.x1.x5 H) (cn (sq se (sq (sq (cv (fun e H => S112_2 call e.x1.x11 e.x1.x14 H) se) se) se)) se)) se))) se)) se)) se))
theorem S113_ok : Stands Tryz.prog [0] 1000000 113 S113 :=
  stands_of (s := S113) 55 [.cell (.some 3) 6, .tmp 7] 3 (fun call e H => S113_3 call e.x0.x0 e.x0.x1 e.x0.x2 H) (fun call _ H _ h => by obtain ⟨t0, t1, t2, rfl, h⟩ := argA3_eq h; exact ⟨rfl, (show _ = S113_3 call t0 t1 t2 H by kernel_rfl).trans h⟩)
    fun call => (cv (fun e H => S113_3 call e.x0.x0 e.x0.x1 e.x0.x2 H) (sq (sq (sq (sq se (sq se (sq (sq (cv (fun e H => S113_1 call e.x0.x1 e.x0.x2 e.x0.x6 e.x0.x8 e.x1.x13 e.x1.x18 H) (sq (sq (cv (fun e H => S113_0 call e.x0.x1 e.x0.x2 e.x0.x6 e.x0.x8 e.x2.x0 e.x2.x3 H) se) se) se)) se) se))) se) (sq se (sq (sq (cv (fun e H => S113_2 call e.x0.x1 e.x0.x2 e.x0.x3 e.x0.x6 e.x0.x12 e.x0.x17 H) se) se) se))) se))
theorem S114_ok : Stands Tryz.prog [0] 1000000 114 S114 :=
  stands_of (s := S114) 9 [.tmp 2] 1 (fun call e H => S114_0 call e.x0.x0 H) (fun call _ H _ h => by obtain ⟨t0, rfl, h⟩ := argA1_eq h; exact ⟨rfl, (show _ = S114_0 call t0 H by kernel_rfl).trans h⟩)
    fun call => (cv (fun e H => S114_0 call e.x0.x0 H) se)
theorem S115_ok : Stands Tryz.prog [0] 1000000 115 S115 :=
  stands_of (s := S115) 11 [.tmp 4] 3 (fun call e H => S115_0 call e.x0.x0 e.x0.x1 e.x0.x2 H) (fun call _ H _ h => by obtain ⟨t0, t1, t2, rfl, h⟩ := argA3_eq h; exact ⟨rfl, (show _ = S115_0 call t0 t1 t2 H by kernel_rfl).trans h⟩)
    fun call => (cv (fun e H => S115_0 call e.x0.x0 e.x0.x1 e.x0.x2 H) se)
theorem S116_ok : Stands Tryz.prog [0] 1000000 116 S116 :=
  stands_of (s := S116) 82 [.tmp 6] 3 (fun call e H => S116_5 call e.x0.x0 e.x0.x1 e.x0.x2 H) (fun call _ H _ h => by obtain ⟨t0, t1, t2, rfl, h⟩ := argA3_eq h; exact ⟨rfl, (show _ = S116_5 call t0 t1 t2 H by kernel_rfl).trans h⟩)
    fun call => (cv (fun e H => S116_5 call e.x0.x0 e.x0.x1 e.x0.x2 H) (sq (sq (sq (sq (sq (sq (sq (sq (sq (cv (fun e H => S116_1 call e.x0.x11 e.x0.x12 H) (sq se (sq se (sq (sq (cv (fun e H => S116_0 call e.x0.x11 e.x0.x12 e.x3.x14 e.x3.x16 H) se) se) se)))) (sq (bl (lp (fun n e H => S116_2 call n e.x0.x0 e.x0.x1 e.x0.x2 e.x0.x11 e.x0.x12 e.x2.x17 e.x2.x18 e.x2.x19 H) fun _ => cv _ se)) se)) se) se) (sq se (sq (sq (cv (fun e H => S116_4 call e.x0.x0 e.x0.x1 e.x0.x2 e.x0.x7 e.x0.x8 e.x1.x17 e.x2.x0 H) (sq (sq (cv (fun e H => S116_3 call e.x0.x0 e.x0.x1 e.x0.x2 e.x0.x7 e.x0.x8 e.x2.x2 e.x2.x5 H) se) se) se)) se) se))) se) se) se) se) se))
theorem S117_ok : Stands Tryz.prog [0] 1000000 117 S117 :=
  stands_of (s := S117) 18 [.tmp 4, .tmp 5] 2 (fun call e H => S117_0 call e.x0.x0 e.x0.x1 H) (fun call _ H _ h => by obtain ⟨t0, t1, rfl, h⟩ := argA2_eq h; exact ⟨rfl, (show _ = S117_0 call t0 t1 H by kernel_rfl).trans h⟩)
    fun call => (cv (fun e H => S117_0 call e.x0.x0 e.x0.x1 H) se)
theorem S118_ok : Stands Tryz.prog [0] 1000000 118 S118 :=
  stands_of (s := S118) 35 [.tmp 6] 3 (fun call e H => S118_2 call e.x0.x0 e.x0.x1 e.x0.x2 H) (fun call _ H _ h => by obtain ⟨t0, t1, t2, rfl, h⟩ := argA3_eq h; exact ⟨rfl, (show _ = S118_2 call t0 t1 t2 H by kernel_rfl).trans h⟩)
    fun call => (cv (fun e H => S118_2 call e.x0.x0 e.x0.x1 e.x0.x2 H) (sq (sq se (sq se (sq (sq (cv (fun e H => S118_1 call e.x0.x0 e.x0.x1 e.x0.x2 e.x0.x10 e.x0.x16 H) (sq (sq (cv (fun e H => S118_0 call e.x0.x0 e.x0.x1 e.x0.x2 e.x0.x18 e.x1.x3 H) se) se) se)) se) se))) se))
theorem S119_ok : Stands Tryz.prog [0] 1000000 119 S119 :=
  stands_of (s := S119) 29 [.tmp 2] 1 (fun call e H => S119_1 call e.x0.x0 H) (fun call _ H _ h => by obtain ⟨t0, rfl, h⟩ := argA1_eq h; exact ⟨rfl, (show _ = S119_1 call t0 H by kernel_rfl).trans h⟩)
    fun call => (cv (fun e H => S119_1 call e.x0.x0 H) (sq (sq (sq (sq se (sq (bl (lp (fun n e H => S119_0 call n e.x0.x0 e.x0.x19 e.x1.x0 e.x1.x1 H) fun _ => cv _ se)) se)) se) se) se))
theorem S120_ok : Stands Tryz.prog [0] 1000000 120 S120 :=
  stands_of (s := S120) 25 [] 1 (fun call e H => S120_1 call e.x0.x0 H) (fun call _ H _ h => by obtain ⟨t0, rfl, h⟩ := argA1_eq h; exact ⟨rfl, (show _ = S120_1 call t0 H by kernel_rfl).trans h⟩)
    fun call => (cv (fun e H => S120_1 call e.x0.x0 H) (sq (bl (lp (fun n e H => S120_0 call n e.x0.x0 e.x0.x7 e.x0.x8 H) fun _ => cv _ se)) se))
theorem S121_ok : Stands Tryz.prog [0] 1000000 121 S121 :=
  stands_of (s := S121) 20 [.tmp 2] 1 (fun call e H => S121_1 call e.x0.x0 H) (fun call _ H _ h => by obtain ⟨t0, rfl, h⟩ := argA1_eq h; exact ⟨rfl, (show _ = S121_1 call t0 H by kernel_rfl).trans h⟩)
    fun call => (cv (fun e H => S121_1 call e.x0.x0 H) (sq (sq se (sq (bl (lp (fun n e H => S121_0 call n e.x0.x0 e.x0.x8 e.x0.x9 e.x0.x10 H) fun _ => cv _ se)) se)) se))
theorem S123_ok : Stands Tryz.prog [0] 1000000 123 S123 :=
  stands_of (s := S123) 19 [] 1 (fun call e H => S123_1 call e.x0.x0 H) (fun call _ H _ h => by obtain ⟨t0, rfl, h⟩ := argA1_eq h; exact ⟨rfl, (show _ = S123_1 call t0 H by kernel_rfl).trans h⟩)
    fun call => (cv (fun e H => S123_1 call e.x0.x0 H) (sq (bl (lp (fun n e H => S123_0 call n e.x0.x0 e.x0.x7 e.x0.x8 H) fun _ => cv _ se)) se))
theorem S124_ok : Stands Tryz.prog [0] 1000000 124 S124 :=
  stands_of (s := S124) 19 [] 2 (fun call e H => S124_1 call e.x0.x0 e.x0.x1 H) (fun call _ H _ h => by obtain ⟨t0, t1, rfl, h⟩ := argA2_eq h; exact ⟨rfl, (show _ = S124_1 call t0 t1 H by kernel_rfl).trans h⟩)
    fun call => (cv (fun e H => S124_1 call e.x0.x0 e.x0.x1 H) (sq (bl (lp (fun n e H => S124_0 call n e.x0.x0 e.x0.x6 e.x0.x7 e.x0.x8 H) fun _ => cv _ se)) se))
theorem S125_ok : Stands Tryz.prog [0] 1000000 125 S125 :=
  stands_of (s := S125) 20 [.tmp 2] 1 (fun call e H => S125_0 call e.x0.x0 H) (fun call _ H _ h => by obtain ⟨t0, rfl, h⟩ := argA1_eq h; exact ⟨rfl, (show _ = S125_0 call t0 H by kernel_rfl).trans h⟩)
    fun call => (cv (fun e H => S125_0 call e.x0.x0 H) se)
theorem S126_ok : Stands Tryz.prog [0] 1000000 126 S126 :=
  stands_of (s := S126) 8 [.cell (.some 3) 2] 1 (fun call e H => S126_0 call e.x0.x0 H) (fun call _ H _ h => by obtain ⟨t0, rfl, h⟩ := argA1_eq h; exact ⟨rfl, (show _ = S126_0 call t0 H by kernel_rfl).trans h⟩)
    fun call => (cv (fun e H => S126_0 call e.x0.x0 H) se)
theorem S127_ok : Stands Tryz.prog [0] 1000000 127 S127 :=
  stands_of (s := S127) 100 [] 1 (fun call e H => S127_0 call e.x0.x0 H) (fun call _ H _ h => by obtain ⟨t0, rfl, h⟩ := argA1_eq h; exact ⟨rfl, (show _ = S127_0 call t0 H by kernel_rfl).trans h⟩)
    fun call => (cv (fun e H => S127_0 call e.x0.x0 H) se)
theorem S128_ok : Stands Tryz.prog [0] 1000000 128 S128 :=
  stands_of (s := S128) 117 [] 1 (fun call e H => S128_0 call e.x0.x0 H) (fun call _ H _ h => by obtain ⟨t0, rfl, h⟩ := argA1_eq h; exact ⟨rfl, (show _ = S128_0 call t0 H by kernel_rfl).trans h⟩)
    fun call => (cv (fun e H => S128_0 call e.x0.x0 H) se)
theorem S129_ok : Stands Tryz.prog [0] 1000000 129 S129 :=
  stands_of (s := S129) 116 [] 1 (fun call e H => S129_2 call e.x0.x0 H) (fun call _ H _ h => by obtain ⟨t0, rfl, h⟩ := argA1_eq h; exact ⟨rfl, (show _ = S129_2 call t0 H by kernel_rfl).trans h⟩)
    fun call => (cv (fun e H => S129_2 call e.x0.x0 H) (sq (sq (sq (sq (cv (fun e H => S129_0 call e.x0.x0 e.x0.x2 e.x0.x4 e.x0.x5 H) se) (sq (bl (sq (cn se (sq (cn (sq (sq se (sq se (sq (sq (cv (fun e H => S129_1 call e.x0.x0 e.x0.x2 e.x0.x3 e.x0.x6 e.x2.x14 e.x2.x16 H) se) se) se))) se) se) se)) se)) se)) se) se) se))
theorem S131_ok : Stands Tryz.prog [0] 1000000 131 S131 :=
  stands_of (s := S131) 30 [.tmp 4] 2 (fun call e H => S131_2 call e.x0.x0 e.x0.x1 H) (fun call _ H _ h => by obtain ⟨t0, t1, rfl, h⟩ := argA2_eq h; exact ⟨rfl, (show _ = S131_2 call t0 t1 H by kernel_rfl).trans h⟩)
    fun call => (cv (fun e H => S131_2 call e.x0.x0 e.x0.x1 H) (sq (sq (sq se (sq se (sq (sq (cv (fun e H => S131_1 call e.x0.x1 e.x0.x5 e.x0.x10 e.x0.x12 H) (sq (sq (cv (fun e H => S131_0 call e.x0.x1 e.x0.x5 e.x0.x14 e.x1.x1 H) se) se) se)) se) se))) se) se))
theorem S132_ok : Stands Tryz.prog [0] 1000000 132 S132 :=
  stands_of (s := S132) 12 [] 1 (fun call e H => S132_0 call e.x0.x0 H) (fun call _ H _ h => by obtain ⟨t0, rfl, h⟩ := argA1_eq h; exact ⟨rfl, (show _ = S132_0 call t0 H by kernel_rfl).trans h⟩)
    fun call => (cv (fun e H => S132_0 call e.x0.x0 H) se)
end Go.Proofs.YtlmmhkcimjjakaaGreatDoor
