/- They stand for their bodies: part 1. -/
import Derived.Test.YtbjjgndgofakoaaGreatDoorLF1
import Derived.KernelRfl
namespace Go.Proofs.YtbjjgndgofakoaaGreatDoor
open Go.Ab
set_option maxRecDepth 100000
theorem S64_ok : Stands Tryz.prog [] 1000000 64 S64 :=
  stands_of (s := S64) 64 [.tmp 2] 1 (fun call e H => S64_6 call e.x0.x0 H) (fun call _ H _ h => by obtain ⟨t0, rfl, h⟩ := argA1_eq h; exact ⟨rfl, (show _ = S64_6 call t0 H by kernel_rfl).trans h⟩)
    fun call => (cv (fun e H => S64_6 call e.x0.x0 H) (sq (sq (sq (sq se (sq (bl (lp (fun n e H => S64_0 call n e.x0.x3 e.x2.x0 e.x2.x1 e.x2.x2 H) fun n0 => cv _ (sq (sq (sq se (bl (sq (sq (sq (cv (fun e H => S64_1 call (S64_0 call n0) e.x0.x3 e.x0.x6 e.x0.x7 e.x2.x0 e.x2.x1 e.x2.x2 H) se) se) se) se))) se) se))) se)) (sq se (sq (sq (cv (fun e H => S64_5 call e.x0.x1 e.x0.x3 e.x0.x16 e.x1.x3 H) (sq (sq (cv (fun e H => S64_4 call e.x0.x1 e.x0.x3 e.x1.x5 e.x1.x9 H) (sq (sq (cv (fun e H => S64_3 call e.x0.x1 e.x0.x3 e.x1.x5 e.x1.x9 e.x1.x16 H) (sq (sq (cv (fun e H => S64_2 call e.x0.x1 e.x0.x3 e.x1.x5 e.x1.x17 H) se) se) se)) se) se)) se) se)) se) se))) se) se))
theorem S65_ok : Stands Tryz.prog [] 1000000 65 S65 :=
  stands_of (s := S65) 9 [.tmp 4] 2 (fun call e H => S65_0 call e.x0.x0 e.x0.x1 H) (fun call _ H _ h => by obtain ⟨t0, t1, rfl, h⟩ := argA2_eq h; exact ⟨rfl, (show _ = S65_0 call t0 t1 H by kernel_rfl).trans h⟩)
    fun call => (cv (fun e H => S65_0 call e.x0.x0 e.x0.x1 H) se)
theorem S66_ok : Stands Tryz.prog [] 1000000 66 S66 :=
  stands_of (s := S66) 6 [.tmp 2] 1 (fun call e H => S66_0 call e.x0.x0 H) (fun call _ H _ h => by obtain ⟨t0, rfl, h⟩ := argA1_eq h; exact ⟨rfl, (show _ = S66_0 call t0 H by kernel_rfl).trans h⟩)
    fun call => (cv (fun e H => S66_0 call e.x0.x0 H) se)
theorem S67_ok : Stands Tryz.prog [] 1000000 67 S67 :=
  stands_of (s := S67) 19 [.tmp 4] 2 (fun call e H => S67_1 call e.x0.x0 e.x0.x1 H) (fun call _ H _ h => by obtain ⟨t0, t1, rfl, h⟩ := argA2_eq h; exact ⟨rfl, (show _ = S67_1 call t0 t1 H by kernel_rfl).trans h⟩)
    fun call => (cv (fun e H => S67_1 call e.x0.x0 e.x0.x1 H) (sq (sq se (sq (bl (lp (fun n e H => S67_0 call n e.x0.x0 e.x0.x1 e.x0.x7 e.x0.x8 H) fun _ => cv _ se)) se)) se))
theorem S68_ok : Stands Tryz.prog [] 1000000 68 S68 :=
  stands_of (s := S68) 15 [.tmp 4] 3 (fun call e H => S68_1 call e.x0.x0 e.x0.x1 e.x0.x2 H) (fun call _ H _ h => by obtain ⟨t0, t1, t2, rfl, h⟩ := argA3_eq h; exact ⟨rfl, (show _ = S68_1 call t0 t1 t2 H by kernel_rfl).trans h⟩)
    fun call => (cv (fun e H => S68_1 call e.x0.x0 e.x0.x1 e.x0.x2 H) (sq (sq se (sq (sq (cv (fun e H => S68_0 call e.x0.x9 e.x0.x13 H) se) se) se)) se))
theorem S69_ok : Stands Tryz.prog [] 1000000 69 S69 :=
  stands_of (s := S69) 16 [] 2 (fun call e H => S69_0 call e.x0.x0 e.x0.x1 H) (fun call _ H _ h => by obtain ⟨t0, t1, rfl, h⟩ := argA2_eq h; exact ⟨rfl, (show _ = S69_0 call t0 t1 H by kernel_rfl).trans h⟩)
    fun call => (cv (fun e H => S69_0 call e.x0.x0 e.x0.x1 H) se)
theorem S71_ok : Stands Tryz.prog [] 1000000 71 S71 :=
  stands_of (s := S71) 22 [] 2 (fun call e H => S71_2 call e.x0.x0 e.x0.x1 H) (fun call _ H _ h => by obtain ⟨t0, t1, rfl, h⟩ := argA2_eq h; exact ⟨rfl, (show _ = S71_2 call t0 t1 H by kernel_rfl).trans h⟩)
    fun call => (cv (fun e H => S71_2 call e.x0.x0 e.x0.x1 H) (sq (sq (bl (lp (fun n e H => S71_0 call n e.x0.x0 e.x0.x7 e.x0.x8 e.x0.x9 H) fun n0 => cv _ (sq (sq (sq (cv (fun e H => S71_1 call (S71_0 call n0) e.x0.x0 e.x0.x7 e.x0.x8 e.x0.x9 H) se) se) se) se))) se) se))
theorem S73_ok : Stands Tryz.prog [] 1000000 73 S73 :=
  stands_of (s := S73) 11 [.tmp 2] 1 (fun call e H => S73_1 call e.x0.x0 H) (fun call _ H _ h => by obtain ⟨t0, rfl, h⟩ := argA1_eq h; exact ⟨rfl, (show _ = S73_1 call t0 H by kernel_rfl).trans h⟩)
    fun call => (cv (fun e H => S73_1 call e.x0.x0 H) (sq (sq se (sq (sq (cv (fun e H => S73_0 call e.x0.x6 e.x0.x9 H) se) se) se)) se))
theorem S75_ok : Stands Tryz.prog [] 1000000 75 S75 :=
  stands_of (s := S75) 63 [.tmp 4] 2 (fun call e H => S75_3 call e.x0.x0 e.x0.x1 H) (fun call _ H _ h => by obtain ⟨t0, t1, rfl, h⟩ := argA2_eq h; exact ⟨rfl, (show _ = S75_3 call t0 t1 H by kernel_rfl).trans h⟩)
    fun call => (cv (fun e H => S75_3 call e.x0.x0 e.x0.x1 H) (sq (sq (cv (fun e H => S75_0 call e.x0.x0 e.x0.x1 H) se) (sq (bl (lp (fun n e H => S75_1 call n e.x0.x0 e.x0.x1 e.x0.x10 e.x0.x11 e.x0.x12 H) fun n0 => cv _ (sq (sq (sq se (bl (sq (sq se (sq (sq (cv (fun e H => S75_2 call (S75_1 call n0) e.x0.x0 e.x0.x1 e.x0.x5 e.x0.x10 e.x0.x11 e.x0.x12 e.x0.x19 e.x1.x8 H) se) se) se)) se))) se) se))) se)) se))
theorem S77_ok : Stands Tryz.prog [] 1000000 77 S77 :=
  stands_of (s := S77) 54 [] 2 (fun call e H => S77_15 call e.x0.x0 e.x0.x1 H) (fun call _ H _ h => by obtain ⟨t0, t1, rfl, h⟩ := argA2_eq h; exact ⟨rfl, (show _ = S77_15 call t0 t1 H by kernel_rfl).trans h⟩)
    fun call => (cv (fun e H => S77_15 call e.x0.x0 e.x0.x1 H) (sq (sq (cv (fun e H => S77_12 call e.x0.x0 H) (sq (sq (cv (fun e H => S77_11 call e.x0.x0 e.x1.x8 e.x1.x16 e.x1.x17 H) (sq (sq (cv (fun e H => S77_10 call e.x0.x0 e.x1.x8 e.x1.x16 e.x1.x18 H) (sq (sq (cv (fun e H => S77_9 call e.x0.x0 e.x1.x8 e.x1.x16 e.x1.x19 H) (sq (sq (cv (fun e H => S77_8 call e.x0.x0 e.x1.x8 e.x1.x16 e.x2.x0 H) (sq (sq (cv (fun e H => S77_7 call e.x0.x0 e.x1.x8 e.x1.x16 e.x2.x1 H) (sq (sq (cv (fun e H => S77_6 call e.x0.x0 e.x1.x8 e.x1.x16 e.x2.x2 H) (sq (sq (cv (fun e H => S77_5 call e.x1.x8 e.x2.x4 e.x2.x5 H) (sq (sq (cv (fun e H => S77_4 call e.x1.x8 e.x2.x4 e.x2.x6 H) (sq (sq (cv (fun e H => S77_3 call e.x1.x8 e.x2.x4 e.x2.x7 H) (sq (sq (cv (fun e H => S77_2 call e.x1.x8 e.x2.x4 e.x2.x8 H) (sq (sq (cv (fun e H => S77_1 call e.x1.x8 e.x2.x4 e.x2.x9 H) (sq (sq (cv (fun e H => S77_0 call e.x1.x8 e.x2.x4 e.x2.x10 H) se) se) se)) se) se)) se) se)) se) se)) se) se)) se) se)) se) se)) se) se)) se) se)) se) se)) se) se)) se) se)) (sq (bl (lp (fun n e H => S77_13 call n e.x0.x0 e.x0.x7 e.x0.x8 e.x0.x9 H) fun n0 => cv _ (sq (sq (sq (cv (fun e H => S77_14 call (S77_13 call n0) e.x0.x0 e.x0.x7 e.x0.x8 e.x0.x9 H) se) se) se) se))) se)) se))
theorem S78_ok : Stands Tryz.prog [] 1000000 78 S78 :=
  stands_of (s := S78) 21 [.tmp 4] 2 (fun call e H => S78_0 call e.x0.x0 e.x0.x1 H) (fun call _ H _ h => by obtain ⟨t0, t1, rfl, h⟩ := argA2_eq h; exact ⟨rfl, (show _ = S78_0 call t0 t1 H by kernel_rfl).trans h⟩)
    fun call => (cv (fun e H => S78_0 call e.x0.x0 e.x0.x1 H) se)
theorem S79_ok : Stands Tryz.prog [] 1000000 79 S79 :=
  stands_of (s := S79) 10 [.tmp 2] 1 (fun call e H => S79_0 call e.x0.x0 H) (fun call _ H _ h => by obtain ⟨t0, rfl, h⟩ := argA1_eq h; exact ⟨rfl, (show _ = S79_0 call t0 H by kernel_rfl).trans h⟩)
    fun call => (cv (fun e H => S79_0 call e.x0.x0 H) se)
theorem S80_ok : Stands Tryz.prog [] 1000000 80 S80 :=
  stands_of (s := S80) 61 [.cell (.some 6) 2] 1 (fun call e H => S80_2 call e.x0.x0 H) (fun call _ H _ h => by obtain ⟨t0, rfl, h⟩ := argA1_eq h; exact ⟨rfl, (show _ = S80_2 call t0 H by kernel_rfl).trans h⟩)
    fun call => (cv (fun e H => S80_2 call e.x0.x0 H) (sq (sq (sq (sq (cv (fun e H => S80_0 call e.x0.x1 e.x0.x2 H) se) (sq (bl (lp (fun n e H => S80_1 call n e.x0.x1 e.x0.x2 e.x1.x7 e.x1.x8 H) fun _ => cv _ se)) se)) se) se) se))
theorem S81_ok : Stands Tryz.prog [] 1000000 81 S81 :=
  stands_of (s := S81) 52 [.tmp 4] 2 (fun call e H => S81_6 call e.x0.x0 e.x0.x1 H) (fun call _ H _ h => by obtain ⟨t0, t1, rfl, h⟩ := argA2_eq h; exact ⟨rfl, (show _ = S81_6 call t0 t1 H by kernel_rfl).trans h⟩)
    fun call => (cv (fun e H => S81_6 call e.x0.x0 e.x0.x1 H) (sq (sq (sq se (sq (bl (lp (fun n e H => S81_0 call n e.x0.x2 e.x0.x3 e.x0.x5 e.x0.x15 e.x0.x16 e.x0.x17 H) fun n0 => cv _ (sq (sq (sq (cv (fun e H => S81_1 call (S81_0 call n0) e.x0.x2 e.x0.x3 e.x0.x5 e.x0.x15 e.x0.x16 e.x0.x17 H) se) (bl (sq (sq (bl (lp (fun n e H => S81_2 call (S81_0 call n0) n e.x0.x2 e.x0.x3 e.x0.x5 e.x0.x6 e.x0.x15 e.x0.x16 e.x0.x17 e.x1.x4 e.x1.x5 e.x1.x6 H) fun n1 => cv _ (sq (sq (sq (cv (fun e H => S81_3 call (S81_2 call (S81_0 call n0) n1) e.x0.x2 e.x0.x3 e.x0.x5 e.x0.x6 e.x0.x15 e.x0.x16 e.x0.x17 e.x1.x4 e.x1.x5 e.x1.x6 H) se) (bl (sq (sq se (sq (sq (cv (fun e H => S81_5 call (S81_2 call (S81_0 call n0) n1) e.x0.x2 e.x0.x3 e.x0.x5 e.x0.x6 e.x0.x9 e.x0.x15 e.x0.x16 e.x0.x17 e.x1.x4 e.x1.x5 e.x1.x6 e.x1.x12 e.x1.x15 H) (sq (sq (cv (fun e H => S81_4 call (S81_2 call (S81_0 call n0) n1) e.x0.x2 e.x0.x3 e.x0.x5 e.x0.x6 e.x0.x9 e.x0.x15 e.x0.x16 e.x0.x17 e.x1.x4 e.x1.x5 e.x1.x6 e.x1.x17 e.x2.x4 H) se) se) se)) se) se)) se))) se) se))) se) se))) se) se))) se)) se) se))
theorem S83_ok : Stands Tryz.prog [] 1000000 83 S83 :=
  stands_of (s := S83) 45 [.tmp 4, .tmp 5] 2 (fun call e H => S83_4 call e.x0.x0 e.x0.x1 H) (fun call _ H _ h => by obtain ⟨t0, t1, rfl, h⟩ := argA2_eq h; exact ⟨rfl, (show _ = S83_4 call t0 t1 H by kernel_rfl).trans h⟩)
    fun call => (cv (fun e H => S83_4 call e.x0.x0 e.x0.x1 H) (sq (sq se (sq se (sq (sq (cv (fun e H => S83_3 call e.x0.x2 e.x0.x3 e.x0.x9 e.x0.x12 H) (sq (sq (cv (fun e H => S83_2 call e.x0.x2 e.x0.x3 e.x0.x14 e.x0.x17 H) (sq (sq (cv (fun e H => S83_1 call e.x0.x2 e.x0.x3 e.x0.x19 e.x1.x5 H) (sq (sq (cv (fun e H => S83_0 call e.x0.x3 e.x1.x7 e.x1.x16 H) se) se) se)) se) se)) se) se)) se) se))) se))
theorem S84_ok : Stands Tryz.prog [] 1000000 84 S84 :=
  stands_of (s := S84) 19 [.tmp 4] 2 (fun call e H => S84_1 call e.x0.x0 e.x0.x1 H) (fun call _ H _ h => by obtain ⟨t0, t1, rfl, h⟩ := argA2_eq h; exact ⟨rfl, (show _ = S84_1 call t0 t1 H by kernel_rfl).trans h⟩)
    fun call => (cv (fun e H => S84_1 call e.x0.x0 e.x0.x1 H) (sq (sq se (sq (bl (lp (fun n e H => S84_0 call n e.x0.x0 e.x0.x1 e.x0.x7 e.x0.x8 H) fun _ => cv _ se)) se)) se))
theorem S85_ok : Stands Tryz.prog [] 1000000 85 S85 :=
  stands_of (s := S85) 47 [.tmp 4] 2 (fun call e H => S85_4 call e.x0.x0 e.x0.x1 H) (fun call _ H _ h => by obtain ⟨t0, t1, rfl, h⟩ := argA2_eq h; exact ⟨rfl, (show _ = S85_4 call t0 t1 H by kernel_rfl).trans h⟩)
    fun call => (cv (fun e H => S85_4 call e.x0.x0 e.x0.x1 H) (sq (sq (sq (cv (fun e H => S85_1 call e.x0.x2 e.x0.x3 e.x0.x5 H) (sq (sq se (sq (bl (lp (fun n e H => S85_0 call n e.x0.x5 e.x0.x8 e.x1.x14 e.x1.x15 H) fun _ => cv _ se)) se)) se)) (sq (bl (lp (fun n e H => S85_2 call n e.x0.x2 e.x0.x3 e.x0.x5 e.x0.x16 e.x0.x17 e.x0.x18 H) fun n1 => cv _ (sq (sq (sq (cv (fun e H => S85_3 call (S85_2 call n1) e.x0.x2 e.x0.x3 e.x0.x5 e.x0.x16 e.x0.x17 e.x0.x18 H) se) se) se) se))) se)) se) se))
theorem S86_ok : Stands Tryz.prog [] 1000000 86 S86 :=
  stands_of (s := S86) 110 [.tmp 4] 2 (fun call e H => S86_8 call e.x0.x0 e.x0.x1 H) (fun call _ H _ h => by obtain ⟨t0, t1, rfl, h⟩ := argA2_eq h; exact ⟨rfl, (show _ = S86_8 call t0 t1 H by kernel_rfl).trans h⟩)
    fun call => (cv (fun e H => S86_8 call e.x0.x0 e.x0.x1 H) (sq (sq (sq (sq (sq (cv (fun e H => S86_2 call e.x0.x5 e.x0.x6 H) (sq (sq se (sq (bl (lp (fun n e H => S86_0 call n e.x0.x5 e.x0.x16 e.x4.x14 e.x4.x15 e.x4.x16 H) fun n0 => cv _ (sq (sq (sq se (bl (sq (sq (cv (fun e H => S86_1 call (S86_0 call n0) e.x0.x5 e.x0.x16 e.x0.x18 e.x4.x14 e.x4.x15 e.x4.x16 H) se) se) se))) se) se))) se)) se)) (sq (bl (lp (fun n e H => S86_3 call n e.x0.x2 e.x0.x3 e.x0.x5 e.x0.x6 e.x0.x7 H) fun n1 => cv _ (sq (bl (sq (sq (bl (lp (fun n e H => S86_4 call (S86_3 call n1) n e.x0.x2 e.x0.x3 e.x0.x5 e.x0.x6 e.x0.x7 e.x1.x16 e.x1.x17 e.x1.x18 H) fun n2 => cv _ (sq (sq (sq (cv (fun e H => S86_5 call (S86_4 call (S86_3 call n1) n2) e.x0.x2 e.x0.x3 e.x0.x5 e.x0.x6 e.x0.x7 e.x1.x16 e.x1.x17 e.x1.x18 H) se) (bl (sq (sq (sq (sq (sq (sq (bl (lp (fun n e H => S86_6 call (S86_4 call (S86_3 call n1) n2) n e.x0.x2 e.x0.x3 e.x0.x5 e.x0.x6 e.x0.x7 e.x0.x11 e.x1.x16 e.x1.x17 e.x1.x18 e.x3.x5 e.x3.x6 e.x3.x7 H) fun n3 => cv _ (sq (sq (sq (cv (fun e H => S86_7 call (S86_6 call (S86_4 call (S86_3 call n1) n2) n3) e.x0.x2 e.x0.x3 e.x0.x5 e.x0.x6 e.x0.x7 e.x0.x11 e.x1.x16 e.x1.x17 e.x1.x18 e.x3.x5 e.x3.x6 e.x3.x7 H) se) se) se) se))) se) se) se) se) se) se))) se) se))) se) se)) se))) se)) se) se) se) se))
theorem S88_ok : Stands Tryz.prog [] 1000000 88 S88 :=
  stands_of (s := S88) 26 [.tmp 2, .tmp 3] 1 (fun call e H => S88_0 call e.x0.x0 H) (fun call _ H _ h => by obtain ⟨t0, rfl, h⟩ := argA1_eq h; exact ⟨rfl, (show _ = S88_0 call t0 H by kernel_rfl).trans h⟩)
    fun call => (cv (fun e H => S88_0 call e.x0.x0 H) se)
theorem S91_ok : Stands Tryz.prog [] 1000000 91 S91 :=
  stands_of (s := S91) 8 [.tmp 2] 1 (fun call e H => S91_0 call e.x0.x0 H) (fun call _ H _ h => by obtain ⟨t0, rfl, h⟩ := argA1_eq h; exact ⟨rfl, (show _ = S91_0 call t0 H by kernel_rfl).trans h⟩)
    fun call => (cv (fun e H => S91_0 call e.x0.x0 H) se)
theorem S92_ok : Stands Tryz.prog [] 1000000 92 S92 :=
  stands_of (s := S92) 8 [.tmp 2] 1 (fun call e H => S92_0 call e.x0.x0 H) (fun call _ H _ h => by obtain ⟨t0, rfl, h⟩ := argA1_eq h; exact ⟨rfl, (show _ = S92_0 call t0 H by kernel_rfl).trans h⟩)
    fun call => (cv (fun e H => S92_0 call e.x0.x0 H) se)
theorem S93_ok : Stands Tryz.prog [] 1000000 93 S93 :=
  stands_of (s := S93) 8 [.tmp 2] 1 (fun call e H => S93_0 call e.x0.x0 H) (fun call _ H _ h => by obtain ⟨t0, rfl, h⟩ := argA1_eq h; exact ⟨rfl, (show _ = S93_0 call t0 H by kernel_rfl).trans h⟩)
    fun call => (cv (fun e H => S93_0 call e.x0.x0 H) se)
theorem S94_ok : Stands Tryz.prog [] 1000000 94 S94 :=
  stands_of (s := S94) 8 [.tmp 2] 1 (fun call e H => S94_0 call e.x0.x0 H) (fun call _ H _ h => by obtain ⟨t0, rfl, h⟩ := argA1_eq h; exact ⟨rfl, (show _ = S94_0 call t0 H by kernel_rfl).trans h⟩)
    fun call => (cv (fun e H => S94_0 call e.x0.x0 H) se)
theorem S95_ok : Stands Tryz.prog [] 1000000 95 S95 :=
  stands_of (s := S95) 8 [.tmp 2] 1 (fun call e H => S95_0 call e.x0.x0 H) (fun call _ H _ h => by obtain ⟨t0, rfl, h⟩ := argA1_eq h; exact ⟨rfl, (show _ = S95_0 call t0 H by kernel_rfl).trans h⟩)
    fun call => (cv (fun e H => S95_0 call e.x0.x0 H) se)
theorem S96_ok : Stands Tryz.prog [] 1000000 96 S96 :=
  stands_of (s := S96) 8 [.tmp 2] 1 (fun call e H => S96_0 call e.x0.x0 H) (fun call _ H _ h => by obtain ⟨t0, rfl, h⟩ := argA1_eq h; exact ⟨rfl, (show _ = S96_0 call t0 H by kernel_rfl).trans h⟩)
    fun call => (cv (fun e H => S96_0 call e.x0.x0 H) se)
theorem S97_ok : Stands Tryz.prog [] 1000000 97 S97 :=
  stands_of (s := S97) 8 [.tmp 2] 1 (fun call e H => S97_0 call e.x0.x0 H) (fun call _ H _ h => by obtain ⟨t0, rfl, h⟩ := argA1_eq h; exact ⟨rfl, (show _ = S97_0 call t0 H by kernel_rfl).trans h⟩)
    fun call => (cv (fun e H => S97_0 call e.x0.x0 H) se)
theorem S98_ok : Stands Tryz.prog [] 1000000 98 S98 :=
  stands_of (s := S98) 24 [.tmp 6, .tmp 7] 3 (fun call e H => S98_0 call e.x0.x0 e.x0.x1 e.x0.x2 H) (fun call _ H _ h => by obtain ⟨t0, t1, t2, rfl, h⟩ := argA3_eq h; exact ⟨rfl, (show _ = S98_0 call t0 t1 t2 H by kernel_rfl).trans h⟩)
    fun call => (cv (fun e H => S98_0 call e.x0.x0 e.x0.x1 e.x0.x2 H) se)
theorem S99_ok : Stands Tryz.prog [] 1000000 99 S99 :=
  stands_of (s := S99) 9 [.tmp 4] 2 (fun call e H => S99_0 call e.x0.x0 e.x0.x1 H) (fun call _ H _ h => by obtain ⟨t0, t1, rfl, h⟩ := argA2_eq h; exact ⟨rfl, (show _ = S99_0 call t0 t1 H by kernel_rfl).trans h⟩)
    fun call => (cv (fun e H => S99_0 call e.x0.x0 e.x0.x1 H) se)
theorem S102_ok : Stands Tryz.prog [] 1000000 102 S102 :=
  stands_of (s := S102) 20 [.tmp 4] 2 (fun call e H => S102_0 call e.x0.x0 e.x0.x1 H) (fun call _ H _ h => by obtain ⟨t0, t1, rfl, h⟩ := argA2_eq h; exact ⟨rfl, (show _ = S102_0 call t0 t1 H by kernel_rfl).trans h⟩)
    fun call => (cv (fun e H => S102_0 call e.x0.x0 e.x0.x1 H) se)
theorem S103_ok : Stands Tryz.prog [] 1000000 103 S103 :=
  stands_of (s := S103) 11 [.tmp 4] 2 (fun call e H => S103_0 call e.x0.x0 e.x0.x1 H) (fun call _ H _ h => by obtain ⟨t0, t1, rfl, h⟩ := argA2_eq h; exact ⟨rfl, (show _ = S103_0 call t0 t1 H by kernel_rfl).trans h⟩)
    fun call => (cv (fun e H => S103_0 call e.x0.x0 e.x0.x1 H) se)
theorem S104_ok : Stands Tryz.prog [] 1000000 104 S104 :=
  stands_of (s := S104) 68 [.cell (.some 5) 4, .tmp 5] 2 (fun call e H => S104_33 call e.x0.x0 e.x0.x1 H) (fun call _ H _ h => by obtain ⟨t0, t1, rfl, h⟩ := argA2_eq h; exact ⟨rfl, (show _ = S104_33 call t0 t1 H by kernel_rfl).trans h⟩)
    fun call => (cv (fun e H => S104_33 call e.x0.x0 e.x0.x1 H) (sq (sq (sq se (sq se (sq (sq (cv (fun e H => S104_32 call e.x0.x3 e.x0.x4 e.x0.x6 e.x0.x11 e.x0.x12 H) (sq (sq (cv (fun e H => S104_31 call e.x0.x3 e.x0.x4 e.x0.x6 e.x0.x11 e.x0.x13 H) (sq (sq (cv (fun e H => S104_30 call e.x0.x3 e.x0.x4 e.x0.x6 e.x0.x11 e.x0.x14 H) (sq (sq (cv (fun e H => S104_29 call e.x0.x3 e.x0.x4 e.x0.x6 e.x0.x11 e.x0.x15 H) (sq (sq (cv (fun e H => S104_28 call e.x0.x3 e.x0.x4 e.x0.x6 e.x0.x11 e.x0.x16 H) (sq (sq (cv (fun e H => S104_27 call e.x0.x3 e.x0.x4 e.x0.x6 e.x0.x18 e.x0.x19 H) (sq (sq (cv (fun e H => S104_26 call e.x0.x3 e.x0.x4 e.x0.x6 e.x0.x18 e.x1.x0 H) (sq (sq (cv (fun e H => S104_25 call e.x0.x3 e.x0.x4 e.x0.x6 e.x0.x18 e.x1.x1 H) (sq (sq (cv (fun e H => S104_24 call e.x0.x3 e.x0.x4 e.x0.x6 e.x0.x18 e.x1.x2 H) (sq (sq (cv (fun e H => S104_23 call e.x0.x3 e.x0.x4 e.x0.x6 e.x0.x18 e.x1.x2 e.x1.x3 H) (sq (sq (cv (fun e H => S104_22 call e.x0.x3 e.x0.x4 e.x0.x6 e.x0.x18 e.x1.x2 e.x1.x4 H) (sq (sq (cv (fun e H => S104_21 call e.x0.x3 e.x0.x4 e.x0.x6 e.x0.x18 e.x1.x2 e.x1.x5 H) (sq (sq (cv (fun e H => S104_20 call e.x0.x3 e.x0.x4 e.x0.x6 e.x0.x18 e.x1.x6 H) (sq (sq (cv (fun e H => S104_19 call e.x0.x3 e.x0.x4 e.x0.x6 e.x1.x8 e.x1.x9 H) (sq (sq (cv (fun e H => S104_18 call e.x0.x3 e.x0.x4 e.x0.x6 e.x1.x8 e.x1.x10 H) (sq (sq (cv (fun e H => S104_17 call e.x0.x3 e.x0.x4 e.x0.x6 e.x1.x8 e.x1.x11 H) (sq (sq (cv (fun e H => S104_16 call e.x0.x3 e.x0.x4 e.x0.x6 e.x1.x8 e.x1.x12 H) (sq (sq (cv (fun e H => S104_15 call e.x0.x3 e.x0.x4 e.x0.x6 e.x1.x8 e.x1.x13 H) (sq (sq (cv (fun e H => S104_14 call e.x0.x3 e.x0.x4 e.x0.x6 e.x1.x15 e.x1.x16 H) (sq (sq (cv (fun e H => S104_13 call e.x0.x3 e.x0.x4 e.x0.x6 e.x1.x15 e.x1.x17 H) (sq (sq (cv (fun e H => S104_12 call e.x0.x3 e.x0.x4 e.x0.x6 e.x1.x15 e.x1.x18 H) (sq (sq (cv (fun e H => S104_11 call e.x0.x3 e.x0.x4 e.x0.x6 e.x1.x15 e.x1.x19 H) (sq (sq (cv (fun e H => S104_10 call e.x0.x3 e.x0.x4 e.x0.x6 e.x1.x15 e.x1.x19 e.x2.x0 H) (sq (sq (cv (fun e H => S104_9 call e.x0.x3 e.x0.x4 e.x0.x6 e.x1.x15 e.x1.x19 e.x2.x1 H) (sq (sq (cv (fun e H => S104_8 call e.x0.x3 e.x0.x4 e.x0.x6 e.x1.x15 e.x1.x19 e.x2.x1 e.x2.x2 H) (sq (sq (cv (fun e H => S104_7 call e.x0.x3 e.x0.x4 e.x0.x6 e.x1.x15 e.x1.x19 e.x2.x1 e.x2.x3 H) (sq (sq (cv (fun e H => S104_6 call e.x0.x3 e.x0.x4 e.x0.x6 e.x1.x15 e.x1.x19 e.x2.x1 e.x2.x4 H) (sq (sq (cv (fun e H => S104_5 call e.x0.x3 e.x0.x4 e.x0.x6 e.x1.x15 e.x1.x19 e.x2.x1 e.x2.x5 H) (sq (sq (cv (fun e H => S104_4 call e.x0.x3 e.x0.x4 e.x0.x6 e.x1.x15 e.x1.x19 e.x2.x6 H) (sq (sq (cv (fun e H => S104_3 call e.x0.x3 e.x0.x4 e.x0.x6 e.x1.x15 e.x1.x19 e.x2.x7 H) (sq (sq (cv (fun e H => S104_2 call e.x0.x3 e.x0.x4 e.x0.x6 e.x1.x15 e.x1.x19 e.x2.x8 H) (sq (sq (cv (fun e H => S104_1 call e.x0.x3 e.x0.x4 e.x0.x6 e.x1.x15 e.x1.x19 e.x2.x9 H) (sq (sq (cv (fun e H => S104_0 call e.x0.x3 e.x0.x4 e.x0.x6 e.x1.x15 e.x2.x10 H) se) se) se)) se) se)) se) se)) se) se)) se) se)) se) se)) se) se)) se) se)) se) se)) se) se)) se) se)) se) se)) se) se)) se) se)) se) se)) se) se)) se) se)) se) se)) se) se)) se) se)) se) se)) se) se)) se) se)) se) se)) se) se)) se) se)) se) se)) se) se)) se) se)) se) se)) se) se)) se) se)) se) se))) se) se))
theorem S105_ok : Stands Tryz.prog [] 1000000 105 S105 :=
  stands_of (s := S105) 14 [.cell (.some 3) 2, .tmp 3] 1 (fun call e H => S105_0 call e.x0.x0 H) (fun call _ H _ h => by obtain ⟨t0, rfl, h⟩ := argA1_eq h; exact ⟨rfl, (show _ = S105_0 call t0 H by kernel_rfl).trans h⟩)
    fun call => (cv (fun e H => S105_0 call e.x0.x0 H) se)
theorem S106_ok : Stands Tryz.prog [] 1000000 106 S106 :=
  stands_of (s := S106) 23 [.tmp 4] 2 (fun call e H => S106_5 call e.x0.x0 e.x0.x1 H) (fun call _ H _ h => by obtain ⟨t0, t1, rfl, h⟩ := argA2_eq h; exact ⟨rfl, (show _ = S106_5 call t0 t1 H by kernel_rfl).trans h⟩)
    fun call => (cv (fun e H => S106_5 call e.x0.x0 e.x0.x1 H) (sq (sq se (sq (sq (cv (fun e H => S106_4 call e.x0.x0 e.x0.x1 e.x0.x7 e.x0.x9 H) (sq (sq (cv (fun e H => S106_3 call e.x0.x0 e.x0.x1 e.x0.x11 e.x0.x13 H) (sq (sq (cv (fun e H => S106_2 call e.x0.x1 e.x0.x15 e.x0.x18 H) (sq (sq (cv (fun e H => S106_1 call e.x0.x15 e.x0.x18 e.x1.x0 H) (sq (sq (cv (fun e H => S106_0 call e.x0.x15 e.x1.x1 H) se) se) se)) se) se)) se) se)) se) se)) se) se)) se))
theorem S107_ok : Stands Tryz.prog [] 1000000 107 S107 :=
  stands_of (s := S107) 8 [.tmp 2] 1 (fun call e H => S107_0 call e.x0.x0 H) (fun call _ H _ h => by obtain ⟨t0, rfl, h⟩ := argA1_eq h; exact ⟨rfl, (show _ = S107_0 call t0 H by kernel_rfl).trans h⟩)
    fun call => (cv (fun e H => S107_0 call e.x0.x0 H) se)
theorem S108_ok : Stands Tryz.prog [] 1000000 108 S108 :=
  stands_of (s := S108) 98 [] 1 (fun call e H => S108_5 call e.x0.x0 H) (fun call _ H _ h => by obtain ⟨t0, rfl, h⟩ := argA1_eq h; exact ⟨rfl, (show _ = S108_5 call t0 H by kernel_rfl).trans h⟩)
    fun call => (cv (fun e H => S108_5 call e.x0.x0 H) (sq (bl (sq (cn se (sq (cn se (sq (cn se (sq (cn se (sq (cn (sq (cv (fun e H => S108_0 call e.x0.x0 H) se) se) se) se)) se)) (sq (sq (cv (fun e H => S108_3 call e.x0.x0 e.x0.x2 e.x1.x7 e.x1.x9 H) (sq (sq (cv (fun e H => S108_2 call e.x0.x0 e.x0.x2 e.x1.x11 e.x1.x13 H) (sq (sq (cv (fun e H => S108_1 call e.x0.x0 e.x0.x2 e.x1.x15 e.x1.x17 H) se) se) se)) se) se)) se) se))) se)) (sq (sq (cv (fun e H => S108_4 call e.x0.x0 e.x0.x2 e.x0.x13 e.x0.x15 H) se) se) se))) se))
theorem S109_ok : Stands Tryz.prog [] 1000000 109 S109 :=
  stands_of (s := S109) 8 [.tmp 2] 1 (fun call e H => S109_0 call e.x0.x0 H) (fun call _ H _ h => by obtain ⟨t0, rfl, h⟩ := argA1_eq h; exact ⟨rfl, (show _ = S109_0 call t0 H by kernel_rfl).trans h⟩)
    fun call => (cv (fun e H => S109_0 call e.x0.x0 H) se)
theorem S110_ok : Stands Tryz.prog [] 1000000 110 S110 :=
  stands_of (s := S110) 84 [.tmp 2] 1 (fun call e H => S110_10 call e.x0.x0 H) (fun call _ H _ h => by obtain ⟨t0, rfl, h⟩ := argA1_eq h; exact ⟨rfl, (show _ = S110_10 call t0 H by kernel_rfl).trans h⟩)
    fun call => (cv (fun e H => S110_10 call e.x0.x0 H) (sq (sq (sq (sq (sq se (sq (sq se (sq (sq (cv (fun e H => S110_1 call e.x0.x5 e.x3.x14 e.x3.x17 H) (sq (sq (cv (fun e H => S110_0 call e.x3.x19 e.x4.x2 H) se) se) se)) se) se)) se)) (bl (sq (cn se (sq se (sq (sq (cv (fun e H => S110_2 call e.x0.x1 e.x2.x17 e.x3.x3 H) se) se) se))) (sq (sq (cv (fun e H => S110_9 call e.x0.x1 e.x0.x4 e.x0.x11 e.x0.x15 H) (sq (sq (cv (fun e H => S110_8 call e.x0.x1 e.x0.x4 e.x0.x17 e.x1.x1 H) (sq (sq (cv (fun e H => S110_7 call e.x0.x1 e.x0.x4 e.x1.x3 e.x1.x7 H) (sq (sq (cv (fun e H => S110_6 call e.x0.x1 e.x1.x9 e.x1.x13 H) (sq (sq (cv (fun e H => S110_5 call e.x0.x1 e.x1.x15 e.x1.x19 H) (sq (sq (cv (fun e H => S110_4 call e.x0.x1 e.x2.x1 e.x2.x5 H) (sq (sq (cv (fun e H => S110_3 call e.x0.x1 e.x2.x7 e.x2.x11 H) se) se) se)) se) se)) se) se)) se) se)) se) se)) se) se)) se) se)))) se) se) se))
theorem S111_ok : Stands Tryz.prog [] 1000000 111 S111 :=
  stands_of (s := S111) 80 [.tmp 2] 1 (fun call e H => S111_12 call e.x0.x0 H) (fun call _ H _ h => by obtain ⟨t0, rfl, h⟩ := argA1_eq h; exact ⟨rfl, (show _ = S111_12 call t0 H by kernel_rfl).trans h⟩)
    fun call => (cv (fun e H => S111_12 call e.x0.x0 H) (sq (sq (sq se (sq (sq (cv (fun e H => S111_11 call e.x0.x1 e.x0.x3 e.x0.x10 e.x0.x13 H) (sq (sq (cv (fun e H => S111_10 call e.x0.x1 e.x0.x3 e.x0.x15 e.x0.x18 H) (sq (sq (cv (fun e H => S111_9 call e.x0.x1 e.x0.x3 e.x1.x0 e.x1.x3 H) (sq (sq (cv (fun e H => S111_8 call e.x0.x1 e.x0.x3 e.x1.x5 e.x1.x8 H) (sq (sq (cv (fun e H => S111_7 call e.x0.x1 e.x0.x3 e.x1.x10 e.x1.x15 H) (sq (sq (cv (fun e H => S111_6 call e.x0.x1 e.x0.x3 e.x1.x17 e.x2.x5 H) (sq (sq (cv (fun e H => S111_5 call e.x0.x1 e.x0.x3 e.x2.x7 e.x2.x13 H) (sq (sq (cv (fun e H => S111_4 call e.x0.x1 e.x0.x3 e.x2.x15 e.x2.x18 H) (sq (sq (cv (fun e H => S111_3 call e.x0.x1 e.x0.x3 e.x3.x0 e.x3.x3 H) (sq (sq (cv (fun e H => S111_2 call e.x0.x1 e.x0.x3 e.x3.x5 e.x3.x7 H) (sq (sq (cv (fun e H => S111_1 call e.x0.x1 e.x0.x3 e.x3.x9 e.x3.x11 H) (sq (sq (cv (fun e H => S111_0 call e.x3.x13 e.x3.x18 H) se) se) se)) se) se)) se) se)) se) se)) se) se)) se) se)) se) se)) se) se)) se) se)) se) se)) se) se)) se) se)) se) se))
theorem S112_ok : Stands Tryz.prog [] 1000000 112 S112 :=
  stands_of (s := S112) 9 [.tmp 4] 2 (fun call e H => S112_0 call e.x0.x0 e.x0.x1 H) (fun call _ H _ h => by obtain ⟨t0, t1, rfl, h⟩ := argA2_eq h; exact ⟨rfl, (show _ = S112_0 call t0 t1 H by kernel_rfl).trans h⟩)
    fun call => (cv (fun e H => S112_0 call e.x0.x0 e.x0.x1 H) se)
theorem S113_ok : Stands Tryz.prog [] 1000000 113 S113 :=
  stands_of (s := S113) 52 [.tmp 4] 2 (fun call e H => S113_0 call e.x0.x0 e.x0.x1 H) (fun call _ H _ h => by obtain ⟨t0, t1, rfl, h⟩ := argA2_eq h; exact ⟨rfl, (show _ = S113_0 call t0 t1 H by kernel_rfl).trans h⟩)
    fun call => (cv (fun e H => S113_0 call e.x0.x0 e.x0.x1 H) se)
theorem S114_ok : Stands Tryz.prog [] 1000000 114 S114 :=
  stands_of (s := S114) 8 [.tmp 4] 2 (fun call e H => S114_0 call e.x0.x0 e.x0.x1 H) (fun call _ H _ h => by obtain ⟨t0, t1, rfl, h⟩ := argA2_eq h; exact ⟨rfl, (show _ = S114_0 call t0 t1 H by kernel_rfl).trans h⟩)
    fun call => (cv (fun e H => S114_0 call e.x0.x0 e.x0.x1 H) se)
theorem S115_ok : Stands Tryz.prog [] 1000000 115 S115 :=
  stands_of (s := S115) 20 [.tmp 4] 2 (fun call e H => S115_0 call 1000000 e.x0.x0 e.x0.x1 (.int .i64 (.ofNat 0)) H) (fun call _ H _ h => by obtain ⟨t0, t1, rfl, h⟩ := argA2_eq h; exact ⟨rfl, (show _ = S115_0 call 1000000 t0 t1 (.int .i64 (.ofNat 0)) H by kernel_rfl).trans h⟩)
    fun call => (cv (fun e H => S115_0 call 1000000 e.x0.x0 e.x0.x1 (.int .i64 (.ofNat 0)) H) (sq (sq (sq se (bl (lp (fun n e H => S115_0 call n e.x0.x0 e.x0.x1 e.x0.x5 H) fun n0 => cv _ (sq se (sq se (sq (sq (cv (fun e H => S115_1 call (S115_0 call n0) e.x0.x0 e.x0.x1 e.x0.x5 e.x0.x10 e.x0.x15 H) se) se) se)))))) se) se))
theorem S117_ok : Stands Tryz.prog [] 1000000 117 S117 :=
  stands_of (s := S117) 21 [.tmp 2] 1 (fun call e H => S117_5 call e.x0.x0 H) (fun call _ H _ h => by obtain ⟨t0, rfl, h⟩ := argA1_eq h; exact ⟨rfl, (show _ = S117_5 call t0 H by kernel_rfl).trans h⟩)
    fun call => (cv (fun e H => S117_5 call e.x0.x0 H) (sq (sq se (sq (sq (cv (fun e H => S117_4 call e.x0.x0 e.x0.x5 e.x0.x7 H) (sq (sq (cv (fun e H => S117_3 call e.x0.x0 e.x0.x9 e.x0.x12 H) (sq (sq (cv (fun e H => S117_2 call e.x0.x0 e.x0.x9 e.x0.x12 e.x0.x14 H) (sq (sq (cv (fun e H => S117_1 call e.x0.x0 e.x0.x9 e.x0.x15 H) (sq (sq (cv (fun e H => S117_0 call e.x0.x17 e.x0.x19 H) se) se) se)) se) se)) se) se)) se) se)) se) se)) se))
theorem S118_ok : Stands Tryz.prog [] 1000000 118 S118 :=
  stands_of (s := S118) 9 [.tmp 2] 1 (fun call e H => S118_1 call e.x0.x0 H) (fun call _ H _ h => by obtain ⟨t0, rfl, h⟩ := argA1_eq h; exact ⟨rfl, (show _ = S118_1 call t0 H by kernel_rfl).trans h⟩)
    fun call => (cv (fun e H => S118_1 call e.x0.x0 H) (sq (sq se (sq (sq (cv (fun e H => S118_0 call e.x0.x5 e.x0.x7 H) se) se) se)) se))
theorem S119_ok : Stands Tryz.prog [] 1000000 119 S119 :=
  stands_of (s := S119) 29 [.tmp 2] 1 (fun call e H => S119_1 call e.x0.x0 H) (fun call _ H _ h => by obtain ⟨t0, rfl, h⟩ := argA1_eq h; exact ⟨rfl, (show _ = S119_1 call t0 H by kernel_rfl).trans h⟩)
    fun call => (cv (fun e H => S119_1 call e.x0.x0 H) (sq (sq se (sq (bl (sq (cv (fun e H => S119_0 call e.x0.x4 H) se) se)) se)) se))
theorem S120_ok : Stands Tryz.prog [] 1000000 120 S120 :=
  stands_of (s := S120) 9 [.tmp 2] 1 (fun call e H => S120_1 call e.x0.x0 H) (fun call _ H _ h => by obtain ⟨t0, rfl, h⟩ := argA1_eq h; exact ⟨rfl, (show _ = S120_1 call t0 H by kernel_rfl).trans h⟩)
    fun call => (cv (fun e H => S120_1 call e.x0.x0 H) (sq (sq se (sq (sq (cv (fun e H => S120_0 call e.x0.x5 e.x0.x7 H) se) se) se)) se))
theorem S121_ok : Stands Tryz.prog [] 1000000 121 S121 :=
  stands_of (s := S121) 26 [.tmp 6, .tmp 7] 3 (fun call e H => S121_0 call e.x0.x0 e.x0.x1 e.x0.x2 H) (fun call _ H _ h => by obtain ⟨t0, t1, t2, rfl, h⟩ := argA3_eq h; exact ⟨rfl, (show _ = S121_0 call t0 t1 t2 H by kernel_rfl).trans h⟩)
    fun call => (cv (fun e H => S121_0 call e.x0.x0 e.x0.x1 e.x0.x2 H) se)
theorem S122_ok : Stands Tryz.prog [] 1000000 122 S122 :=
  stands_of (s := S122) 2 [.tmp 0] 0 (fun call _ H => S122_0 call H) (fun call _ H _ h => by obtain ⟨rfl, h⟩ := argA0_eq h; exact ⟨rfl, (show _ = S122_0 call H by kernel_rfl).trans h⟩)
    fun call => (cv (fun _ H => S122_0 call H) se)
theorem S123_ok : Stands Tryz.prog [] 1000000 123 S123 :=
  stands_of (s := S123) 12 [.tmp 4] 2 (fun call e H => S123_0 call e.x0.x0 e.x0.x1 H) (fun call _ H _ h => by obtain ⟨t0, t1, rfl, h⟩ := argA2_eq h; exact ⟨rfl, (show _ = S123_0 call t0 t1 H by kernel_rfl).trans h⟩)
    fun call => (cv (fun e H => S123_0 call e.x0.x0 e.x0.x1 H) se)
theorem S124_ok : Stands Tryz.prog [] 1000000 124 S124 :=
  stands_of (s := S124) 12 [.cell (.some 3) 2] 1 (fun call e H => S124_0 call e.x0.x0 H) (fun call _ H _ h => by obtain ⟨t0, rfl, h⟩ := argA1_eq h; exact ⟨rfl, (show _ = S124_0 call t0 H by kernel_rfl).trans h⟩)
    fun call => (cv (fun e H => S124_0 call e.x0.x0 H) se)
theorem S125_ok : Stands Tryz.prog [] 1000000 125 S125 :=
  stands_of (s := S125) 15 [.cell (.some 3) 4] 2 (fun call e H => S125_0 call e.x0.x0 e.x0.x1 H) (fun call _ H _ h => by obtain ⟨t0, t1, rfl, h⟩ := argA2_eq h; exact ⟨rfl, (show _ = S125_0 call t0 t1 H by kernel_rfl).trans h⟩)
    fun call => (cv (fun e H => S125_0 call e.x0.x0 e.x0.x1 H) se)
theorem S126_ok : Stands Tryz.prog [] 1000000 126 S126 :=
  stands_of (s := S126) 27 [.tmp 4] 2 (fun call e H => S126_3 call e.x0.x0 e.x0.x1 H) (fun call _ H _ h => by obtain ⟨t0, t1, rfl, h⟩ := argA2_eq h; exact ⟨rfl, (show _ = S126_3 call t0 t1 H by kernel_rfl).trans h⟩)
    fun call => (cv (fun e H => S126_3 call e.x0.x0 e.x0.x1 H) (sq (sq (sq se (sq (sq (cv (fun e H => S126_2 call e.x0.x1 e.x0.x5 e.x0.x11 e.x0.x14 H) (sq (sq (cv (fun e H => S126_1 call e.x0.x1 e.x0.x5 e.x0.x16 e.x0.x19 H) (sq (sq (cv (fun e H => S126_0 call e.x1.x1 e.x1.x5 H) se) se) se)) se) se)) se) se)) se) se))
theorem S128_ok : Stands Tryz.prog [] 1000000 128 S128 :=
  stands_of (s := S128) 20 [.tmp 2] 1 (fun call e H => S128_0 call e.x0.x0 H) (fun call _ H _ h => by obtain ⟨t0, rfl, h⟩ := argA1_eq h; exact ⟨rfl, (show _ = S128_0 call t0 H by kernel_rfl).trans h⟩)
    fun call => (cv (fun e H => S128_0 call e.x0.x0 H) se)
theorem S129_ok : Stands Tryz.prog [] 1000000 129 S129 :=
  stands_of (s := S129) 28 [] 2 (fun call e H => S129_0 call e.x0.x0 e.x0.x1 H) (fun call _ H _ h => by obtain ⟨t0, t1, rfl, h⟩ := argA2_eq h; exact ⟨rfl, (show _ = S129_0 call t0 t1 H by kernel_rfl).trans h⟩)
    fun call => (cv (fun e H => S129_0 call e.x0.x0 e.x0.x1 H) se)
theorem S130_ok : Stands Tryz.prog [] 1000000 130 S130 :=
  stands_of (s := S130) 101 [.cell (.some 2) 2, .tmp 3] 1 (fun call e H => S130_7 call e.x0.x0 H) (fun call _ H _ h => by obtain ⟨t0, rfl, h⟩ := argA1_eq h; exact ⟨rfl, (show _ = S130_7 call t0 H by kernel_rfl).trans h⟩)
    fun call => (cv (fun e H => S130_7 call e.x0.x0 H) (sq (sq se (sq (bl (sq (cn se (sq (cn se (sq (cv (fun e H => S130_6 call e.x0.x2 e.x0.x4 e.x0.x11 H) (cn se (sq (cv (fun e H => S130_5 call e.x0.x2 e.x0.x4 e.x1.x0 H) (cn se (sq (cn se (sq (cv (fun e H => S130_4 call e.x0.x2 e.x0.x4 e.x1.x8 H) (cn se (sq (cn se (sq (cn se (sq (cv (fun e H => S130_3 call e.x0.x2 e.x0.x4 e.x2.x6 H) (cn se (sq (cv (fun e H => S130_2 call e.x0.x2 e.x0.x4 e.x2.x11 H) (cn se (sq (cn se (sq (cv (fun e H => S130_1 call e.x0.x2 e.x0.x4 e.x3.x2 H) (cn se (sq (cn se (sq (cv (fun e H => S130_0 call e.x0.x2 e.x0.x4 e.x3.x11 H) se) se)) se))) se)) se))) se))) se)) se)) se))) se)) se))) se))) se)) se)) se)) se)) se))
theorem S131_ok : Stands Tryz.prog [] 1000000 131 S131 :=
  stands_of (s := S131) 56 [.tmp 4] 2 (fun call e H => S131_1 call e.x0.x0 e.x0.x1 H) (fun call _ H _ h => by obtain ⟨t0, t1, rfl, h⟩ := argA2_eq h; exact ⟨rfl, (show _ = S131_1 call t0 t1 H by kernel_rfl).trans h⟩)
    fun call => (cv (fun e H => S131_1 call e.x0.x0 e.x0.x1 H) (sq (sq se (sq (sq (cn (sq se (sq (sq (cv (fun e H => S131_0 call e.x0.x16 e.x0.x19 H) se) se) se)) se) se) se)) se))
theorem S132_ok : Stands Tryz.prog [] 1000000 132 S132 :=
  stands_of (s := S132) 189 [] 2 (fun call e H => S132_13 call e.x0.x0 e.x0.x1 H) (fun call _ H _ h => by obtain ⟨t0, t1, rfl, h⟩ := argA2_eq h; exact ⟨rfl, (show _ = S132_13 call t0 t1 H by kernel_rfl).trans h⟩)
    fun call => (cv (fun e H => S132_13 call e.x0.x0 e.x0.x1 H) (sq (sq (sq (bl (sq (cn se (sq (cn (sq (sq se (sq (sq (cv (fun e H => S132_4 call e.x0.x0 e.x0.x3 e.x0.x4 e.x1.x8 e.x1.x14 e.x1.x15 e.x2.x1 H) (sq (sq (cv (fun e H => S132_3 call e.x0.x0 e.x0.x3 e.x0.x4 e.x1.x8 e.x1.x14 e.x1.x15 e.x1.x16 e.x2.x1 H) (sq (sq (cv (fun e H => S132_2 call e.x0.x0 e.x0.x3 e.x0.x4 e.x1.x8 e.x1.x14 e.x1.x15 e.x1.x17 e.x2.x1 H) (sq (sq (cv (fun e H => S132_1 call e.x0.x0 e.x0.x3 e.x0.x4 e.x1.x8 e.x1.x14 e.x1.x18 e.x2.x1 H) (sq (sq (cv (fun e H => S132_0 call e.x0.x0 e.x0.x3 e.x0.x4 e.x1.x8 e.x1.x14 e.x1.x19 e.x2.x1 H) se) se) se)) se) se)) se) se)) se) se)) se) se)) se) (sq (cn se (sq (cv (fun e H => S132_12 call e.x0.x0 e.x0.x3 e.x0.x4 e.x0.x15 e.x3.x8 H) (cn (sq (sq (bl (lp (fun n e H => S132_5 call n e.x0.x0 e.x3.x17 e.x3.x18 e.x3.x19 H) fun n0 => cv _ (sq (sq (sq (cv (fun e H => S132_6 call (S132_5 call n0) e.x0.x0 e.x3.x17 e.x3.x18 e.x3.x19 H) se) se) se) se))) se) se) (sq (cn se (sq (cn se (sq (cn se (sq (cn se (sq (cn se (sq (cn se (sq (cn (sq se (sq (sq (cv (fun e H => S132_11 call e.x0.x0 e.x0.x3 e.x0.x4 e.x7.x19 e.x8.x5 e.x8.x6 H) (sq (sq (cv (fun e H => S132_10 call e.x0.x0 e.x0.x3 e.x0.x4 e.x7.x19 e.x8.x5 e.x8.x7 H) (sq (sq (cv (fun e H => S132_9 call e.x0.x0 e.x0.x3 e.x0.x4 e.x7.x19 e.x8.x5 e.x8.x8 H) (sq (sq (cv (fun e H => S132_8 call e.x0.x0 e.x0.x3 e.x0.x4 e.x7.x19 e.x8.x5 e.x8.x9 H) (sq (sq (cv (fun e H => S132_7 call e.x0.x0 e.x0.x3 e.x0.x4 e.x7.x19 e.x8.x5 e.x8.x10 H) se) se) se)) se) se)) se) se)) se) se)) se) se)) se) se)) se)) se)) se)) se)) se)) se))) se)) se)) se)) se)) se) se) se))
theorem S135_ok : Stands Tryz.prog [] 1000000 135 S135 :=
  stands_of (s := S135) 129 [] 2 (fun call e H => S135_0 call e.x0.x0 e.x0.x1 H) (fun call _ H _ h => by obtain ⟨t0, t1, rfl, h⟩ := argA2_eq h; exact ⟨rfl, (show _ = S135_0 call t0 t1 H by kernel_rfl).trans h⟩)
    fun call => (cv (fun e H => S135_0 call e.x0.x0 e.x0.x1 H) se)
theorem S136_ok : Stands Tryz.prog [] 1000000 136 S136 :=
  stands_of (s := S136) 45 [.tmp 4] 2 (fun call e H => S136_1 call e.x0.x0 e.x0.x1 H) (fun call _ H _ h => by obtain ⟨t0, t1, rfl, h⟩ := argA2_eq h; exact ⟨rfl, (show _ = S136_1 call t0 t1 H by kernel_rfl).trans h⟩)
    fun call => (cv (fun e H => S136_1 call e.x0.x0 e.x0.x1 H) (sq (sq (sq (sq (sq se (sq (bl (lp (fun n e H => S136_0 call n e.x0.x5 e.x1.x12 e.x1.x13 e.x1.x14 H) fun _ => cv _ se)) se)) se) se) se) se))
theorem S137_ok : Stands Tryz.prog [] 1000000 137 S137 :=
  stands_of (s := S137) 53 [.tmp 4] 2 (fun call e H => S137_4 call e.x0.x0 e.x0.x1 H) (fun call _ H _ h => by obtain ⟨t0, t1, rfl, h⟩ := argA2_eq h; exact ⟨rfl, (show _ = S137_4 call t0 t1 H by kernel_rfl).trans h⟩)
    fun call => (cv (fun e H => S137_4 call e.x0.x0 e.x0.x1 H) (sq (sq (sq (sq (cv (fun e H => S137_0 call e.x0.x5 H) se) (sq (bl (lp (fun n e H => S137_1 call n e.x0.x2 e.x0.x3 e.x0.x5 e.x0.x6 e.x0.x7 H) fun n0 => cv _ (sq (bl (sq (sq (bl (lp (fun n e H => S137_2 call (S137_1 call n0) n e.x0.x2 e.x0.x3 e.x0.x5 e.x0.x6 e.x0.x7 e.x0.x8 H) fun n1 => cv _ (sq (sq (cv (fun e H => S137_3 call (S137_2 call (S137_1 call n0) n1) e.x0.x2 e.x0.x3 e.x0.x5 e.x0.x6 e.x0.x7 e.x0.x8 H) se) se) se))) se) se)) se))) se)) se) se) se))
end Go.Proofs.YtbjjgndgofakoaaGreatDoor
