/- They stand for their bodies: part 1. -/
import Derived.Test.YtooindilclphjaaGreatDoorLF1
import Derived.KernelRfl
namespace Go.Proofs.YtooindilclphjaaGreatDoor
open Go.Ab
set_option maxRecDepth 100000
theorem S82_ok : Stands Tryz.prog [] 1000000 82 S82 :=
  stands_of (s := S82) 52 [.tmp 4] 2 (fun call e H => S82_6 call e.x0.x0 e.x0.x1 H) (fun call _ H _ h => by obtain ⟨t0, t1, rfl, h⟩ := argA2_eq h; exact ⟨rfl, (show _ = S82_6 call t0 t1 H by kernel_rfl).trans h⟩)
    fun call => (cv (fun e H => S82_6 call e.x0.x0 e.x0.x1 H) (sq (sq (sq se (sq (bl (lp (fun n e H => S82_0 call n e.x0.x2 e.x0.x3 e.x0.x5 e.x0.x15 e.x0.x16 e.x0.x17 H) fun n0 => cv _ (sq (sq (sq (cv (fun e H => S82_1 call (S82_0 call n0) e.x0.x2 e.x0.x3 e.x0.x5 e.x0.x15 e.x0.x16 e.x0.x17 H) se) (bl (sq (sq (bl (lp (fun n e H => S82_2 call (S82_0 call n0) n e.x0.x2 e.x0.x3 e.x0.x5 e.x0.x6 e.x0.x15 e.x0.x16 e.x0.x17 e.x1.x4 e.x1.x5 e.x1.x6 H) fun n1 => cv _ (sq (sq (sq (cv (fun e H => S82_3 call (S82_2 call (S82_0 call n0) n1) e.x0.x2 e.x0.x3 e.x0.x5 e.x0.x6 e.x0.x15 e.x0.x16 e.x0.x17 e.x1.x4 e.x1.x5 e.x1.x6 H) se) (bl (sq (sq se (sq (sq (cv (fun e H => S82_5 call (S82_2 call (S82_0 call n0) n1) e.x0.x2 e.x0.x3 e.x0.x5 e.x0.x6 e.x0.x9 e.x0.x15 e.x0.x16 e.x0.x17 e.x1.x4 e.x1.x5 e.x1.x6 e.x1.x12 e.x1.x15 H) (sq (sq (cv (fun e H => S82_4 call (S82_2 call (S82_0 call n0) n1) e.x0.x2 e.x0.x3 e.x0.x5 e.x0.x6 e.x0.x9 e.x0.x15 e.x0.x16 e.x0.x17 e.x1.x4 e.x1.x5 e.x1.x6 e.x1.x17 e.x2.x4 H) se) se) se)) se) se)) se))) se) se))) se) se))) se) se))) se)) se) se))
theorem S84_ok : Stands Tryz.prog [] 1000000 84 S84 :=
  stands_of (s := S84) 45 [.tmp 4, .tmp 5] 2 (fun call e H => S84_4 call e.x0.x0 e.x0.x1 H) (fun call _ H _ h => by obtain ⟨t0, t1, rfl, h⟩ := argA2_eq h; exact ⟨rfl, (show _ = S84_4 call t0 t1 H by kernel_rfl).trans h⟩)
    fun call => (cv (fun e H => S84_4 call e.x0.x0 e.x0.x1 H) (sq (sq se (sq se (sq (sq (cv (fun e H => S84_3 call e.x0.x2 e.x0.x3 e.x0.x9 e.x0.x12 H) (sq (sq (cv (fun e H => S84_2 call e.x0.x2 e.x0.x3 e.x0.x14 e.x0.x17 H) (sq (sq (cv (fun e H => S84_1 call e.x0.x2 e.x0.x3 e.x0.x19 e.x1.x5 H) (sq (sq (cv (fun e H => S84_0 call e.x0.x3 e.x1.x7 e.x1.x16 H) se) se) se)) se) se)) se) se)) se) se))) se))
theorem S85_ok : Stands Tryz.prog [] 1000000 85 S85 :=
  stands_of (s := S85) 19 [.tmp 4] 2 (fun call e H => S85_1 call e.x0.x0 e.x0.x1 H) (fun call _ H _ h => by obtain ⟨t0, t1, rfl, h⟩ := argA2_eq h; exact ⟨rfl, (show _ = S85_1 call t0 t1 H by kernel_rfl).trans h⟩)
    fun call => (cv (fun e H => S85_1 call e.x0.x0 e.x0.x1 H) (sq (sq se (sq (bl (lp (fun n e H => S85_0 call n e.x0.x0 e.x0.x1 e.x0.x7 e.x0.x8 H) fun _ => cv _ se)) se)) se))
theorem S86_ok : Stands Tryz.prog [] 1000000 86 S86 :=
  stands_of (s := S86) 47 [.tmp 4] 2 (fun call e H => S86_4 call e.x0.x0 e.x0.x1 H) (fun call _ H _ h => by obtain ⟨t0, t1, rfl, h⟩ := argA2_eq h; exact ⟨rfl, (show _ = S86_4 call t0 t1 H by kernel_rfl).trans h⟩)
    fun call => (cv (fun e H => S86_4 call e.x0.x0 e.x0.x1 H) (sq (sq (sq (cv (fun e H => S86_1 call e.x0.x2 e.x0.x3 e.x0.x5 H) (sq (sq se (sq (bl (lp (fun n e H => S86_0 call n e.x0.x5 e.x0.x8 e.x1.x14 e.x1.x15 H) fun _ => cv _ se)) se)) se)) (sq (bl (lp (fun n e H => S86_2 call n e.x0.x2 e.x0.x3 e.x0.x5 e.x0.x16 e.x0.x17 e.x0.x18 H) fun n1 => cv _ (sq (sq (sq (cv (fun e H => S86_3 call (S86_2 call n1) e.x0.x2 e.x0.x3 e.x0.x5 e.x0.x16 e.x0.x17 e.x0.x18 H) se) se) se) se))) se)) se) se))
theorem S87_ok : Stands Tryz.prog [] 1000000 87 S87 :=
  stands_of (s := S87) 110 [.tmp 4] 2 (fun call e H => S87_8 call e.x0.x0 e.x0.x1 H) (fun call _ H _ h => by obtain ⟨t0, t1, rfl, h⟩ := argA2_eq h; exact ⟨rfl, (show _ = S87_8 call t0 t1 H by kernel_rfl).trans h⟩)
    fun call => (cv (fun e H => S87_8 call e.x0.x0 e.x0.x1 H) (sq (sq (sq (sq (sq (cv (fun e H => S87_2 call e.x0.x5 e.x0.x6 H) (sq (sq se (sq (bl (lp (fun n e H => S87_0 call n e.x0.x5 e.x0.x16 e.x4.x14 e.x4.x15 e.x4.x16 H) fun n0 => cv _ (sq (sq (sq se (bl (sq (sq (cv (fun e H => S87_1 call (S87_0 call n0) e.x0.x5 e.x0.x16 e.x0.x18 e.x4.x14 e.x4.x15 e.x4.x16 H) se) se) se))) se) se))) se)) se)) (sq (bl (lp (fun n e H => S87_3 call n e.x0.x2 e.x0.x3 e.x0.x5 e.x0.x6 e.x0.x7 H) fun n1 => cv _ (sq (bl (sq (sq (bl (lp (fun n e H => S87_4 call (S87_3 call n1) n e.x0.x2 e.x0.x3 e.x0.x5 e.x0.x6 e.x0.x7 e.x1.x16 e.x1.x17 e.x1.x18 H) fun n2 => cv _ (sq (sq (sq (cv (fun e H => S87_5 call (S87_4 call (S87_3 call n1) n2) e.x0.x2 e.x0.x3 e.x0.x5 e.x0.x6 e.x0.x7 e.x1.x16 e.x1.x17 e.x1.x18 H) se) (bl (sq (sq (sq (sq (sq (sq (bl (lp (fun n e H => S87_6 call (S87_4 call (S87_3 call n1) n2) n e.x0.x2 e.x0.x3 e.x0.x5 e.x0.x6 e.x0.x7 e.x0.x11 e.x1.x16 e.x1.x17 e.x1.x18 e.x3.x5 e.x3.x6 e.x3.x7 H) fun n3 => cv _ (sq (sq (sq (cv (fun e H => S87_7 call (S87_6 call (S87_4 call (S87_3 call n1) n2) n3) e.x0.x2 e.x0.x3 e.x0.x5 e.x0.x6 e.x0.x7 e.x0.x11 e.x1.x16 e.x1.x17 e.x1.x18 e.x3.x5 e.x3.x6 e.x3.x7 H) se) se) se) se))) se) se) se) se) se) se))) se) se))) se) se)) se))) se)) se) se) se) se))
theorem S89_ok : Stands Tryz.prog [] 1000000 89 S89 :=
  stands_of (s := S89) 15 [.tmp 2] 1 (fun call e H => S89_0 call e.x0.x0 H) (fun call _ H _ h => by obtain ⟨t0, rfl, h⟩ := argA1_eq h; exact ⟨rfl, (show _ = S89_0 call t0 H by kernel_rfl).trans h⟩)
    fun call => (cv (fun e H => S89_0 call e.x0.x0 H) se)
theorem S93_ok : Stands Tryz.prog [] 1000000 93 S93 :=
  stands_of (s := S93) 11 [.tmp 2] 1 (fun call e H => S93_0 call e.x0.x0 H) (fun call _ H _ h => by obtain ⟨t0, rfl, h⟩ := argA1_eq h; exact ⟨rfl, (show _ = S93_0 call t0 H by kernel_rfl).trans h⟩)
    fun call => (cv (fun e H => S93_0 call e.x0.x0 H) se)
theorem S94_ok : Stands Tryz.prog [] 1000000 94 S94 :=
  stands_of (s := S94) 46 [.tmp 4, .tmp 5] 2 (fun call e H => S94_2 call e.x0.x0 e.x0.x1 H) (fun call _ H _ h => by obtain ⟨t0, t1, rfl, h⟩ := argA2_eq h; exact ⟨rfl, (show _ = S94_2 call t0 t1 H by kernel_rfl).trans h⟩)
    fun call => (cv (fun e H => S94_2 call e.x0.x0 e.x0.x1 H) (sq (sq (sq (sq (sq (cv (fun e H => S94_0 call e.x0.x1 e.x0.x8 H) se) (sq (bl (lp (fun n e H => S94_1 call n e.x0.x1 e.x0.x6 e.x0.x8 e.x1.x4 e.x1.x5 e.x1.x6 H) fun _ => cv _ se)) se)) se) se) se) se))
theorem S95_ok : Stands Tryz.prog [] 1000000 95 S95 :=
  stands_of (s := S95) 61 [.cell (.some 6) 2] 1 (fun call e H => S95_2 call e.x0.x0 H) (fun call _ H _ h => by obtain ⟨t0, rfl, h⟩ := argA1_eq h; exact ⟨rfl, (show _ = S95_2 call t0 H by kernel_rfl).trans h⟩)
    fun call => (cv (fun e H => S95_2 call e.x0.x0 H) (sq (sq (sq (sq (cv (fun e H => S95_0 call e.x0.x1 e.x0.x2 H) se) (sq (bl (lp (fun n e H => S95_1 call n e.x0.x1 e.x0.x2 e.x1.x7 e.x1.x8 H) fun _ => cv _ se)) se)) se) se) se))
theorem S96_ok : Stands Tryz.prog [] 1000000 96 S96 :=
  stands_of (s := S96) 7 [.tmp 2] 1 (fun call e H => S96_0 call e.x0.x0 H) (fun call _ H _ h => by obtain ⟨t0, rfl, h⟩ := argA1_eq h; exact ⟨rfl, (show _ = S96_0 call t0 H by kernel_rfl).trans h⟩)
    fun call => (cv (fun e H => S96_0 call e.x0.x0 H) se)
theorem S97_ok : Stands Tryz.prog [] 1000000 97 S97 :=
  stands_of (s := S97) 49 [.tmp 6, .tmp 7] 3 (fun call e H => S97_0 call e.x0.x0 e.x0.x1 e.x0.x2 H) (fun call _ H _ h => by obtain ⟨t0, t1, t2, rfl, h⟩ := argA3_eq h; exact ⟨rfl, (show _ = S97_0 call t0 t1 t2 H by kernel_rfl).trans h⟩)
    fun call => (cv (fun e H => S97_0 call e.x0.x0 e.x0.x1 e.x0.x2 H) se)
theorem S98_ok : Stands Tryz.prog [] 1000000 98 S98 :=
  stands_of (s := S98) 23 [] 1 (fun call e H => S98_11 call e.x0.x0 H) (fun call _ H _ h => by obtain ⟨t0, rfl, h⟩ := argA1_eq h; exact ⟨rfl, (show _ = S98_11 call t0 H by kernel_rfl).trans h⟩)
    fun call => (cv (fun e H => S98_11 call e.x0.x0 H) (sq se (sq (sq (cv (fun e H => S98_10 call e.x0.x0 e.x0.x7 e.x0.x8 H) (sq (sq (cv (fun e H => S98_9 call e.x0.x0 e.x0.x7 e.x0.x9 H) (sq (sq (cv (fun e H => S98_8 call e.x0.x0 e.x0.x7 e.x0.x10 H) (sq (sq (cv (fun e H => S98_7 call e.x0.x0 e.x0.x7 e.x0.x11 H) (sq (sq (cv (fun e H => S98_6 call e.x0.x0 e.x0.x7 e.x0.x11 e.x0.x12 H) (sq (sq (cv (fun e H => S98_5 call e.x0.x0 e.x0.x7 e.x0.x11 e.x0.x13 H) (sq (sq (cv (fun e H => S98_4 call e.x0.x0 e.x0.x7 e.x0.x11 e.x0.x14 H) (sq (sq (cv (fun e H => S98_3 call e.x0.x0 e.x0.x7 e.x0.x11 e.x0.x15 H) (sq (sq (cv (fun e H => S98_2 call e.x0.x0 e.x0.x7 e.x0.x16 H) (sq (sq (cv (fun e H => S98_1 call e.x0.x0 e.x0.x7 e.x0.x17 H) (sq (sq (cv (fun e H => S98_0 call e.x0.x0 e.x0.x7 e.x0.x18 H) se) se) se)) se) se)) se) se)) se) se)) se) se)) se) se)) se) se)) se) se)) se) se)) se) se)) se) se)))
theorem S99_ok : Stands Tryz.prog [] 1000000 99 S99 :=
  stands_of (s := S99) 12 [.tmp 2, .tmp 3] 1 (fun call e H => S99_0 call e.x0.x0 H) (fun call _ H _ h => by obtain ⟨t0, rfl, h⟩ := argA1_eq h; exact ⟨rfl, (show _ = S99_0 call t0 H by kernel_rfl).trans h⟩)
    fun call => (cv (fun e H => S99_0 call e.x0.x0 H) se)
theorem S104_ok : Stands Tryz.prog [] 1000000 104 S104 :=
  stands_of (s := S104) 8 [.tmp 2] 1 (fun call e H => S104_0 call e.x0.x0 H) (fun call _ H _ h => by obtain ⟨t0, rfl, h⟩ := argA1_eq h; exact ⟨rfl, (show _ = S104_0 call t0 H by kernel_rfl).trans h⟩)
    fun call => (cv (fun e H => S104_0 call e.x0.x0 H) se)
theorem S105_ok : Stands Tryz.prog [] 1000000 105 S105 :=
  stands_of (s := S105) 7 [.tmp 2] 1 (fun call e H => S105_0 call e.x0.x0 H) (fun call _ H _ h => by obtain ⟨t0, rfl, h⟩ := argA1_eq h; exact ⟨rfl, (show _ = S105_0 call t0 H by kernel_rfl).trans h⟩)
    fun call => (cv (fun e H => S105_0 call e.x0.x0 H) se)
theorem S106_ok : Stands Tryz.prog [] 1000000 106 S106 :=
  stands_of (s := S106) 7 [.tmp 2] 1 (fun call e H => S106_0 call e.x0.x0 H) (fun call _ H _ h => by obtain ⟨t0, rfl, h⟩ := argA1_eq h; exact ⟨rfl, (show _ = S106_0 call t0 H by kernel_rfl).trans h⟩)
    fun call => (cv (fun e H => S106_0 call e.x0.x0 H) se)
theorem S107_ok : Stands Tryz.prog [] 1000000 107 S107 :=
  stands_of (s := S107) 7 [.tmp 2] 1 (fun call e H => S107_0 call e.x0.x0 H) (fun call _ H _ h => by obtain ⟨t0, rfl, h⟩ := argA1_eq h; exact ⟨rfl, (show _ = S107_0 call t0 H by kernel_rfl).trans h⟩)
    fun call => (cv (fun e H => S107_0 call e.x0.x0 H) se)
theorem S108_ok : Stands Tryz.prog [] 1000000 108 S108 :=
  stands_of (s := S108) 7 [.tmp 2] 1 (fun call e H => S108_0 call e.x0.x0 H) (fun call _ H _ h => by obtain ⟨t0, rfl, h⟩ := argA1_eq h; exact ⟨rfl, (show _ = S108_0 call t0 H by kernel_rfl).trans h⟩)
    fun call => (cv (fun e H => S108_0 call e.x0.x0 H) se)
theorem S109_ok : Stands Tryz.prog [] 1000000 109 S109 :=
  stands_of (s := S109) 8 [.tmp 2] 1 (fun call e H => S109_0 call e.x0.x0 H) (fun call _ H _ h => by obtain ⟨t0, rfl, h⟩ := argA1_eq h; exact ⟨rfl, (show _ = S109_0 call t0 H by kernel_rfl).trans h⟩)
    fun call => (cv (fun e H => S109_0 call e.x0.x0 H) se)
theorem S114_ok : Stands Tryz.prog [] 1000000 114 S114 :=
  stands_of (s := S114) 143 [.tmp 4] 2 (fun call e H => S114_8 call e.x0.x0 e.x0.x1 H) (fun call _ H _ h => by obtain ⟨t0, t1, rfl, h⟩ := argA2_eq h; exact ⟨rfl, (show _ = S114_8 call t0 t1 H by kernel_rfl).trans h⟩)
    fun call => (cv (fun e H => S114_8 call e.x0.x0 e.x0.x1 H) (sq (sq (sq (sq (sq (sq (sq (sq (sq se (bl (lp (fun n e H => S114_0 call n e.x0.x0 e.x0.x1 e.x0.x5 e.x0.x6 e.x0.x7 e.x0.x8 e.x0.x9 e.x0.x10 H) fun n0 => cv _ (sq (bl (sq (cv (fun e H => S114_5 call (S114_0 call n0) e.x0.x0 e.x0.x1 e.x0.x5 e.x0.x6 e.x0.x7 e.x0.x8 e.x0.x9 e.x0.x10 H) (sq (sq (sq (sq (cn se (sq se (sq (sq (cv (fun e H => S114_2 call (S114_0 call n0) e.x0.x0 e.x0.x1 e.x0.x5 e.x0.x6 e.x0.x7 e.x0.x8 e.x0.x9 e.x0.x10 e.x6.x1 e.x6.x6 H) (sq (sq (cv (fun e H => S114_1 call (S114_0 call n0) e.x0.x0 e.x0.x1 e.x0.x5 e.x0.x6 e.x0.x7 e.x0.x8 e.x0.x9 e.x0.x10 e.x6.x8 e.x6.x11 H) se) se) se)) se) se))) (sq (sq (cv (fun e H => S114_3 call (S114_0 call n0) e.x0.x0 e.x0.x1 e.x0.x5 e.x0.x6 e.x0.x7 e.x0.x8 e.x0.x9 e.x0.x10 e.x5.x2 e.x5.x6 H) se) se) se)) se) se) (sq se (sq (sq (cv (fun e H => S114_4 call (S114_0 call n0) e.x0.x0 e.x0.x1 e.x0.x5 e.x0.x6 e.x0.x7 e.x0.x8 e.x0.x9 e.x0.x10 e.x4.x4 e.x4.x12 H) se) se) se)))) se)) se)))) se) se) se) se) se) (bl (sq (cn se (sq (cn se (sq (cn se (sq se (sq (sq (cv (fun e H => S114_6 call e.x0.x0 e.x0.x1 e.x0.x5 e.x2.x0 e.x2.x3 H) se) se) se))) se)) se)) (sq (sq (cv (fun e H => S114_7 call e.x0.x0 e.x0.x1 e.x0.x5 e.x0.x19 e.x1.x2 H) se) se) se)))) se) se))
theorem S115_ok : Stands Tryz.prog [] 1000000 115 S115 :=
  stands_of (s := S115) 77 [.tmp 2, .tmp 3] 1 (fun call e H => S115_13 call e.x0.x0 H) (fun call _ H _ h => by obtain ⟨t0, rfl, h⟩ := argA1_eq h; exact ⟨rfl, (show _ = S115_13 call t0 H by kernel_rfl).trans h⟩)
    fun call => (cv (fun e H => S115_13 call e.x0.x0 H) (sq (sq (sq (cv (fun e H => S115_0 call e.x0.x0 H) se) (sq (cn (sq (sq (cv (fun e H => S115_3 call e.x0.x0 e.x0.x5 H) (sq (sq (cv (fun e H => S115_1 call e.x0.x5 e.x0.x6 H) se) (sq (bl (lp (fun n e H => S115_2 call n e.x0.x5 e.x0.x6 e.x2.x7 e.x2.x8 e.x2.x9 H) fun _ => cv _ se)) se)) se)) (sq se (sq (sq (cv (fun e H => S115_4 call e.x0.x0 e.x0.x5 e.x1.x15 e.x1.x18 H) se) se) se))) se) se) (sq (sq (cv (fun e H => S115_12 call e.x0.x0 e.x0.x4 e.x0.x13 e.x0.x16 H) (sq (sq (cv (fun e H => S115_11 call e.x0.x0 e.x0.x4 e.x0.x13 e.x0.x16 e.x0.x18 H) (sq (sq (cv (fun e H => S115_10 call e.x0.x0 e.x0.x4 e.x0.x13 e.x0.x19 H) (sq (sq (cv (fun e H => S115_9 call e.x0.x0 e.x0.x4 e.x1.x1 e.x1.x2 H) (sq (sq (cv (fun e H => S115_8 call e.x0.x0 e.x0.x4 e.x1.x1 e.x1.x2 e.x1.x5 H) (sq (sq (cv (fun e H => S115_7 call e.x0.x0 e.x1.x1 e.x1.x2 e.x1.x5 e.x1.x7 H) (sq (sq (cv (fun e H => S115_6 call e.x0.x0 e.x1.x1 e.x1.x2 e.x1.x8 H) (sq (sq (cv (fun e H => S115_5 call e.x0.x0 e.x1.x1 e.x1.x9 H) se) se) se)) se) se)) se) se)) se) se)) se) se)) se) se)) se) se)) se) se))) se) se))
theorem S117_ok : Stands Tryz.prog [] 1000000 117 S117 :=
  stands_of (s := S117) 13 [.tmp 4] 2 (fun call e H => S117_0 call e.x0.x0 e.x0.x1 H) (fun call _ H _ h => by obtain ⟨t0, t1, rfl, h⟩ := argA2_eq h; exact ⟨rfl, (show _ = S117_0 call t0 t1 H by kernel_rfl).trans h⟩)
    fun call => (cv (fun e H => S117_0 call e.x0.x0 e.x0.x1 H) se)
theorem S118_ok : Stands Tryz.prog [] 1000000 118 S118 :=
  stands_of (s := S118) 8 [.tmp 4] 2 (fun call e H => S118_0 call e.x0.x0 e.x0.x1 H) (fun call _ H _ h => by obtain ⟨t0, t1, rfl, h⟩ := argA2_eq h; exact ⟨rfl, (show _ = S118_0 call t0 t1 H by kernel_rfl).trans h⟩)
    fun call => (cv (fun e H => S118_0 call e.x0.x0 e.x0.x1 H) se)
theorem S119_ok : Stands Tryz.prog [] 1000000 119 S119 :=
  stands_of (s := S119) 20 [.tmp 4] 2 (fun call e H => S119_0 call 1000000 e.x0.x0 e.x0.x1 (.int .i64 (.ofNat 0)) H) (fun call _ H _ h => by obtain ⟨t0, t1, rfl, h⟩ := argA2_eq h; exact ⟨rfl, (show _ = S119_0 call 1000000 t0 t1 (.int .i64 (.ofNat 0)) H by kernel_rfl).trans h⟩)
    fun call => (cv (fun e H => S119_0 call 1000000 e.x0.x0 e.x0.x1 (.int .i64 (.ofNat 0)) H) (sq (sq (sq se (bl (lp (fun n e H => S119_0 call n e.x0.x0 e.x0.x1 e.x0.x5 H) fun n0 => cv _ (sq se (sq se (sq (sq (cv (fun e H => S119_1 call (S119_0 call n0) e.x0.x0 e.x0.x1 e.x0.x5 e.x0.x10 e.x0.x15 H) se) se) se)))))) se) se))
theorem S121_ok : Stands Tryz.prog [] 1000000 121 S121 :=
  stands_of (s := S121) 21 [.tmp 2] 1 (fun call e H => S121_5 call e.x0.x0 H) (fun call _ H _ h => by obtain ⟨t0, rfl, h⟩ := argA1_eq h; exact ⟨rfl, (show _ = S121_5 call t0 H by kernel_rfl).trans h⟩)
    fun call => (cv (fun e H => S121_5 call e.x0.x0 H) (sq (sq se (sq (sq (cv (fun e H => S121_4 call e.x0.x0 e.x0.x5 e.x0.x7 H) (sq (sq (cv (fun e H => S121_3 call e.x0.x0 e.x0.x9 e.x0.x12 H) (sq (sq (cv (fun e H => S121_2 call e.x0.x0 e.x0.x9 e.x0.x12 e.x0.x14 H) (sq (sq (cv (fun e H => S121_1 call e.x0.x0 e.x0.x9 e.x0.x15 H) (sq (sq (cv (fun e H => S121_0 call e.x0.x17 e.x0.x19 H) se) se) se)) se) se)) se) se)) se) se)) se) se)) se))
theorem S122_ok : Stands Tryz.prog [] 1000000 122 S122 :=
  stands_of (s := S122) 9 [.tmp 2] 1 (fun call e H => S122_1 call e.x0.x0 H) (fun call _ H _ h => by obtain ⟨t0, rfl, h⟩ := argA1_eq h; exact ⟨rfl, (show _ = S122_1 call t0 H by kernel_rfl).trans h⟩)
    fun call => (cv (fun e H => S122_1 call e.x0.x0 H) (sq (sq se (sq (sq (cv (fun e H => S122_0 call e.x0.x5 e.x0.x7 H) se) se) se)) se))
theorem S123_ok : Stands Tryz.prog [] 1000000 123 S123 :=
  stands_of (s := S123) 29 [.tmp 2] 1 (fun call e H => S123_1 call e.x0.x0 H) (fun call _ H _ h => by obtain ⟨t0, rfl, h⟩ := argA1_eq h; exact ⟨rfl, (show _ = S123_1 call t0 H by kernel_rfl).trans h⟩)
    fun call => (cv (fun e H => S123_1 call e.x0.x0 H) (sq (sq se (sq (bl (sq (cv (fun e H => S123_0 call e.x0.x4 H) se) se)) se)) se))
theorem S124_ok : Stands Tryz.prog [] 1000000 124 S124 :=
  stands_of (s := S124) 9 [.tmp 2] 1 (fun call e H => S124_1 call e.x0.x0 H) (fun call _ H _ h => by obtain ⟨t0, rfl, h⟩ := argA1_eq h; exact ⟨rfl, (show _ = S124_1 call t0 H by kernel_rfl).trans h⟩)
    fun call => (cv (fun e H => S124_1 call e.x0.x0 H) (sq (sq se (sq (sq (cv (fun e H => S124_0 call e.x0.x5 e.x0.x7 H) se) se) se)) se))
theorem S126_ok : Stands Tryz.prog [] 1000000 126 S126 :=
  stands_of (s := S126) 2 [.tmp 0] 0 (fun call _ H => S126_0 call H) (fun call _ H _ h => by obtain ⟨rfl, h⟩ := argA0_eq h; exact ⟨rfl, (show _ = S126_0 call H by kernel_rfl).trans h⟩)
    fun call => (cv (fun _ H => S126_0 call H) se)
theorem S127_ok : Stands Tryz.prog [] 1000000 127 S127 :=
  stands_of (s := S127) 12 [.tmp 4] 2 (fun call e H => S127_0 call e.x0.x0 e.x0.x1 H) (fun call _ H _ h => by obtain ⟨t0, t1, rfl, h⟩ := argA2_eq h; exact ⟨rfl, (show _ = S127_0 call t0 t1 H by kernel_rfl).trans h⟩)
    fun call => (cv (fun e H => S127_0 call e.x0.x0 e.x0.x1 H) se)
theorem S128_ok : Stands Tryz.prog [] 1000000 128 S128 :=
  stands_of (s := S128) 12 [.cell (.some 3) 2] 1 (fun call e H => S128_0 call e.x0.x0 H) (fun call _ H _ h => by obtain ⟨t0, rfl, h⟩ := argA1_eq h; exact ⟨rfl, (show _ = S128_0 call t0 H by kernel_rfl).trans h⟩)
    fun call => (cv (fun e H => S128_0 call e.x0.x0 H) se)
theorem S129_ok : Stands Tryz.prog [] 1000000 129 S129 :=
  stands_of (s := S129) 15 [.cell (.some 3) 4] 2 (fun call e H => S129_0 call e.x0.x0 e.x0.x1 H) (fun call _ H _ h => by obtain ⟨t0, t1, rfl, h⟩ := argA2_eq h; exact ⟨rfl, (show _ = S129_0 call t0 t1 H by kernel_rfl).trans h⟩)
    fun call => (cv (fun e H => S129_0 call e.x0.x0 e.x0.x1 H) se)
theorem S130_ok : Stands Tryz.prog [] 1000000 130 S130 :=
  stands_of (s := S130) 27 [.tmp 4] 2 (fun call e H => S130_3 call e.x0.x0 e.x0.x1 H) (fun call _ H _ h => by obtain ⟨t0, t1, rfl, h⟩ := argA2_eq h; exact ⟨rfl, (show _ = S130_3 call t0 t1 H by kernel_rfl).trans h⟩)
    fun call => (cv (fun e H => S130_3 call e.x0.x0 e.x0.x1 H) (sq (sq (sq se (sq (sq (cv (fun e H => S130_2 call e.x0.x1 e.x0.x5 e.x0.x11 e.x0.x14 H) (sq (sq (cv (fun e H => S130_1 call e.x0.x1 e.x0.x5 e.x0.x16 e.x0.x19 H) (sq (sq (cv (fun e H => S130_0 call e.x1.x1 e.x1.x5 H) se) se) se)) se) se)) se) se)) se) se))
theorem S132_ok : Stands Tryz.prog [] 1000000 132 S132 :=
  stands_of (s := S132) 20 [.tmp 2] 1 (fun call e H => S132_0 call e.x0.x0 H) (fun call _ H _ h => by obtain ⟨t0, rfl, h⟩ := argA1_eq h; exact ⟨rfl, (show _ = S132_0 call t0 H by kernel_rfl).trans h⟩)
    fun call => (cv (fun e H => S132_0 call e.x0.x0 H) se)
theorem S133_ok : Stands Tryz.prog [] 1000000 133 S133 :=
  stands_of (s := S133) 28 [] 2 (fun call e H => S133_0 call e.x0.x0 e.x0.x1 H) (fun call _ H _ h => by obtain ⟨t0, t1, rfl, h⟩ := argA2_eq h; exact ⟨rfl, (show _ = S133_0 call t0 t1 H by kernel_rfl).trans h⟩)
    fun call => (cv (fun e H => S133_0 call e.x0.x0 e.x0.x1 H) se)
theorem S134_ok : Stands Tryz.prog [] 1000000 134 S134 :=
  stands_of (s := S134) 101 [.cell (.some 2) 2, .tmp 3] 1 (fun call e H => S134_7 call e.x0.x0 H) (fun call _ H _ h => by obtain ⟨t0, rfl, h⟩ := argA1_eq h; exact ⟨rfl, (show _ = S134_7 call t0 H by kernel_rfl).trans h⟩)
    fun call => (cv (fun e H => S134_7 call e.x0.x0 H) (sq (sq se (sq (bl (sq (cn se (sq (cn se (sq (cv (fun e H => S134_6 call e.x0.x2 e.x0.x4 e.x0.x11 H) (cn se (sq (cv (fun e H => S134_5 call e.x0.x2 e.x0.x4 e.x1.x0 H) (cn se (sq (cn se (sq (cv (fun e H => S134_4 call e.x0.x2 e.x0.x4 e.x1.x8 H) (cn se (sq (cn se (sq (cn se (sq (cv (fun e H => S134_3 call e.x0.x2 e.x0.x4 e.x2.x6 H) (cn se (sq (cv (fun e H => S134_2 call e.x0.x2 e.x0.x4 e.x2.x11 H) (cn se (sq (cn se (sq (cv (fun e H => S134_1 call e.x0.x2 e.x0.x4 e.x3.x2 H) (cn se (sq (cn se (sq (cv (fun e H => S134_0 call e.x0.x2 e.x0.x4 e.x3.x11 H) se) se)) se))) se)) se))) se))) se)) se)) se))) se)) se))) se))) se)) se)) se)) se)) se))
theorem S135_ok : Stands Tryz.prog [] 1000000 135 S135 :=
  stands_of (s := S135) 56 [.tmp 4] 2 (fun call e H => S135_1 call e.x0.x0 e.x0.x1 H) (fun call _ H _ h => by obtain ⟨t0, t1, rfl, h⟩ := argA2_eq h; exact ⟨rfl, (show _ = S135_1 call t0 t1 H by kernel_rfl).trans h⟩)
    fun call => (cv (fun e H => S135_1 call e.x0.x0 e.x0.x1 H) (sq (sq se (sq (sq (cn (sq se (sq (sq (cv (fun e H => S135_0 call e.x0.x16 e.x0.x19 H) se) se) se)) se) se) se)) se))
theorem S140_ok : Stands Tryz.prog [] 1000000 140 S140 :=
  stands_of (s := S140) 84 [.tmp 2] 1 (fun call e H => S140_10 call e.x0.x0 H) (fun call _ H _ h => by obtain ⟨t0, rfl, h⟩ := argA1_eq h; exact ⟨rfl, (show _ = S140_10 call t0 H by kernel_rfl).trans h⟩)
    fun call => (cv (fun e H => S140_10 call e.x0.x0 H) (sq (sq (sq (sq (sq se (sq (sq se (sq (sq (cv (fun e H => S140_1 call e.x0.x5 e.x3.x14 e.x3.x17 H) (sq (sq (cv (fun e H => S140_0 call e.x3.x19 e.x4.x2 H) se) se) se)) se) se)) se)) (bl (sq (cn se (sq se (sq (sq (cv (fun e H => S140_2 call e.x0.x1 e.x2.x17 e.x3.x3 H) se) se) se))) (sq (sq (cv (fun e H => S140_9 call e.x0.x1 e.x0.x4 e.x0.x11 e.x0.x15 H) (sq (sq (cv (fun e H => S140_8 call e.x0.x1 e.x0.x4 e.x0.x17 e.x1.x1 H) (sq (sq (cv (fun e H => S140_7 call e.x0.x1 e.x0.x4 e.x1.x3 e.x1.x7 H) (sq (sq (cv (fun e H => S140_6 call e.x0.x1 e.x1.x9 e.x1.x13 H) (sq (sq (cv (fun e H => S140_5 call e.x0.x1 e.x1.x15 e.x1.x19 H) (sq (sq (cv (fun e H => S140_4 call e.x0.x1 e.x2.x1 e.x2.x5 H) (sq (sq (cv (fun e H => S140_3 call e.x0.x1 e.x2.x7 e.x2.x11 H) se) se) se)) se) se)) se) se)) se) se)) se) se)) se) se)) se) se)))) se) se) se))
theorem S141_ok : Stands Tryz.prog [] 1000000 141 S141 :=
  stands_of (s := S141) 80 [.tmp 2] 1 (fun call e H => S141_12 call e.x0.x0 H) (fun call _ H _ h => by obtain ⟨t0, rfl, h⟩ := argA1_eq h; exact ⟨rfl, (show _ = S141_12 call t0 H by kernel_rfl).trans h⟩)
    fun call => (cv (fun e H => S141_12 call e.x0.x0 H) (sq (sq (sq se (sq (sq (cv (fun e H => S141_11 call e.x0.x1 e.x0.x3 e.x0.x10 e.x0.x13 H) (sq (sq (cv (fun e H => S141_10 call e.x0.x1 e.x0.x3 e.x0.x15 e.x0.x18 H) (sq (sq (cv (fun e H => S141_9 call e.x0.x1 e.x0.x3 e.x1.x0 e.x1.x3 H) (sq (sq (cv (fun e H => S141_8 call e.x0.x1 e.x0.x3 e.x1.x5 e.x1.x8 H) (sq (sq (cv (fun e H => S141_7 call e.x0.x1 e.x0.x3 e.x1.x10 e.x1.x15 H) (sq (sq (cv (fun e H => S141_6 call e.x0.x1 e.x0.x3 e.x1.x17 e.x2.x5 H) (sq (sq (cv (fun e H => S141_5 call e.x0.x1 e.x0.x3 e.x2.x7 e.x2.x13 H) (sq (sq (cv (fun e H => S141_4 call e.x0.x1 e.x0.x3 e.x2.x15 e.x2.x18 H) (sq (sq (cv (fun e H => S141_3 call e.x0.x1 e.x0.x3 e.x3.x0 e.x3.x3 H) (sq (sq (cv (fun e H => S141_2 call e.x0.x1 e.x0.x3 e.x3.x5 e.x3.x7 H) (sq (sq (cv (fun e H => S141_1 call e.x0.x1 e.x0.x3 e.x3.x9 e.x3.x11 H) (sq (sq (cv (fun e H => S141_0 call e.x3.x13 e.x3.x18 H) se) se) se)) se) se)) se) se)) se) se)) se) se)) se) se)) se) se)) se) se)) se) se)) se) se)) se) se)) se) se)) se) se))
theorem S142_ok : Stands Tryz.prog [] 1000000 142 S142 :=
  stands_of (s := S142) 9 [.tmp 4] 2 (fun call e H => S142_0 call e.x0.x0 e.x0.x1 H) (fun call _ H _ h => by obtain ⟨t0, t1, rfl, h⟩ := argA2_eq h; exact ⟨rfl, (show _ = S142_0 call t0 t1 H by kernel_rfl).trans h⟩)
    fun call => (cv (fun e H => S142_0 call e.x0.x0 e.x0.x1 H) se)
theorem S143_ok : Stands Tryz.prog [] 1000000 143 S143 :=
  stands_of (s := S143) 52 [.tmp 4] 2 (fun call e H => S143_0 call e.x0.x0 e.x0.x1 H) (fun call _ H _ h => by obtain ⟨t0, t1, rfl, h⟩ := argA2_eq h; exact ⟨rfl, (show _ = S143_0 call t0 t1 H by kernel_rfl).trans h⟩)
    fun call => (cv (fun e H => S143_0 call e.x0.x0 e.x0.x1 H) se)
theorem S144_ok : Stands Tryz.prog [] 1000000 144 S144 :=
  stands_of (s := S144) 8 [.tmp 2] 1 (fun call e H => S144_0 call e.x0.x0 H) (fun call _ H _ h => by obtain ⟨t0, rfl, h⟩ := argA1_eq h; exact ⟨rfl, (show _ = S144_0 call t0 H by kernel_rfl).trans h⟩)
    fun call => (cv (fun e H => S144_0 call e.x0.x0 H) se)
theorem S145_ok : Stands Tryz.prog [] 1000000 145 S145 :=
  stands_of (s := S145) 8 [.tmp 2] 1 (fun call e H => S145_0 call e.x0.x0 H) (fun call _ H _ h => by obtain ⟨t0, rfl, h⟩ := argA1_eq h; exact ⟨rfl, (show _ = S145_0 call t0 H by kernel_rfl).trans h⟩)
    fun call => (cv (fun e H => S145_0 call e.x0.x0 H) se)
theorem S146_ok : Stands Tryz.prog [] 1000000 146 S146 :=
  stands_of (s := S146) 8 [.tmp 2] 1 (fun call e H => S146_0 call e.x0.x0 H) (fun call _ H _ h => by obtain ⟨t0, rfl, h⟩ := argA1_eq h; exact ⟨rfl, (show _ = S146_0 call t0 H by kernel_rfl).trans h⟩)
    fun call => (cv (fun e H => S146_0 call e.x0.x0 H) se)
theorem S147_ok : Stands Tryz.prog [] 1000000 147 S147 :=
  stands_of (s := S147) 8 [.tmp 2] 1 (fun call e H => S147_0 call e.x0.x0 H) (fun call _ H _ h => by obtain ⟨t0, rfl, h⟩ := argA1_eq h; exact ⟨rfl, (show _ = S147_0 call t0 H by kernel_rfl).trans h⟩)
    fun call => (cv (fun e H => S147_0 call e.x0.x0 H) se)
theorem S148_ok : Stands Tryz.prog [] 1000000 148 S148 :=
  stands_of (s := S148) 8 [.tmp 2] 1 (fun call e H => S148_0 call e.x0.x0 H) (fun call _ H _ h => by obtain ⟨t0, rfl, h⟩ := argA1_eq h; exact ⟨rfl, (show _ = S148_0 call t0 H by kernel_rfl).trans h⟩)
    fun call => (cv (fun e H => S148_0 call e.x0.x0 H) se)
theorem S149_ok : Stands Tryz.prog [] 1000000 149 S149 :=
  stands_of (s := S149) 8 [.tmp 2] 1 (fun call e H => S149_0 call e.x0.x0 H) (fun call _ H _ h => by obtain ⟨t0, rfl, h⟩ := argA1_eq h; exact ⟨rfl, (show _ = S149_0 call t0 H by kernel_rfl).trans h⟩)
    fun call => (cv (fun e H => S149_0 call e.x0.x0 H) se)
theorem S150_ok : Stands Tryz.prog [] 1000000 150 S150 :=
  stands_of (s := S150) 8 [.tmp 2] 1 (fun call e H => S150_0 call e.x0.x0 H) (fun call _ H _ h => by obtain ⟨t0, rfl, h⟩ := argA1_eq h; exact ⟨rfl, (show _ = S150_0 call t0 H by kernel_rfl).trans h⟩)
    fun call => (cv (fun e H => S150_0 call e.x0.x0 H) se)
theorem S151_ok : Stands Tryz.prog [] 1000000 151 S151 :=
  stands_of (s := S151) 45 [.tmp 4] 2 (fun call e H => S151_1 call e.x0.x0 e.x0.x1 H) (fun call _ H _ h => by obtain ⟨t0, t1, rfl, h⟩ := argA2_eq h; exact ⟨rfl, (show _ = S151_1 call t0 t1 H by kernel_rfl).trans h⟩)
    fun call => (cv (fun e H => S151_1 call e.x0.x0 e.x0.x1 H) (sq (sq (sq (sq (sq se (sq (bl (lp (fun n e H => S151_0 call n e.x0.x5 e.x1.x12 e.x1.x13 e.x1.x14 H) fun _ => cv _ se)) se)) se) se) se) se))
theorem S152_ok : Stands Tryz.prog [] 1000000 152 S152 :=
  stands_of (s := S152) 53 [.tmp 4] 2 (fun call e H => S152_4 call e.x0.x0 e.x0.x1 H) (fun call _ H _ h => by obtain ⟨t0, t1, rfl, h⟩ := argA2_eq h; exact ⟨rfl, (show _ = S152_4 call t0 t1 H by kernel_rfl).trans h⟩)
    fun call => (cv (fun e H => S152_4 call e.x0.x0 e.x0.x1 H) (sq (sq (sq (sq (cv (fun e H => S152_0 call e.x0.x5 H) se) (sq (bl (lp (fun n e H => S152_1 call n e.x0.x2 e.x0.x3 e.x0.x5 e.x0.x6 e.x0.x7 H) fun n0 => cv _ (sq (bl (sq (sq (bl (lp (fun n e H => S152_2 call (S152_1 call n0) n e.x0.x2 e.x0.x3 e.x0.x5 e.x0.x6 e.x0.x7 e.x0.x8 H) fun n1 => cv _ (sq (sq (cv (fun e H => S152_3 call (S152_2 call (S152_1 call n0) n1) e.x0.x2 e.x0.x3 e.x0.x5 e.x0.x6 e.x0.x7 e.x0.x8 H) se) se) se))) se) se)) se))) se)) se) se) se))
theorem S153_ok : Stands Tryz.prog [] 1000000 153 S153 :=
  stands_of (s := S153) 8 [.tmp 2] 1 (fun call e H => S153_0 call e.x0.x0 H) (fun call _ H _ h => by obtain ⟨t0, rfl, h⟩ := argA1_eq h; exact ⟨rfl, (show _ = S153_0 call t0 H by kernel_rfl).trans h⟩)
    fun call => (cv (fun e H => S153_0 call e.x0.x0 H) se)
theorem S154_ok : Stands Tryz.prog [] 1000000 154 S154 :=
  stands_of (s := S154) 25 [] 2 (fun call e H => S154_3 call e.x0.x0 e.x0.x1 H) (fun call _ H _ h => by obtain ⟨t0, t1, rfl, h⟩ := argA2_eq h; exact ⟨rfl, (show _ = S154_3 call t0 t1 H by kernel_rfl).trans h⟩)
    fun call => (cv (fun e H => S154_3 call e.x0.x0 e.x0.x1 H) (sq (bl (lp (fun n e H => S154_0 call n e.x0.x0 e.x0.x6 e.x0.x7 e.x0.x8 H) fun n0 => cv _ (sq (sq (sq (cv (fun e H => S154_1 call (S154_0 call n0) e.x0.x0 e.x0.x6 e.x0.x7 e.x0.x8 H) se) (bl (sq (sq se (sq (sq (cv (fun e H => S154_2 call (S154_0 call n0) e.x0.x0 e.x0.x5 e.x0.x6 e.x0.x7 e.x0.x8 e.x0.x14 e.x0.x18 H) se) se) se)) se))) se) se))) se))
theorem S155_ok : Stands Tryz.prog [] 1000000 155 S155 :=
  stands_of (s := S155) 65 [.tmp 4] 2 (fun call e H => S155_6 call e.x0.x0 e.x0.x1 H) (fun call _ H _ h => by obtain ⟨t0, t1, rfl, h⟩ := argA2_eq h; exact ⟨rfl, (show _ = S155_6 call t0 t1 H by kernel_rfl).trans h⟩)
    fun call => (cv (fun e H => S155_6 call e.x0.x0 e.x0.x1 H) (sq (sq (sq (sq se (sq (bl (lp (fun n e H => S155_0 call n e.x0.x5 e.x2.x9 e.x2.x10 e.x2.x11 H) fun n0 => cv _ (sq (sq (sq (cv (fun e H => S155_1 call (S155_0 call n0) e.x0.x5 e.x2.x9 e.x2.x10 e.x2.x11 H) se) se) se) se))) se)) se) (sq se (sq (sq (cv (fun e H => S155_5 call e.x0.x2 e.x0.x3 e.x0.x11 e.x0.x14 H) (sq (sq (cv (fun e H => S155_4 call e.x0.x2 e.x0.x3 e.x0.x16 e.x0.x19 H) (sq (sq (cv (fun e H => S155_3 call e.x0.x2 e.x0.x3 e.x1.x1 e.x1.x7 H) (sq (sq (cv (fun e H => S155_2 call e.x0.x2 e.x0.x3 e.x1.x9 e.x1.x18 H) se) se) se)) se) se)) se) se)) se) se))) se))
theorem S156_ok : Stands Tryz.prog [] 1000000 156 S156 :=
  stands_of (s := S156) 142 [.tmp 6] 3 (fun call e H => S156_10 call e.x0.x0 e.x0.x1 e.x0.x2 H) (fun call _ H _ h => by obtain ⟨t0, t1, t2, rfl, h⟩ := argA3_eq h; exact ⟨rfl, (show _ = S156_10 call t0 t1 t2 H by kernel_rfl).trans h⟩)
    fun call => (cv (fun e H => S156_10 call e.x0.x0 e.x0.x1 e.x0.x2 H) (sq (sq (sq (cv (fun e H => S156_8 call e.x0.x2 e.x0.x3 e.x0.x4 H) (sq se (sq (bl (sq (cn (sq (cv (fun e H => S156_0 call e.x0.x2 e.x0.x4 e.x0.x8 H) se) se) (sq (cn se (sq (cn se (sq (cn se (sq (cv (fun e H => S156_5 call e.x0.x2 e.x0.x3 e.x0.x4 e.x0.x8 H) (sq (cv (fun e H => S156_4 call e.x0.x2 e.x0.x3 e.x0.x4 H) (sq (cv (fun e H => S156_2 call e.x0.x2 e.x0.x3 e.x0.x4 H) (sq (bl (lp (fun n e H => S156_1 call n e.x0.x2 e.x2.x19 e.x3.x0 e.x3.x1 H) fun _ => cv _ se)) se)) (sq (bl (lp (fun n e H => S156_3 call n e.x0.x2 e.x0.x3 e.x0.x4 e.x2.x6 e.x2.x7 e.x2.x8 H) fun _ => cv _ se)) se))) se)) se)) (sq (sq (cv (fun e H => S156_6 call e.x0.x2 e.x0.x3 e.x0.x4 e.x0.x8 e.x6.x8 e.x6.x10 H) se) se) se))) (sq (sq (cv (fun e H => S156_7 call e.x0.x2 e.x0.x3 e.x0.x4 e.x0.x8 e.x5.x9 e.x5.x11 H) se) se) se))) se)) se)) se))) (sq (cn (sq (bl (lp (fun n e H => S156_9 call n e.x0.x2 e.x0.x3 e.x0.x4 e.x1.x0 e.x1.x1 H) fun _ => cv _ se)) se) se) se)) se) se))
theorem S157_ok : Stands Tryz.prog [] 1000000 157 S157 :=
  stands_of (s := S157) 68 [.tmp 6] 3 (fun call e H => S157_4 call e.x0.x0 e.x0.x1 e.x0.x2 H) (fun call _ H _ h => by obtain ⟨t0, t1, t2, rfl, h⟩ := argA3_eq h; exact ⟨rfl, (show _ = S157_4 call t0 t1 t2 H by kernel_rfl).trans h⟩)
    fun call => (cv (fun e H => S157_4 call e.x0.x0 e.x0.x1 e.x0.x2 H) (sq (sq (sq (sq (cv (fun e H => S157_0 call e.x0.x4 e.x0.x7 H) se) (sq (sq (bl (sq (cn se (sq (cn se (sq (cv (fun e H => S157_2 call e.x0.x2 e.x0.x3 e.x0.x4 e.x0.x7 e.x0.x8 e.x1.x6 e.x2.x2 H) (cn se (sq (cn (sq (bl (lp (fun n e H => S157_1 call n e.x0.x4 e.x0.x7 e.x2.x9 e.x2.x10 e.x2.x11 H) fun _ => cv _ se)) se) se) se))) se)) se)) se)) se) se)) se) (sq se (sq (sq (cv (fun e H => S157_3 call e.x0.x2 e.x0.x3 e.x0.x4 e.x0.x13 e.x0.x18 H) se) se) se))) se))
theorem S163_ok : Stands Tryz.prog [] 1000000 163 S163 :=
  stands_of (s := S163) 25 [.tmp 2] 1 (fun call e H => S163_3 call e.x0.x0 H) (fun call _ H _ h => by obtain ⟨t0, rfl, h⟩ := argA1_eq h; exact ⟨rfl, (show _ = S163_3 call t0 H by kernel_rfl).trans h⟩)
    fun call => (cv (fun e H => S163_3 call e.x0.x0 H) (sq (sq (cv (fun e H => S163_2 call e.x0.x0 e.x0.x2 H) (sq (cv (fun e H => S163_1 call e.x0.x0 e.x0.x2 H) (sq (cv (fun e H => S163_0 call e.x0.x0 e.x0.x2 H) se) se)) se)) se) se))
theorem S167_ok : Stands Tryz.prog [] 1000000 167 S167 :=
  stands_of (s := S167) 8 [.cell (.some 3) 2, .tmp 3] 1 (fun call e H => S167_0 call e.x0.x0 H) (fun call _ H _ h => by obtain ⟨t0, rfl, h⟩ := argA1_eq h; exact ⟨rfl, (show _ = S167_0 call t0 H by kernel_rfl).trans h⟩)
    fun call => (cv (fun e H => S167_0 call e.x0.x0 H) se)
theorem S168_ok : Stands Tryz.prog [] 1000000 168 S168 :=
  stands_of (s := S168) 26 [.tmp 2, .tmp 3] 1 (fun call e H => S168_0 call e.x0.x0 H) (fun call _ H _ h => by obtain ⟨t0, rfl, h⟩ := argA1_eq h; exact ⟨rfl, (show _ = S168_0 call t0 H by kernel_rfl).trans h⟩)
    fun call => (cv (fun e H => S168_0 call e.x0.x0 H) se)
theorem S171_ok : Stands Tryz.prog [] 1000000 171 S171 :=
  stands_of (s := S171) 24 [.tmp 6, .tmp 7] 3 (fun call e H => S171_0 call e.x0.x0 e.x0.x1 e.x0.x2 H) (fun call _ H _ h => by obtain ⟨t0, t1, t2, rfl, h⟩ := argA3_eq h; exact ⟨rfl, (show _ = S171_0 call t0 t1 t2 H by kernel_rfl).trans h⟩)
    fun call => (cv (fun e H => S171_0 call e.x0.x0 e.x0.x1 e.x0.x2 H) se)
theorem S172_ok : Stands Tryz.prog [] 1000000 172 S172 :=
  stands_of (s := S172) 9 [.tmp 4] 2 (fun call e H => S172_0 call e.x0.x0 e.x0.x1 H) (fun call _ H _ h => by obtain ⟨t0, t1, rfl, h⟩ := argA2_eq h; exact ⟨rfl, (show _ = S172_0 call t0 t1 H by kernel_rfl).trans h⟩)
    fun call => (cv (fun e H => S172_0 call e.x0.x0 e.x0.x1 H) se)
end Go.Proofs.YtooindilclphjaaGreatDoor
