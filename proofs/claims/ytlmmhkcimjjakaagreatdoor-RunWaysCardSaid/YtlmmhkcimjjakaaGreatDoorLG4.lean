/- They stand for their bodies: part 4. -/
import Derived.Test.YtlmmhkcimjjakaaGreatDoorLF4
import Derived.KernelRfl
namespace Go.Proofs.YtlmmhkcimjjakaaGreatDoor
open Go.Ab
set_option maxRecDepth 100000
theorem S313_ok : Stands Tryz.prog [0] 1000000 313 S313 :=
  stands_of (s := S313) 29 [.tmp 6, .tmp 7] 3 (fun call e H => S313_0 call e.x0.x0 e.x0.x1 e.x0.x2 H) (fun call _ H _ h => by obtain ⟨t0, t1, t2, rfl, h⟩ := argA3_eq h; exact ⟨rfl, (show _ = S313_0 call t0 t1 t2 H by kernel_rfl).trans h⟩)
    fun call => (cv (fun e H => S313_0 call e.x0.x0 e.x0.x1 e.x0.x2 H) se)
theorem S320_ok : Stands Tryz.prog [0] 1000000 320 S320 :=
  stands_of (s := S320) 9 [.tmp 2] 1 (fun call e H => S320_0 call e.x0.x0 H) (fun call _ H _ h => by obtain ⟨t0, rfl, h⟩ := argA1_eq h; exact ⟨rfl, (show _ = S320_0 call t0 H by kernel_rfl).trans h⟩)
    fun call => (cv (fun e H => S320_0 call e.x0.x0 H) se)
theorem S321_ok : Stands Tryz.prog [0] 1000000 321 S321 :=
  stands_of (s := S321) 6 [.tmp 2] 1 (fun call e H => S321_0 call e.x0.x0 H) (fun call _ H _ h => by obtain ⟨t0, rfl, h⟩ := argA1_eq h; exact ⟨rfl, (show _ = S321_0 call t0 H by kernel_rfl).trans h⟩)
    fun call => (cv (fun e H => S321_0 call e.x0.x0 H) se)
theorem S322_ok : Stands Tryz.prog [0] 1000000 322 S322 :=
  stands_of (s := S322) 30 [.tmp 6] 3 (fun call e H => S322_3 call e.x0.x0 e.x0.x1 e.x0.x2 H) (fun call _ H _ h => by obtain ⟨t0, t1, t2, rfl, h⟩ := argA3_eq h; exact ⟨rfl, (show _ = S322_3 call t0 t1 t2 H by kernel_rfl).trans h⟩)
    fun call => (cv (fun e H => S322_3 call e.x0.x0 e.x0.x1 e.x0.x2 H) (sq (sq se (sq se (sq (sq (cv (fun e H => S322_2 call e.x0.x0 e.x0.x1 e.x0.x2 e.x0.x9 e.x0.x11 H) (sq (sq (cv (fun e H => S322_1 call e.x0.x0 e.x0.x1 e.x0.x2 e.x0.x13 e.x0.x15 H) (sq (sq (cv (fun e H => S322_0 call e.x0.x0 e.x0.x1 e.x0.x2 e.x0.x17 e.x1.x1 H) se) se) se)) se) se)) se) se))) se))
theorem S323_ok : Stands Tryz.prog [0] 1000000 323 S323 :=
  stands_of (s := S323) 35 [.tmp 6] 3 (fun call e H => S323_1 call e.x0.x0 e.x0.x1 e.x0.x2 H) (fun call _ H _ h => by obtain ⟨t0, t1, t2, rfl, h⟩ := argA3_eq h; exact ⟨rfl, (show _ = S323_1 call t0 t1 t2 H by kernel_rfl).trans h⟩)
    fun call => (cv (fun e H => S323_1 call e.x0.x0 e.x0.x1 e.x0.x2 H) (sq (sq se (bl (sq se (sq (sq (cv (fun e H => S323_0 call e.x0.x0 e.x0.x1 e.x0.x2 e.x0.x12 e.x0.x15 H) se) se) se)))) se))
theorem S324_ok : Stands Tryz.prog [0] 1000000 324 S324 :=
  stands_of (s := S324) 14 [.tmp 2] 1 (fun call e H => S324_0 call e.x0.x0 H) (fun call _ H _ h => by obtain ⟨t0, rfl, h⟩ := argA1_eq h; exact ⟨rfl, (show _ = S324_0 call t0 H by kernel_rfl).trans h⟩)
    fun call => (cv (fun e H => S324_0 call e.x0.x0 H) se)
theorem S341_ok : Stands Tryz.prog [0] 1000000 341 S341 :=
  stands_of (s := S341) 34 [.tmp 2] 1 (fun call e H => S341_3 call e.x0.x0 H) (fun call _ H _ h => by obtain ⟨t0, rfl, h⟩ := argA1_eq h; exact ⟨rfl, (show _ = S341_3 call t0 H by kernel_rfl).trans h⟩)
    fun call => (cv (fun e H => S341_3 call e.x0.x0 H) (sq (sq (sq se (sq (bl (lp (fun n e H => S341_0 call n e.x0.x0 e.x0.x3 e.x0.x9 e.x0.x10 e.x0.x11 H) fun n0 => cv _ (sq (sq (sq (cv (fun e H => S341_1 call (S341_0 call n0) e.x0.x0 e.x0.x3 e.x0.x9 e.x0.x10 e.x0.x11 H) se) (bl (sq (sq se (sq (sq (cv (fun e H => S341_2 call (S341_0 call n0) e.x0.x0 e.x0.x3 e.x0.x5 e.x0.x9 e.x0.x10 e.x0.x11 e.x1.x4 e.x1.x6 H) se) se) se)) se))) se) se))) se)) se) se))
theorem S342_ok : Stands Tryz.prog [0] 1000000 342 S342 :=
  stands_of (s := S342) 20 [.tmp 4] 2 (fun call e H => S342_0 call e.x0.x0 e.x0.x1 H) (fun call _ H _ h => by obtain ⟨t0, t1, rfl, h⟩ := argA2_eq h; exact ⟨rfl, (show _ = S342_0 call t0 t1 H by kernel_rfl).trans h⟩)
    fun call => (cv (fun e H => S342_0 call e.x0.x0 e.x0.x1 H) se)
theorem S343_ok : Stands Tryz.prog [0] 1000000 343 S343 :=
  stands_of (s := S343) 8 [.tmp 2] 1 (fun call e H => S343_0 call e.x0.x0 H) (fun call _ H _ h => by obtain ⟨t0, rfl, h⟩ := argA1_eq h; exact ⟨rfl, (show _ = S343_0 call t0 H by kernel_rfl).trans h⟩)
    fun call => (cv (fun e H => S343_0 call e.x0.x0 H) se)
theorem S344_ok : Stands Tryz.prog [0] 1000000 344 S344 :=
  stands_of (s := S344) 72 [.tmp 4] 2 (fun call e H => S344_6 call e.x0.x0 e.x0.x1 H) (fun call _ H _ h => by obtain ⟨t0, t1, rfl, h⟩ := argA2_eq h; exact ⟨rfl, (show _ = S344_6 call t0 t1 H by kernel_rfl).trans h⟩)
    fun call => (cv (fun e H => S344_6 call e.x0.x0 e.x0.x1 H) (sq (sq (sq se (sq (bl (lp (fun n e H => S344_0 call n e.x0.x3 e.x0.x5 e.x0.x14 e.x0.x15 e.x0.x16 H) fun n0 => cv _ (sq (sq (sq (cv (fun e H => S344_1 call (S344_0 call n0) e.x0.x3 e.x0.x5 e.x0.x14 e.x0.x15 e.x0.x16 H) se) (bl (sq (sq (sq (sq (sq (bl (lp (fun n e H => S344_2 call (S344_0 call n0) n e.x0.x3 e.x0.x5 e.x0.x7 e.x0.x8 e.x0.x14 e.x0.x15 e.x0.x16 e.x2.x4 e.x2.x5 e.x2.x6 H) fun n1 => cv _ (sq (sq (sq (cv (fun e H => S344_3 call (S344_2 call (S344_0 call n0) n1) e.x0.x3 e.x0.x5 e.x0.x7 e.x0.x8 e.x0.x14 e.x0.x15 e.x0.x16 e.x2.x4 e.x2.x5 e.x2.x6 H) se) (bl (sq (sq se (sq (sq (cv (fun e H => S344_4 call (S344_2 call (S344_0 call n0) n1) e.x0.x3 e.x0.x5 e.x0.x7 e.x0.x8 e.x0.x10 e.x0.x14 e.x0.x15 e.x0.x16 e.x2.x4 e.x2.x5 e.x2.x6 e.x3.x1 e.x3.x3 H) se) se) se)) se))) se) se))) se) (sq se (sq (sq (cv (fun e H => S344_5 call (S344_0 call n0) e.x0.x3 e.x0.x5 e.x0.x7 e.x0.x8 e.x0.x14 e.x0.x15 e.x0.x16 e.x1.x16 e.x2.x1 H) se) se) se))) se) se) se))) se) se))) se)) se) se))
end Go.Proofs.YtlmmhkcimjjakaaGreatDoor
