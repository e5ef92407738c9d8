/- They stand for their bodies: part 2. -/
import Derived.Test.YtdccenbljfanpaaGreatDoorLF2
import Derived.KernelRfl
namespace Go.Proofs.YtdccenbljfanpaaGreatDoor
open Go.Ab
set_option maxRecDepth 100000
theorem S268_ok : Stands Tryz.prog [] 1000000 268 S268 :=
  stands_of (s := S268) 61 [.tmp 2] 1 (fun call e H => S268_5 call e.x0.x0 H) (fun call _ H _ h => by obtain ⟨t0, rfl, h⟩ := argA1_eq h; exact ⟨rfl, (show _ = S268_5 call t0 H by kernel_rfl).trans h⟩)
    fun call => (cv (fun e H => S268_5 call e.x0.x0 H) (sq (sq (sq se (sq (bl (lp (fun n e H => S268_0 call n e.x0.x0 e.x0.x3 H) fun n0 => cv _ (sq (sq (cv (fun e H => S268_1 call (S268_0 call n0) e.x0.x0 e.x0.x3 H) se) (bl (sq (cn (sq (sq (cv (fun e H => S268_2 call e.x0.x0 e.x0.x3 H) se) (sq (bl (lp (fun n e H => S268_3 call n e.x0.x0 e.x0.x3 e.x0.x4 e.x0.x5 H) fun n1 => cv _ (sq (sq (cv (fun e H => S268_4 call (S268_3 call n1) e.x0.x0 e.x0.x3 e.x0.x4 e.x0.x5 H) se) se) se))) se)) se) se) se))) se))) se)) se) se))
theorem S271_ok : Stands Tryz.prog [] 1000000 271 S271 :=
  stands_of (s := S271) 5 [.tmp 2] 1 (fun call e H => S271_0 call e.x0.x0 H) (fun call _ H _ h => by obtain ⟨t0, rfl, h⟩ := argA1_eq h; exact ⟨rfl, (show _ = S271_0 call t0 H by kernel_rfl).trans h⟩)
    fun call => (cv (fun e H => S271_0 call e.x0.x0 H) se)
theorem S274_ok : Stands Tryz.prog [] 1000000 274 S274 :=
  stands_of (s := S274) 15 [.tmp 4] 3 (fun call e H => S274_0 call e.x0.x0 e.x0.x1 e.x0.x2 H) (fun call _ H _ h => by obtain ⟨t0, t1, t2, rfl, h⟩ := argA3_eq h; exact ⟨rfl, (show _ = S274_0 call t0 t1 t2 H by kernel_rfl).trans h⟩)
    fun call => (cv (fun e H => S274_0 call e.x0.x0 e.x0.x1 e.x0.x2 H) se)
theorem S284_ok : Stands Tryz.prog [] 1000000 284 S284 :=
  stands_of (s := S284) 49 [] 3 (fun call e H => S284_13 call e.x0.x0 e.x0.x1 e.x0.x2 H) (fun call _ H _ h => by obtain ⟨t0, t1, t2, rfl, h⟩ := argA3_eq h; exact ⟨rfl, (show _ = S284_13 call t0 t1 t2 H by kernel_rfl).trans h⟩)
    fun call => (cv (fun e H => S284_13 call e.x0.x0 e.x0.x1 e.x0.x2 H) (sq (bl (lp (fun n e H => S284_0 call n e.x0.x0 e.x0.x1 e.x0.x2 e.x0.x6 H) fun n0 => cv _ (sq (sq (cv (fun e H => S284_1 call (S284_0 call n0) e.x0.x0 e.x0.x1 e.x0.x2 e.x0.x6 H) se) (bl (sq (bl (lp (fun n e H => S284_2 call (S284_0 call n0) n e.x0.x0 e.x0.x1 e.x0.x2 e.x0.x6 e.x0.x7 H) fun n1 => cv _ (sq se (sq se (sq (sq (cv (fun e H => S284_12 call (S284_0 call n0) (S284_2 call (S284_0 call n0) n1) e.x0.x0 e.x0.x1 e.x0.x2 e.x0.x6 e.x0.x7 e.x0.x19 e.x1.x0 H) (sq (sq (cv (fun e H => S284_11 call (S284_0 call n0) (S284_2 call (S284_0 call n0) n1) e.x0.x0 e.x0.x1 e.x0.x2 e.x0.x6 e.x0.x7 e.x0.x19 e.x1.x0 e.x1.x1 H) (sq (sq (cv (fun e H => S284_10 call (S284_0 call n0) (S284_2 call (S284_0 call n0) n1) e.x0.x0 e.x0.x1 e.x0.x2 e.x0.x6 e.x0.x7 e.x0.x19 e.x1.x2 H) (sq (sq (cv (fun e H => S284_9 call (S284_0 call n0) (S284_2 call (S284_0 call n0) n1) e.x0.x0 e.x0.x1 e.x0.x2 e.x0.x6 e.x0.x7 e.x0.x19 e.x1.x3 H) (sq (sq (cv (fun e H => S284_8 call (S284_0 call n0) (S284_2 call (S284_0 call n0) n1) e.x0.x0 e.x0.x1 e.x0.x2 e.x0.x6 e.x0.x7 e.x0.x19 e.x1.x3 e.x1.x4 H) (sq (sq (cv (fun e H => S284_7 call (S284_0 call n0) (S284_2 call (S284_0 call n0) n1) e.x0.x0 e.x0.x1 e.x0.x2 e.x0.x6 e.x0.x7 e.x0.x19 e.x1.x3 e.x1.x4 e.x1.x5 H) (sq (sq (cv (fun e H => S284_6 call (S284_0 call n0) (S284_2 call (S284_0 call n0) n1) e.x0.x0 e.x0.x1 e.x0.x2 e.x0.x6 e.x0.x7 e.x0.x19 e.x1.x3 e.x1.x4 e.x1.x6 H) (sq (sq (cv (fun e H => S284_5 call (S284_0 call n0) (S284_2 call (S284_0 call n0) n1) e.x0.x0 e.x0.x1 e.x0.x2 e.x0.x6 e.x0.x7 e.x0.x19 e.x1.x3 e.x1.x7 H) (sq (sq (cv (fun e H => S284_4 call (S284_0 call n0) (S284_2 call (S284_0 call n0) n1) e.x0.x0 e.x0.x1 e.x0.x2 e.x0.x6 e.x0.x7 e.x0.x19 e.x1.x3 e.x1.x8 H) (sq (sq (cv (fun e H => S284_3 call (S284_0 call n0) (S284_2 call (S284_0 call n0) n1) e.x0.x0 e.x0.x1 e.x0.x2 e.x0.x6 e.x0.x7 e.x0.x19 e.x1.x9 H) se) se) se)) se) se)) se) se)) se) se)) se) se)) se) se)) se) se)) se) se)) se) se)) se) se))))) se))) se))) se))
theorem S299_ok : Stands Tryz.prog [] 1000000 299 S299 :=
  stands_of (s := S299) 5 [.tmp 2] 1 (fun call e H => S299_0 call e.x0.x0 H) (fun call _ H _ h => by obtain ⟨t0, rfl, h⟩ := argA1_eq h; exact ⟨rfl, (show _ = S299_0 call t0 H by kernel_rfl).trans h⟩)
    fun call => (cv (fun e H => S299_0 call e.x0.x0 H) se)
end Go.Proofs.YtdccenbljfanpaaGreatDoor
