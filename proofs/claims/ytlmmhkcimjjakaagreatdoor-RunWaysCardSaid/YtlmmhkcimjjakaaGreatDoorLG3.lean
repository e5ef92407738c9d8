/- They stand for their bodies: part 3. -/
import Derived.Test.YtlmmhkcimjjakaaGreatDoorLF3
import Derived.KernelRfl
namespace Go.Proofs.YtlmmhkcimjjakaaGreatDoor
open Go.Ab
set_option maxRecDepth 100000
theorem S219_ok : Stands Tryz.prog [0] 1000000 219 S219 :=
  stands_of (s := S219) 18 [.tmp 6, .tmp 7] 3 (fun call e H => S219_0 call e.x0.x0 e.x0.x1 e.x0.x2 H) (fun call _ H _ h => by obtain ⟨t0, t1, t2, rfl, h⟩ := argA3_eq h; exact ⟨rfl, (show _ = S219_0 call t0 t1 t2 H by kernel_rfl).trans h⟩)
    fun call => (cv (fun e H => S219_0 call e.x0.x0 e.x0.x1 e.x0.x2 H) se)
theorem S220_ok : Stands Tryz.prog [0] 1000000 220 S220 :=
  stands_of (s := S220) 28 [.cell (.some 3) 2, .tmp 3] 1 (fun call e H => S220_1 call e.x0.x0 H) (fun call _ H _ h => by obtain ⟨t0, rfl, h⟩ := argA1_eq h; exact ⟨rfl, (show _ = S220_1 call t0 H by kernel_rfl).trans h⟩)
    fun call => (cv (fun e H => S220_1 call e.x0.x0 H) (sq (sq (sq (sq se (sq se (sq (sq (cv (fun e H => S220_0 call e.x0.x2 e.x0.x5 e.x1.x1 e.x1.x4 H) se) se) se))) se) se) se))
theorem S221_ok : Stands Tryz.prog [0] 1000000 221 S221 :=
  stands_of (s := S221) 11 [.tmp 2] 1 (fun call e H => S221_1 call e.x0.x0 H) (fun call _ H _ h => by obtain ⟨t0, rfl, h⟩ := argA1_eq h; exact ⟨rfl, (show _ = S221_1 call t0 H by kernel_rfl).trans h⟩)
    fun call => (cv (fun e H => S221_1 call e.x0.x0 H) (sq (sq se (sq se (sq (sq (cv (fun e H => S221_0 call e.x0.x0 e.x0.x5 e.x0.x7 H) se) se) se))) se))
theorem S222_ok : Stands Tryz.prog [0] 1000000 222 S222 :=
  stands_of (s := S222) 25 [.cell (.some 3) 4, .tmp 5] 2 (fun call e H => S222_1 call e.x0.x0 e.x0.x1 H) (fun call _ H _ h => by obtain ⟨t0, t1, rfl, h⟩ := argA2_eq h; exact ⟨rfl, (show _ = S222_1 call t0 t1 H by kernel_rfl).trans h⟩)
    fun call => (cv (fun e H => S222_1 call e.x0.x0 e.x0.x1 H) (sq (sq se (sq se (sq (sq (cv (fun e H => S222_0 call e.x0.x0 e.x0.x1 e.x0.x4 e.x0.x8 e.x0.x15 H) se) se) se))) se))
theorem S223_ok : Stands Tryz.prog [0] 1000000 223 S223 :=
  stands_of (s := S223) 47 [.tmp 6] 3 (fun call e H => S223_4 call e.x0.x0 e.x0.x1 e.x0.x2 H) (fun call _ H _ h => by obtain ⟨t0, t1, t2, rfl, h⟩ := argA3_eq h; exact ⟨rfl, (show _ = S223_4 call t0 t1 t2 H by kernel_rfl).trans h⟩)
    fun call => (cv (fun e H => S223_4 call e.x0.x0 e.x0.x1 e.x0.x2 H) (sq (sq (sq se (sq (bl (sq (cv (fun e H => S223_1 call e.x0.x1 e.x0.x3 e.x1.x0 e.x1.x1 H) (cn se (sq (cn se (sq (cn (sq se (sq (sq (cv (fun e H => S223_0 call e.x2.x3 e.x2.x5 H) se) se) se)) se) se)) se))) se)) se)) (sq se (sq (sq (cv (fun e H => S223_3 call e.x0.x1 e.x0.x2 e.x0.x3 e.x0.x9 e.x0.x11 H) (sq (sq (cv (fun e H => S223_2 call e.x0.x1 e.x0.x3 e.x0.x13 e.x0.x17 H) se) se) se)) se) se))) se))
theorem S224_ok : Stands Tryz.prog [0] 1000000 224 S224 :=
  stands_of (s := S224) 32 [.tmp 4] 2 (fun call e H => S224_1 call e.x0.x0 e.x0.x1 H) (fun call _ H _ h => by obtain ⟨t0, t1, rfl, h⟩ := argA2_eq h; exact ⟨rfl, (show _ = S224_1 call t0 t1 H by kernel_rfl).trans h⟩)
    fun call => (cv (fun e H => S224_1 call e.x0.x0 e.x0.x1 H) (sq (sq (sq se (sq se (sq (sq (cv (fun e H => S224_0 call e.x0.x5 e.x0.x6 e.x0.x15 e.x1.x2 H) se) se) se))) se) se))
theorem S225_ok : Stands Tryz.prog [0] 1000000 225 S225 :=
  stands_of (s := S225) 14 [] 2 (fun call e H => S225_0 call e.x0.x0 e.x0.x1 H) (fun call _ H _ h => by obtain ⟨t0, t1, rfl, h⟩ := argA2_eq h; exact ⟨rfl, (show _ = S225_0 call t0 t1 H by kernel_rfl).trans h⟩)
    fun call => (cv (fun e H => S225_0 call e.x0.x0 e.x0.x1 H) se)
theorem S226_ok : Stands Tryz.prog [0] 1000000 226 S226 :=
  stands_of (s := S226) 16 [.tmp 4] 2 (fun call e H => S226_1 call e.x0.x0 e.x0.x1 H) (fun call _ H _ h => by obtain ⟨t0, t1, rfl, h⟩ := argA2_eq h; exact ⟨rfl, (show _ = S226_1 call t0 t1 H by kernel_rfl).trans h⟩)
    fun call => (cv (fun e H => S226_1 call e.x0.x0 e.x0.x1 H) (sq (sq se (sq (sq (cv (fun e H => S226_0 call e.x0.x7 e.x0.x14 H) se) se) se)) se))
theorem S227_ok : Stands Tryz.prog [0] 1000000 227 S227 :=
  stands_of (s := S227) 47 [.tmp 4] 2 (fun call e H => S227_0 call e.x0.x0 e.x0.x1 H) (fun call _ H _ h => by obtain ⟨t0, t1, rfl, h⟩ := argA2_eq h; exact ⟨rfl, (show _ = S227_0 call t0 t1 H by kernel_rfl).trans h⟩)
    fun call => (cv (fun e H => S227_0 call e.x0.x0 e.x0.x1 H) se)
theorem S228_ok : Stands Tryz.prog [0] 1000000 228 S228 :=
  stands_of (s := S228) 35 [.tmp 2] 1 (fun call e H => S228_0 call e.x0.x0 H) (fun call _ H _ h => by obtain ⟨t0, rfl, h⟩ := argA1_eq h; exact ⟨rfl, (show _ = S228_0 call t0 H by kernel_rfl).trans h⟩)
    fun call => (cv (fun e H => S228_0 call e.x0.x0 H) se)
theorem S229_ok : Stands Tryz.prog [0] 1000000 229 S229 :=
  stands_of (s := S229) 31 [] 3 (fun call e H => S229_2 call e.x0.x0 e.x0.x1 e.x0.x2 H) (fun call _ H _ h => by obtain ⟨t0, t1, t2, rfl, h⟩ := argA3_eq h; exact ⟨rfl, (show _ = S229_2 call t0 t1 t2 H by kernel_rfl).trans h⟩)
    fun call => (cv (fun e H => S229_2 call e.x0.x0 e.x0.x1 e.x0.x2 H) (sq (sq se (sq (sq (cv (fun e H => S229_1 call e.x0.x1 e.x0.x2 e.x0.x6 e.x0.x11 e.x0.x13 H) (sq (sq (cv (fun e H => S229_0 call e.x0.x1 e.x0.x2 e.x0.x6 e.x0.x15 e.x1.x2 H) se) se) se)) se) se)) se))
theorem S238_ok : Stands Tryz.prog [0] 1000000 238 S238 :=
  stands_of (s := S238) 51 [.cell (.some 3) 4, .cell (.some 3) 5, .tmp 6] 2 (fun call e H => S238_0 call e.x0.x0 e.x0.x1 H) (fun call _ H _ h => by obtain ⟨t0, t1, rfl, h⟩ := argA2_eq h; exact ⟨rfl, (show _ = S238_0 call t0 t1 H by kernel_rfl).trans h⟩)
    fun call => (cv (fun e H => S238_0 call e.x0.x0 e.x0.x1 H) se)
theorem S239_ok : Stands Tryz.prog [0] 1000000 239 S239 :=
  stands_of (s := S239) 7 [.tmp 2] 1 (fun call e H => S239_0 call e.x0.x0 H) (fun call _ H _ h => by obtain ⟨t0, rfl, h⟩ := argA1_eq h; exact ⟨rfl, (show _ = S239_0 call t0 H by kernel_rfl).trans h⟩)
    fun call => (cv (fun e H => S239_0 call e.x0.x0 H) se)
theorem S240_ok : Stands Tryz.prog [0] 1000000 240 S240 :=
  stands_of (s := S240) 29 [.tmp 2] 1 (fun call e H => S240_1 call e.x0.x0 H) (fun call _ H _ h => by obtain ⟨t0, rfl, h⟩ := argA1_eq h; exact ⟨rfl, (show _ = S240_1 call t0 H by kernel_rfl).trans h⟩)
    fun call => (cv (fun e H => S240_1 call e.x0.x0 H) (sq (sq (cv (fun e H => S240_0 call e.x0.x0 H) se) se) se))
theorem S241_ok : Stands Tryz.prog [0] 1000000 241 S241 :=
  stands_of (s := S241) 9 [] 2 (fun call e H => S241_0 call e.x0.x0 e.x0.x1 H) (fun call _ H _ h => by obtain ⟨t0, t1, rfl, h⟩ := argA2_eq h; exact ⟨rfl, (show _ = S241_0 call t0 t1 H by kernel_rfl).trans h⟩)
    fun call => (cv (fun e H => S241_0 call e.x0.x0 e.x0.x1 H) se)
theorem S242_ok : Stands Tryz.prog [0] 1000000 242 S242 :=
  stands_of (s := S242) 9 [] 2 (fun call e H => S242_0 call e.x0.x0 e.x0.x1 H) (fun call _ H _ h => by obtain ⟨t0, t1, rfl, h⟩ := argA2_eq h; exact ⟨rfl, (show _ = S242_0 call t0 t1 H by kernel_rfl).trans h⟩)
    fun call => (cv (fun e H => S242_0 call e.x0.x0 e.x0.x1 H) se)
theorem S243_ok : Stands Tryz.prog [0] 1000000 243 S243 :=
  stands_of (s := S243) 22 [] 2 (fun call e H => S243_1 call e.x0.x0 e.x0.x1 H) (fun call _ H _ h => by obtain ⟨t0, t1, rfl, h⟩ := argA2_eq h; exact ⟨rfl, (show _ = S243_1 call t0 t1 H by kernel_rfl).trans h⟩)
    fun call => (cv (fun e H => S243_1 call e.x0.x0 e.x0.x1 H) (sq (sq se (sq (sq (cv (fun e H => S243_0 call e.x0.x1 e.x0.x4 e.x0.x13 e.x0.x16 H) se) se) se)) se))
theorem S244_ok : Stands Tryz.prog [0] 1000000 244 S244 :=
  stands_of (s := S244) 11 [] 2 (fun call e H => S244_0 call e.x0.x0 e.x0.x1 H) (fun call _ H _ h => by obtain ⟨t0, t1, rfl, h⟩ := argA2_eq h; exact ⟨rfl, (show _ = S244_0 call t0 t1 H by kernel_rfl).trans h⟩)
    fun call => (cv (fun e H => S244_0 call e.x0.x0 e.x0.x1 H) se)
theorem S245_ok : Stands Tryz.prog [0] 1000000 245 S245 :=
  stands_of (s := S245) 31 [.tmp 4, .tmp 5] 2 (fun call e H => S245_1 call e.x0.x0 e.x0.x1 H) (fun call _ H _ h => by obtain ⟨t0, t1, rfl, h⟩ := argA2_eq h; exact ⟨rfl, (show _ = S245_1 call t0 t1 H by kernel_rfl).trans h⟩)
    fun call => (cv (fun e H => S245_1 call e.x0.x0 e.x0.x1 H) (sq (sq (sq se (sq se (sq (sq (cv (fun e H => S245_0 call e.x0.x0 e.x0.x6 e.x0.x7 e.x0.x19 e.x1.x1 H) se) se) se))) se) se))
theorem S247_ok : Stands Tryz.prog [0] 1000000 247 S247 :=
  stands_of (s := S247) 21 [.tmp 2, .tmp 3] 1 (fun call e H => S247_0 call e.x0.x0 H) (fun call _ H _ h => by obtain ⟨t0, rfl, h⟩ := argA1_eq h; exact ⟨rfl, (show _ = S247_0 call t0 H by kernel_rfl).trans h⟩)
    fun call => (cv (fun e H => S247_0 call e.x0.x0 H) se)
theorem S248_ok : Stands Tryz.prog [0] 1000000 248 S248 :=
  stands_of (s := S248) 19 [.tmp 8] 4 (fun call e H => S248_0 call e.x0.x0 e.x0.x1 e.x0.x2 e.x0.x3 H) (fun call _ H _ h => by obtain ⟨t0, t1, t2, t3, rfl, h⟩ := argA4_eq h; exact ⟨rfl, (show _ = S248_0 call t0 t1 t2 t3 H by kernel_rfl).trans h⟩)
    fun call => (cv (fun e H => S248_0 call e.x0.x0 e.x0.x1 e.x0.x2 e.x0.x3 H) se)
theorem S249_ok : Stands Tryz.prog [0] 1000000 249 S249 :=
  stands_of (s := S249) 29 [.tmp 8] 4 (fun call e H => S249_0 call e.x0.x0 e.x0.x1 e.x0.x2 e.x0.x3 H) (fun call _ H _ h => by obtain ⟨t0, t1, t2, t3, rfl, h⟩ := argA4_eq h; exact ⟨rfl, (show _ = S249_0 call t0 t1 t2 t3 H by kernel_rfl).trans h⟩)
    fun call => (cv (fun e H => S249_0 call e.x0.x0 e.x0.x1 e.x0.x2 e.x0.x3 H) se)
theorem S251_ok : Stands Tryz.prog [0] 1000000 251 S251 :=
  stands_of (s := S251) 16 [] 4 (fun call e H => S251_0 call e.x0.x0 e.x0.x1 e.x0.x2 e.x0.x3 H) (fun call _ H _ h => by obtain ⟨t0, t1, t2, t3, rfl, h⟩ := argA4_eq h; exact ⟨rfl, (show _ = S251_0 call t0 t1 t2 t3 H by kernel_rfl).trans h⟩)
    fun call => (cv (fun e H => S251_0 call e.x0.x0 e.x0.x1 e.x0.x2 e.x0.x3 H) se)
theorem S255_ok : Stands Tryz.prog [0] 1000000 255 S255 :=
  stands_of (s := S255) 21 [.tmp 6] 3 (fun call e H => S255_1 call e.x0.x0 e.x0.x1 e.x0.x2 H) (fun call _ H _ h => by obtain ⟨t0, t1, t2, rfl, h⟩ := argA3_eq h; exact ⟨rfl, (show _ = S255_1 call t0 t1 t2 H by kernel_rfl).trans h⟩)
    fun call => (cv (fun e H => S255_1 call e.x0.x0 e.x0.x1 e.x0.x2 H) (sq (sq (sq se (sq (sq (cv (fun e H => S255_0 call e.x0.x16 e.x0.x19 H) se) se) se)) se) se))
theorem S257_ok : Stands Tryz.prog [0] 1000000 257 S257 :=
  stands_of (s := S257) 64 [.tmp 8] 4 (fun call e H => S257_2 call e.x0.x0 e.x0.x1 e.x0.x2 e.x0.x3 H) (fun call _ H _ h => by obtain ⟨t0, t1, t2, t3, rfl, h⟩ := argA4_eq h; exact ⟨rfl, (show _ = S257_2 call t0 t1 t2 t3 H by kernel_rfl).trans h⟩)
    fun call => (cv (fun e H => S257_2 call e.x0.x0 e.x0.x1 e.x0.x2 e.x0.x3 H) (sq (sq (sq (sq (cv (fun e H => S257_0 call e.x0.x0 e.x0.x1 e.x0.x2 e.x0.x9 H) se) se) se) (sq se (sq (sq (cv (fun e H => S257_1 call e.x0.x0 e.x0.x1 e.x0.x2 e.x0.x3 e.x0.x15 e.x1.x2 H) se) se) se))) se))
theorem S258_ok : Stands Tryz.prog [0] 1000000 258 S258 :=
  stands_of (s := S258) 20 [.tmp 6] 3 (fun call e H => S258_0 call e.x0.x0 e.x0.x1 e.x0.x2 H) (fun call _ H _ h => by obtain ⟨t0, t1, t2, rfl, h⟩ := argA3_eq h; exact ⟨rfl, (show _ = S258_0 call t0 t1 t2 H by kernel_rfl).trans h⟩)
    fun call => (cv (fun e H => S258_0 call e.x0.x0 e.x0.x1 e.x0.x2 H) se)
theorem S266_ok : Stands Tryz.prog [0] 1000000 266 S266 :=
  stands_of (s := S266) 19 [.tmp 4] 2 (fun call e H => S266_1 call e.x0.x0 e.x0.x1 H) (fun call _ H _ h => by obtain ⟨t0, t1, rfl, h⟩ := argA2_eq h; exact ⟨rfl, (show _ = S266_1 call t0 t1 H by kernel_rfl).trans h⟩)
    fun call => (cv (fun e H => S266_1 call e.x0.x0 e.x0.x1 H) (sq (sq se (sq (bl (lp (fun n e H => S266_0 call n e.x0.x0 e.x0.x1 e.x0.x7 e.x0.x8 H) fun _ => cv _ se)) se)) se))
theorem S267_ok : Stands Tryz.prog [0] 1000000 267 S267 :=
  stands_of (s := S267) 19 [.tmp 4] 2 (fun call e H => S267_1 call e.x0.x0 e.x0.x1 H) (fun call _ H _ h => by obtain ⟨t0, t1, rfl, h⟩ := argA2_eq h; exact ⟨rfl, (show _ = S267_1 call t0 t1 H by kernel_rfl).trans h⟩)
    fun call => (cv (fun e H => S267_1 call e.x0.x0 e.x0.x1 H) (sq (sq se (sq (bl (lp (fun n e H => S267_0 call n e.x0.x0 e.x0.x1 e.x0.x7 e.x0.x8 H) fun _ => cv _ se)) se)) se))
theorem S268_ok : Stands Tryz.prog [0] 1000000 268 S268 :=
  stands_of (s := S268) 11 [.tmp 3] 2 (fun call e H => S268_1 call e.x0.x0 e.x0.x1 H) (fun call _ H _ h => by obtain ⟨t0, t1, rfl, h⟩ := argA2_eq h; exact ⟨rfl, (show _ = S268_1 call t0 t1 H by kernel_rfl).trans h⟩)
    fun call => (cv (fun e H => S268_1 call e.x0.x0 e.x0.x1 H) (sq (sq se (sq (sq (cv (fun e H => S268_0 call e.x0.x6 e.x0.x9 H) se) se) se)) se))
theorem S269_ok : Stands Tryz.prog [0] 1000000 269 S269 :=
  stands_of (s := S269) 16 [.tmp 4] 2 (fun call e H => S269_1 call e.x0.x0 e.x0.x1 H) (fun call _ H _ h => by obtain ⟨t0, t1, rfl, h⟩ := argA2_eq h; exact ⟨rfl, (show _ = S269_1 call t0 t1 H by kernel_rfl).trans h⟩)
    fun call => (cv (fun e H => S269_1 call e.x0.x0 e.x0.x1 H) (sq (sq se (sq (sq (cv (fun e H => S269_0 call e.x0.x7 e.x0.x14 H) se) se) se)) se))
theorem S270_ok : Stands Tryz.prog [0] 1000000 270 S270 :=
  stands_of (s := S270) 33 [.tmp 6] 3 (fun call e H => S270_5 call e.x0.x0 e.x0.x1 e.x0.x2 H) (fun call _ H _ h => by obtain ⟨t0, t1, t2, rfl, h⟩ := argA3_eq h; exact ⟨rfl, (show _ = S270_5 call t0 t1 t2 H by kernel_rfl).trans h⟩)
    fun call => (cv (fun e H => S270_5 call e.x0.x0 e.x0.x1 e.x0.x2 H) (sq (sq se (sq (sq (cv (fun e H => S270_4 call e.x0.x0 e.x0.x1 e.x0.x2 e.x0.x9 e.x0.x12 H) (sq (sq (cv (fun e H => S270_3 call e.x0.x0 e.x0.x1 e.x0.x2 e.x0.x9 e.x0.x12 e.x0.x19 H) (sq (sq (cv (fun e H => S270_2 call e.x0.x0 e.x0.x1 e.x0.x2 e.x0.x9 e.x1.x1 H) (sq (sq (cv (fun e H => S270_1 call e.x0.x9 e.x1.x1 e.x1.x10 H) (sq (sq (cv (fun e H => S270_0 call e.x0.x9 e.x1.x11 H) se) se) se)) se) se)) se) se)) se) se)) se) se)) se))
theorem S271_ok : Stands Tryz.prog [0] 1000000 271 S271 :=
  stands_of (s := S271) 15 [.tmp 4] 2 (fun call e H => S271_0 call e.x0.x0 e.x0.x1 H) (fun call _ H _ h => by obtain ⟨t0, t1, rfl, h⟩ := argA2_eq h; exact ⟨rfl, (show _ = S271_0 call t0 t1 H by kernel_rfl).trans h⟩)
    fun call => (cv (fun e H => S271_0 call e.x0.x0 e.x0.x1 H) se)
theorem S272_ok : Stands Tryz.prog [0] 1000000 272 S272 :=
  stands_of (s := S272) 27 [.cell (.some 7) 4, .tmp 5] 2 (fun call e H => S272_1 call e.x0.x0 e.x0.x1 H) (fun call _ H _ h => by obtain ⟨t0, t1, rfl, h⟩ := argA2_eq h; exact ⟨rfl, (show _ = S272_1 call t0 t1 H by kernel_rfl).trans h⟩)
    fun call => (cv (fun e H => S272_1 call e.x0.x0 e.x0.x1 H) (sq (sq se (sq se (sq (sq (cv (fun e H => S272_0 call e.x0.x0 e.x0.x1 e.x0.x4 e.x0.x8 e.x0.x16 H) se) se) se))) se))
theorem S273_ok : Stands Tryz.prog [0] 1000000 273 S273 :=
  stands_of (s := S273) 74 [.tmp 2, .tmp 3] 1 (fun call e H => S273_36 call e.x0.x0 H) (fun call _ H _ h => by obtain ⟨t0, rfl, h⟩ := argA1_eq h; exact ⟨rfl, (show _ = S273_36 call t0 H by kernel_rfl).trans h⟩)
    fun call => (cv (fun e H => S273_36 call e.x0.x0 H) (sq (sq se (sq se (sq (sq (cv (fun e H => S273_35 call e.x0.x0 e.x0.x10 e.x0.x11 H) (sq (sq (cv (fun e H => S273_34 call e.x0.x0 e.x0.x10 e.x0.x12 H) (sq (sq (cv (fun e H => S273_33 call e.x0.x0 e.x0.x10 e.x0.x13 H) (sq (sq (cv (fun e H => S273_32 call e.x0.x0 e.x0.x10 e.x0.x14 H) (sq (sq (cv (fun e H => S273_31 call e.x0.x0 e.x0.x10 e.x0.x15 H) (sq (sq (cv (fun e H => S273_30 call e.x0.x0 e.x0.x10 e.x0.x16 H) (sq (sq (cv (fun e H => S273_29 call e.x0.x0 e.x0.x18 e.x0.x19 H) (sq (sq (cv (fun e H => S273_28 call e.x0.x0 e.x0.x18 e.x1.x0 H) (sq (sq (cv (fun e H => S273_27 call e.x0.x0 e.x0.x18 e.x1.x1 H) (sq (sq (cv (fun e H => S273_26 call e.x0.x0 e.x0.x18 e.x1.x2 H) (sq (sq (cv (fun e H => S273_25 call e.x0.x0 e.x0.x18 e.x1.x3 H) (sq (sq (cv (fun e H => S273_24 call e.x0.x0 e.x0.x18 e.x1.x3 e.x1.x4 H) (sq (sq (cv (fun e H => S273_23 call e.x0.x0 e.x0.x18 e.x1.x3 e.x1.x5 H) (sq (sq (cv (fun e H => S273_22 call e.x0.x0 e.x0.x18 e.x1.x3 e.x1.x6 H) (sq (sq (cv (fun e H => S273_21 call e.x0.x0 e.x0.x18 e.x1.x3 e.x1.x7 H) (sq (sq (cv (fun e H => S273_20 call e.x0.x0 e.x0.x18 e.x1.x3 e.x1.x8 H) (sq (sq (cv (fun e H => S273_19 call e.x0.x0 e.x0.x18 e.x1.x3 e.x1.x9 H) (sq (sq (cv (fun e H => S273_18 call e.x0.x0 e.x0.x18 e.x1.x10 H) (sq (sq (cv (fun e H => S273_17 call e.x0.x0 e.x1.x12 e.x1.x13 H) (sq (sq (cv (fun e H => S273_16 call e.x0.x0 e.x1.x12 e.x1.x14 H) (sq (sq (cv (fun e H => S273_15 call e.x0.x0 e.x1.x12 e.x1.x15 H) (sq (sq (cv (fun e H => S273_14 call e.x0.x0 e.x1.x12 e.x1.x16 H) (sq (sq (cv (fun e H => S273_13 call e.x0.x0 e.x1.x12 e.x1.x17 H) (sq (sq (cv (fun e H => S273_12 call e.x0.x0 e.x1.x12 e.x1.x17 e.x1.x18 H) (sq (sq (cv (fun e H => S273_11 call e.x0.x0 e.x1.x12 e.x1.x17 e.x1.x19 H) (sq (sq (cv (fun e H => S273_10 call e.x0.x0 e.x1.x12 e.x1.x17 e.x2.x0 H) (sq (sq (cv (fun e H => S273_9 call e.x0.x0 e.x1.x12 e.x1.x17 e.x2.x1 H) (sq (sq (cv (fun e H => S273_8 call e.x0.x0 e.x1.x12 e.x1.x17 e.x2.x2 H) (sq (sq (cv (fun e H => S273_7 call e.x0.x0 e.x1.x12 e.x1.x17 e.x2.x3 H) (sq (sq (cv (fun e H => S273_6 call e.x0.x0 e.x1.x12 e.x1.x17 e.x2.x3 e.x2.x4 H) (sq (sq (cv (fun e H => S273_5 call e.x0.x0 e.x1.x12 e.x1.x17 e.x2.x3 e.x2.x5 H) (sq (sq (cv (fun e H => S273_4 call e.x0.x0 e.x1.x12 e.x1.x17 e.x2.x3 e.x2.x6 H) (sq (sq (cv (fun e H => S273_3 call e.x0.x0 e.x1.x12 e.x1.x17 e.x2.x3 e.x2.x7 H) (sq (sq (cv (fun e H => S273_2 call e.x0.x0 e.x1.x12 e.x1.x17 e.x2.x3 e.x2.x8 H) (sq (sq (cv (fun e H => S273_1 call e.x0.x0 e.x1.x12 e.x1.x17 e.x2.x9 H) (sq (sq (cv (fun e H => S273_0 call e.x0.x0 e.x1.x12 e.x2.x10 H) se) se) se)) se) se)) se) se)) se) se)) se) se)) se) se)) se) se)) se) se)) se) se)) se) se)) se) se)) se) se)) se) se)) se) se)) se) se)) se) se)) se) se)) se) se)) se) se)) se) se)) se) se)) se) se)) se) se)) se) se)) se) se)) se) se)) se) se)) se) se)) se) se)) se) se)) se) se)) se) se)) se) se)) se) se)) se) se)) se) se))) se))
theorem S274_ok : Stands Tryz.prog [0] 1000000 274 S274 :=
  stands_of (s := S274) 9 [.tmp 4] 2 (fun call e H => S274_0 call e.x0.x0 e.x0.x1 H) (fun call _ H _ h => by obtain ⟨t0, t1, rfl, h⟩ := argA2_eq h; exact ⟨rfl, (show _ = S274_0 call t0 t1 H by kernel_rfl).trans h⟩)
    fun call => (cv (fun e H => S274_0 call e.x0.x0 e.x0.x1 H) se)
theorem S275_ok : Stands Tryz.prog [0] 1000000 275 S275 :=
  stands_of (s := S275) 39 [.tmp 4] 3 (fun call e H => S275_8 call e.x0.x0 e.x0.x1 e.x0.x2 H) (fun call _ H _ h => by obtain ⟨t0, t1, t2, rfl, h⟩ := argA3_eq h; exact ⟨rfl, (show _ = S275_8 call t0 t1 t2 H by kernel_rfl).trans h⟩)
    fun call => (cv (fun e H => S275_8 call e.x0.x0 e.x0.x1 e.x0.x2 H) (sq (sq se (sq (sq (cv (fun e H => S275_7 call e.x0.x1 e.x0.x2 e.x0.x3 e.x0.x8 e.x0.x13 H) (sq (sq (cv (fun e H => S275_6 call e.x0.x1 e.x0.x3 e.x0.x8 e.x0.x13 e.x0.x17 H) (sq (sq (cv (fun e H => S275_5 call e.x0.x1 e.x0.x3 e.x0.x8 e.x0.x19 H) (sq (sq (cv (fun e H => S275_4 call e.x0.x1 e.x0.x3 e.x1.x1 e.x1.x5 H) (sq (sq (cv (fun e H => S275_3 call e.x0.x1 e.x0.x3 e.x1.x1 e.x1.x5 e.x1.x10 H) (sq (sq (cv (fun e H => S275_2 call e.x1.x1 e.x1.x5 e.x1.x10 e.x1.x14 H) (sq (sq (cv (fun e H => S275_1 call e.x1.x1 e.x1.x5 e.x1.x16 H) (sq (sq (cv (fun e H => S275_0 call e.x1.x1 e.x1.x17 H) se) se) se)) se) se)) se) se)) se) se)) se) se)) se) se)) se) se)) se) se)) se))
theorem S276_ok : Stands Tryz.prog [0] 1000000 276 S276 :=
  stands_of (s := S276) 9 [.tmp 4] 2 (fun call e H => S276_0 call e.x0.x0 e.x0.x1 H) (fun call _ H _ h => by obtain ⟨t0, t1, rfl, h⟩ := argA2_eq h; exact ⟨rfl, (show _ = S276_0 call t0 t1 H by kernel_rfl).trans h⟩)
    fun call => (cv (fun e H => S276_0 call e.x0.x0 e.x0.x1 H) se)
theorem S277_ok : Stands Tryz.prog [0] 1000000 277 S277 :=
  stands_of (s := S277) 8 [.tmp 3] 2 (fun call e H => S277_0 call e.x0.x0 e.x0.x1 H) (fun call _ H _ h => by obtain ⟨t0, t1, rfl, h⟩ := argA2_eq h; exact ⟨rfl, (show _ = S277_0 call t0 t1 H by kernel_rfl).trans h⟩)
    fun call => (cv (fun e H => S277_0 call e.x0.x0 e.x0.x1 H) se)
theorem S278_ok : Stands Tryz.prog [0] 1000000 278 S278 :=
  stands_of (s := S278) 32 [.tmp 6] 3 (fun call e H => S278_2 call e.x0.x0 e.x0.x1 e.x0.x2 H) (fun call _ H _ h => by obtain ⟨t0, t1, t2, rfl, h⟩ := argA3_eq h; exact ⟨rfl, (show _ = S278_2 call t0 t1 t2 H by kernel_rfl).trans h⟩)
    fun call => (cv (fun e H => S278_2 call e.x0.x0 e.x0.x1 e.x0.x2 H) (sq (sq se (sq (sq (cv (fun e H => S278_1 call e.x0.x0 e.x0.x1 e.x0.x2 e.x0.x9 e.x0.x17 H) (sq (sq (cv (fun e H => S278_0 call e.x0.x19 e.x1.x10 H) se) se) se)) se) se)) se))
theorem S279_ok : Stands Tryz.prog [0] 1000000 279 S279 :=
  stands_of (s := S279) 72 [.tmp 2] 1 (fun call e H => S279_21 call e.x0.x0 H) (fun call _ H _ h => by obtain ⟨t0, rfl, h⟩ := argA1_eq h; exact ⟨rfl, (show _ = S279_21 call t0 H by kernel_rfl).trans h⟩)
    fun call => (cv (fun e H => S279_21 call e.x0.x0 H) (sq (sq (sq (sq (sq (cv (fun e H => S279_2 call e.x0.x0 e.x0.x3 e.x0.x5 H) (sq (cv (fun e H => S279_0 call e.x0.x5 H) se) (sq (bl (lp (fun n e H => S279_1 call n e.x0.x0 e.x0.x5 e.x2.x13 e.x2.x14 H) fun _ => cv _ se)) se))) (sq (bl (lp (fun n e H => S279_3 call n e.x0.x0 e.x0.x3 e.x0.x5 e.x0.x16 e.x0.x17 e.x0.x18 H) fun n1 => cv _ (sq (sq (sq (cv (fun e H => S279_4 call (S279_3 call n1) e.x0.x0 e.x0.x3 e.x0.x5 e.x0.x16 e.x0.x17 e.x0.x18 H) se) (bl (sq (sq se (sq se (sq (sq (cv (fun e H => S279_20 call (S279_3 call n1) e.x0.x0 e.x0.x3 e.x0.x5 e.x0.x6 e.x0.x7 e.x0.x16 e.x0.x17 e.x0.x18 e.x1.x6 e.x1.x7 H) (sq (sq (cv (fun e H => S279_19 call (S279_3 call n1) e.x0.x0 e.x0.x3 e.x0.x5 e.x0.x6 e.x0.x7 e.x0.x16 e.x0.x17 e.x0.x18 e.x1.x6 e.x1.x8 H) (sq (sq (cv (fun e H => S279_18 call (S279_3 call n1) e.x0.x0 e.x0.x3 e.x0.x5 e.x0.x6 e.x0.x7 e.x0.x16 e.x0.x17 e.x0.x18 e.x1.x6 e.x1.x9 H) (sq (sq (cv (fun e H => S279_17 call (S279_3 call n1) e.x0.x0 e.x0.x3 e.x0.x5 e.x0.x6 e.x0.x7 e.x0.x16 e.x0.x17 e.x0.x18 e.x1.x11 e.x1.x12 H) (sq (sq (cv (fun e H => S279_16 call (S279_3 call n1) e.x0.x0 e.x0.x3 e.x0.x5 e.x0.x6 e.x0.x7 e.x0.x16 e.x0.x17 e.x0.x18 e.x1.x11 e.x1.x13 H) (sq (sq (cv (fun e H => S279_15 call (S279_3 call n1) e.x0.x0 e.x0.x3 e.x0.x5 e.x0.x6 e.x0.x7 e.x0.x16 e.x0.x17 e.x0.x18 e.x1.x11 e.x1.x14 H) (sq (sq (cv (fun e H => S279_14 call (S279_3 call n1) e.x0.x0 e.x0.x3 e.x0.x5 e.x0.x6 e.x0.x7 e.x0.x16 e.x0.x17 e.x0.x18 e.x1.x11 e.x1.x15 H) (sq (sq (cv (fun e H => S279_13 call (S279_3 call n1) e.x0.x0 e.x0.x3 e.x0.x5 e.x0.x6 e.x0.x7 e.x0.x16 e.x0.x17 e.x0.x18 e.x1.x11 e.x1.x15 e.x1.x16 H) (sq (sq (cv (fun e H => S279_12 call (S279_3 call n1) e.x0.x0 e.x0.x3 e.x0.x5 e.x0.x6 e.x0.x7 e.x0.x16 e.x0.x17 e.x0.x18 e.x1.x11 e.x1.x15 e.x1.x17 H) (sq (sq (cv (fun e H => S279_11 call (S279_3 call n1) e.x0.x0 e.x0.x3 e.x0.x5 e.x0.x6 e.x0.x7 e.x0.x16 e.x0.x17 e.x0.x18 e.x1.x11 e.x1.x15 e.x1.x18 H) (sq (sq (cv (fun e H => S279_10 call (S279_3 call n1) e.x0.x0 e.x0.x3 e.x0.x5 e.x0.x6 e.x0.x7 e.x0.x16 e.x0.x17 e.x0.x18 e.x1.x11 e.x1.x15 e.x1.x19 H) (sq (sq (cv (fun e H => S279_9 call (S279_3 call n1) e.x0.x0 e.x0.x3 e.x0.x5 e.x0.x6 e.x0.x7 e.x0.x16 e.x0.x17 e.x0.x18 e.x1.x11 e.x1.x15 e.x2.x0 H) (sq (sq (cv (fun e H => S279_8 call (S279_3 call n1) e.x0.x0 e.x0.x3 e.x0.x5 e.x0.x7 e.x0.x16 e.x0.x17 e.x0.x18 e.x1.x11 e.x1.x15 e.x2.x0 e.x2.x1 H) (sq (sq (cv (fun e H => S279_7 call (S279_3 call n1) e.x0.x0 e.x0.x3 e.x0.x5 e.x0.x7 e.x0.x16 e.x0.x17 e.x0.x18 e.x1.x11 e.x1.x15 e.x2.x2 H) (sq (sq (cv (fun e H => S279_6 call (S279_3 call n1) e.x0.x0 e.x0.x3 e.x0.x5 e.x0.x7 e.x0.x16 e.x0.x17 e.x0.x18 e.x1.x11 e.x2.x3 H) (sq (sq (cv (fun e H => S279_5 call (S279_3 call n1) e.x0.x0 e.x0.x3 e.x0.x5 e.x0.x7 e.x0.x16 e.x0.x17 e.x0.x18 e.x1.x11 e.x2.x4 H) se) se) se)) se) se)) se) se)) se) se)) se) se)) se) se)) se) se)) se) se)) se) se)) se) se)) se) se)) se) se)) se) se)) se) se)) se) se)) se) se))) se))) se) se))) se)) se) se) se) se))
theorem S280_ok : Stands Tryz.prog [0] 1000000 280 S280 :=
  stands_of (s := S280) 11 [.tmp 6] 3 (fun call e H => S280_0 call e.x0.x0 e.x0.x1 e.x0.x2 H) (fun call _ H _ h => by obtain ⟨t0, t1, t2, rfl, h⟩ := argA3_eq h; exact ⟨rfl, (show _ = S280_0 call t0 t1 t2 H by kernel_rfl).trans h⟩)
    fun call => (cv (fun e H => S280_0 call e.x0.x0 e.x0.x1 e.x0.x2 H) se)
theorem S281_ok : Stands Tryz.prog [0] 1000000 281 S281 :=
  stands_of (s := S281) 15 [.tmp 3] 2 (fun call e H => S281_1 call e.x0.x0 e.x0.x1 H) (fun call _ H _ h => by obtain ⟨t0, t1, rfl, h⟩ := argA2_eq h; exact ⟨rfl, (show _ = S281_1 call t0 t1 H by kernel_rfl).trans h⟩)
    fun call => (cv (fun e H => S281_1 call e.x0.x0 e.x0.x1 H) (sq (sq se (sq (sq (cv (fun e H => S281_0 call e.x0.x7 e.x0.x13 H) se) se) se)) se))
theorem S282_ok : Stands Tryz.prog [0] 1000000 282 S282 :=
  stands_of (s := S282) 122 [.tmp 2] 1 (fun call e H => S282_15 call e.x0.x0 H) (fun call _ H _ h => by obtain ⟨t0, rfl, h⟩ := argA1_eq h; exact ⟨rfl, (show _ = S282_15 call t0 H by kernel_rfl).trans h⟩)
    fun call => (cv (fun e H => S282_15 call e.x0.x0 H) (sq (sq (sq se (sq (bl (sq (cn (sq (sq (sq se (sq (sq (cv (fun e H => S282_2 call e.x0.x0 e.x0.x3 e.x0.x4 e.x1.x16 e.x2.x0 H) (sq (sq (cv (fun e H => S282_1 call e.x1.x16 e.x2.x0 e.x2.x8 H) (sq (sq (cv (fun e H => S282_0 call e.x1.x16 e.x2.x9 H) se) se) se)) se) se)) se) se)) se) se) (sq (cn se (sq (cn (sq (sq se (sq (sq (cv (fun e H => S282_3 call e.x4.x1 e.x4.x10 H) se) se) se)) se) (sq (cn (sq (sq se (sq (sq (cv (fun e H => S282_14 call e.x0.x0 e.x0.x3 e.x5.x9 e.x5.x10 H) (sq (sq (cv (fun e H => S282_13 call e.x0.x3 e.x5.x9 e.x5.x10 e.x5.x11 H) (sq (sq (cv (fun e H => S282_12 call e.x0.x3 e.x5.x9 e.x5.x10 e.x5.x12 H) (sq (sq (cv (fun e H => S282_11 call e.x0.x3 e.x5.x9 e.x5.x10 e.x5.x13 H) (sq (sq (cv (fun e H => S282_10 call e.x0.x3 e.x5.x9 e.x5.x10 e.x5.x14 H) (sq (sq (cv (fun e H => S282_9 call e.x0.x3 e.x5.x9 e.x5.x10 e.x5.x15 H) (sq (sq (cv (fun e H => S282_8 call e.x0.x3 e.x5.x9 e.x5.x10 e.x5.x16 H) (sq (sq (cv (fun e H => S282_7 call e.x5.x9 e.x5.x10 e.x5.x16 e.x5.x17 H) (sq (sq (cv (fun e H => S282_6 call e.x5.x9 e.x5.x10 e.x5.x16 e.x5.x18 H) (sq (sq (cv (fun e H => S282_5 call e.x5.x9 e.x5.x10 e.x5.x16 e.x5.x19 H) (sq (sq (cv (fun e H => S282_4 call e.x5.x9 e.x6.x0 H) se) se) se)) se) se)) se) se)) se) se)) se) se)) se) se)) se) se)) se) se)) se) se)) se) se)) se) se)) se) se) se)) se)) se)) se)) se)) se) se))
theorem S283_ok : Stands Tryz.prog [0] 1000000 283 S283 :=
  stands_of (s := S283) 49 [.tmp 2] 1 (fun call e H => S283_1 call e.x0.x0 H) (fun call _ H _ h => by obtain ⟨t0, rfl, h⟩ := argA1_eq h; exact ⟨rfl, (show _ = S283_1 call t0 H by kernel_rfl).trans h⟩)
    fun call => (cv (fun e H => S283_1 call e.x0.x0 H) (sq (sq se (sq (bl (sq (cn se (sq (cn se (sq (cn (sq (sq (sq se (sq (bl (lp (fun n e H => S283_0 call n e.x0.x3 e.x1.x16 e.x1.x17 e.x1.x18 H) fun _ => cv _ se)) se)) se) se) se) se)) se)) se)) se)) se))
theorem S287_ok : Stands Tryz.prog [0] 1000000 287 S287 :=
  stands_of (s := S287) 38 [.tmp 6] 3 (fun call e H => S287_2 call e.x0.x0 e.x0.x1 e.x0.x2 H) (fun call _ H _ h => by obtain ⟨t0, t1, t2, rfl, h⟩ := argA3_eq h; exact ⟨rfl, (show _ = S287_2 call t0 t1 t2 H by kernel_rfl).trans h⟩)
    fun call => (cv (fun e H => S287_2 call e.x0.x0 e.x0.x1 e.x0.x2 H) (sq (sq (sq se (sq se (sq (sq (cv (fun e H => S287_1 call e.x0.x0 e.x0.x1 e.x0.x2 e.x0.x7 e.x0.x17 e.x0.x19 H) (sq (sq (cv (fun e H => S287_0 call e.x0.x0 e.x0.x1 e.x0.x2 e.x1.x1 e.x1.x8 H) se) se) se)) se) se))) se) se))
theorem S288_ok : Stands Tryz.prog [0] 1000000 288 S288 :=
  stands_of (s := S288) 18 [.tmp 6] 3 (fun call e H => S288_0 call e.x0.x0 e.x0.x1 e.x0.x2 H) (fun call _ H _ h => by obtain ⟨t0, t1, t2, rfl, h⟩ := argA3_eq h; exact ⟨rfl, (show _ = S288_0 call t0 t1 t2 H by kernel_rfl).trans h⟩)
    fun call => (cv (fun e H => S288_0 call e.x0.x0 e.x0.x1 e.x0.x2 H) se)
theorem S289_ok : Stands Tryz.prog [0] 1000000 289 S289 :=
  stands_of (s := S289) 31 [.tmp 2] 1 (fun call e H => S289_5 call e.x0.x0 H) (fun call _ H _ h => by obtain ⟨t0, rfl, h⟩ := argA1_eq h; exact ⟨rfl, (show _ = S289_5 call t0 H by kernel_rfl).trans h⟩)
    fun call => (cv (fun e H => S289_5 call e.x0.x0 H) (sq (sq se (sq (sq (cv (fun e H => S289_4 call e.x0.x1 e.x0.x6 e.x0.x9 H) (sq (sq (cv (fun e H => S289_3 call e.x0.x1 e.x0.x11 e.x0.x14 H) (sq (sq (cv (fun e H => S289_2 call e.x0.x1 e.x0.x16 e.x0.x19 H) (sq (sq (cv (fun e H => S289_1 call e.x0.x1 e.x1.x1 e.x1.x4 H) (sq (sq (cv (fun e H => S289_0 call e.x1.x6 e.x1.x9 H) se) se) se)) se) se)) se) se)) se) se)) se) se)) se))
theorem S290_ok : Stands Tryz.prog [0] 1000000 290 S290 :=
  stands_of (s := S290) 43 [.tmp 4, .tmp 5] 2 (fun call e H => S290_1 call e.x0.x0 e.x0.x1 H) (fun call _ H _ h => by obtain ⟨t0, t1, rfl, h⟩ := argA2_eq h; exact ⟨rfl, (show _ = S290_1 call t0 t1 H by kernel_rfl).trans h⟩)
    fun call => (cv (fun e H => S290_1 call e.x0.x0 e.x0.x1 H) (sq (sq (sq (sq (sq se (sq se (sq (sq (cv (fun e H => S290_0 call e.x0.x0 e.x0.x6 e.x0.x8 e.x0.x19 e.x1.x12 H) se) se) se))) se) se) se) se))
theorem S291_ok : Stands Tryz.prog [0] 1000000 291 S291 :=
  stands_of (s := S291) 7 [.tmp 2] 1 (fun call e H => S291_0 call e.x0.x0 H) (fun call _ H _ h => by obtain ⟨t0, rfl, h⟩ := argA1_eq h; exact ⟨rfl, (show _ = S291_0 call t0 H by kernel_rfl).trans h⟩)
    fun call => (cv (fun e H => S291_0 call e.x0.x0 H) se)
theorem S292_ok : Stands Tryz.prog [0] 1000000 292 S292 :=
  stands_of (s := S292) 7 [.tmp 2] 1 (fun call e H => S292_0 call e.x0.x0 H) (fun call _ H _ h => by obtain ⟨t0, rfl, h⟩ := argA1_eq h; exact ⟨rfl, (show _ = S292_0 call t0 H by kernel_rfl).trans h⟩)
    fun call => (cv (fun e H => S292_0 call e.x0.x0 H) se)
theorem S293_ok : Stands Tryz.prog [0] 1000000 293 S293 :=
  stands_of (s := S293) 119 [.tmp 4, .tmp 5] 2 (fun call e H => S293_8 call e.x0.x0 e.x0.x1 H) (fun call _ H _ h => by obtain ⟨t0, t1, rfl, h⟩ := argA2_eq h; exact ⟨rfl, (show _ = S293_8 call t0 t1 H by kernel_rfl).trans h⟩)
    fun call => (cv (fun e H => S293_8 call e.x0.x0 e.x0.x1 H) (sq (sq (sq (sq (sq (cv (fun e H => S293_2 call e.x0.x0 e.x0.x6 H) (sq se (sq (bl (lp (fun n e H => S293_0 call n e.x0.x0 e.x0.x6 e.x4.x14 e.x4.x15 e.x4.x16 H) fun n0 => cv _ (sq (sq (sq (cv (fun e H => S293_1 call (S293_0 call n0) e.x0.x0 e.x0.x6 e.x4.x14 e.x4.x15 e.x4.x16 H) se) se) se) se))) se))) (sq (bl (lp (fun n e H => S293_3 call n e.x0.x0 e.x0.x6 e.x0.x8 H) fun _ => cv _ se)) se)) (sq (bl (lp (fun n e H => S293_4 call n e.x0.x0 e.x0.x6 e.x0.x19 e.x1.x0 H) fun n2 => cv _ (sq (sq (sq (cv (fun e H => S293_5 call (S293_4 call n2) e.x0.x0 e.x0.x6 e.x0.x19 e.x1.x0 H) se) (bl (sq (sq (sq (cv (fun e H => S293_7 call (S293_4 call n2) e.x0.x0 e.x0.x6 e.x0.x7 e.x0.x19 e.x1.x0 H) (sq se (sq (sq (cv (fun e H => S293_6 call (S293_4 call n2) e.x0.x0 e.x0.x6 e.x0.x7 e.x0.x19 e.x1.x0 e.x2.x9 e.x2.x18 H) se) se) se))) se) se) se))) se) se))) se)) se) se) se))
theorem S294_ok : Stands Tryz.prog [0] 1000000 294 S294 :=
  stands_of (s := S294) 21 [.tmp 4] 2 (fun call e H => S294_3 call e.x0.x0 e.x0.x1 H) (fun call _ H _ h => by obtain ⟨t0, t1, rfl, h⟩ := argA2_eq h; exact ⟨rfl, (show _ = S294_3 call t0 t1 H by kernel_rfl).trans h⟩)
    fun call => (cv (fun e H => S294_3 call e.x0.x0 e.x0.x1 H) (sq (sq se (sq (sq (cv (fun e H => S294_2 call e.x0.x0 e.x0.x1 e.x0.x7 e.x0.x9 H) (sq (sq (cv (fun e H => S294_1 call e.x0.x0 e.x0.x1 e.x0.x11 e.x0.x13 H) (sq (sq (cv (fun e H => S294_0 call e.x0.x15 e.x0.x19 H) se) se) se)) se) se)) se) se)) se))
theorem S295_ok : Stands Tryz.prog [0] 1000000 295 S295 :=
  stands_of (s := S295) 7 [.tmp 2] 1 (fun call e H => S295_0 call e.x0.x0 H) (fun call _ H _ h => by obtain ⟨t0, rfl, h⟩ := argA1_eq h; exact ⟨rfl, (show _ = S295_0 call t0 H by kernel_rfl).trans h⟩)
    fun call => (cv (fun e H => S295_0 call e.x0.x0 H) se)
theorem S298_ok : Stands Tryz.prog [0] 1000000 298 S298 :=
  stands_of (s := S298) 19 [.tmp 4] 2 (fun call e H => S298_1 call e.x0.x0 e.x0.x1 H) (fun call _ H _ h => by obtain ⟨t0, t1, rfl, h⟩ := argA2_eq h; exact ⟨rfl, (show _ = S298_1 call t0 t1 H by kernel_rfl).trans h⟩)
    fun call => (cv (fun e H => S298_1 call e.x0.x0 e.x0.x1 H) (sq (sq se (sq (bl (lp (fun n e H => S298_0 call n e.x0.x0 e.x0.x1 e.x0.x7 e.x0.x8 H) fun _ => cv _ se)) se)) se))
theorem S299_ok : Stands Tryz.prog [0] 1000000 299 S299 :=
  stands_of (s := S299) 15 [.tmp 4] 3 (fun call e H => S299_0 call e.x0.x0 e.x0.x1 e.x0.x2 H) (fun call _ H _ h => by obtain ⟨t0, t1, t2, rfl, h⟩ := argA3_eq h; exact ⟨rfl, (show _ = S299_0 call t0 t1 t2 H by kernel_rfl).trans h⟩)
    fun call => (cv (fun e H => S299_0 call e.x0.x0 e.x0.x1 e.x0.x2 H) se)
theorem S300_ok : Stands Tryz.prog [0] 1000000 300 S300 :=
  stands_of (s := S300) 35 [.tmp 10] 5 (fun call e H => S300_1 call e.x0.x0 e.x0.x1 e.x0.x2 e.x0.x3 e.x0.x4 H) (fun call _ H _ h => by obtain ⟨t0, t1, t2, t3, t4, rfl, h⟩ := argA5_eq h; exact ⟨rfl, (show _ = S300_1 call t0 t1 t2 t3 t4 H by kernel_rfl).trans h⟩)
    fun call => (cv (fun e H => S300_1 call e.x0.x0 e.x0.x1 e.x0.x2 e.x0.x3 e.x0.x4 H) (sq (sq se (sq (bl (lp (fun n e H => S300_0 call n e.x0.x0 e.x0.x2 e.x0.x3 e.x0.x6 e.x0.x12 e.x0.x13 H) fun _ => cv _ se)) se)) se))
theorem S309_ok : Stands Tryz.prog [0] 1000000 309 S309 :=
  stands_of (s := S309) 25 [.tmp 4] 2 (fun call e H => S309_1 call e.x0.x0 e.x0.x1 H) (fun call _ H _ h => by obtain ⟨t0, t1, rfl, h⟩ := argA2_eq h; exact ⟨rfl, (show _ = S309_1 call t0 t1 H by kernel_rfl).trans h⟩)
    fun call => (cv (fun e H => S309_1 call e.x0.x0 e.x0.x1 H) (sq (sq se (sq se (sq (sq (cv (fun e H => S309_0 call e.x0.x0 e.x0.x1 e.x0.x9 e.x0.x12 H) se) se) se))) se))
theorem S310_ok : Stands Tryz.prog [0] 1000000 310 S310 :=
  stands_of (s := S310) 17 [.tmp 2] 1 (fun call e H => S310_0 call 1000000 e.x0.x0 (.int .i64 (.ofNat 0)) H) (fun call _ H _ h => by obtain ⟨t0, rfl, h⟩ := argA1_eq h; exact ⟨rfl, (show _ = S310_0 call 1000000 t0 (.int .i64 (.ofNat 0)) H by kernel_rfl).trans h⟩)
    fun call => (cv (fun e H => S310_0 call 1000000 e.x0.x0 (.int .i64 (.ofNat 0)) H) (sq (sq se (sq (bl (lp (fun n e H => S310_0 call n e.x0.x0 e.x0.x4 H) fun n0 => cv _ (sq (sq (sq se (bl (sq (sq se (sq (sq (cv (fun e H => S310_1 call (S310_0 call n0) e.x0.x0 e.x0.x3 e.x0.x4 e.x0.x9 e.x0.x13 H) se) se) se)) se))) se) se))) se)) se))
theorem S311_ok : Stands Tryz.prog [0] 1000000 311 S311 :=
  stands_of (s := S311) 6 [.tmp 2] 1 (fun call e H => S311_0 call e.x0.x0 H) (fun call _ H _ h => by obtain ⟨t0, rfl, h⟩ := argA1_eq h; exact ⟨rfl, (show _ = S311_0 call t0 H by kernel_rfl).trans h⟩)
    fun call => (cv (fun e H => S311_0 call e.x0.x0 H) se)
theorem S312_ok : Stands Tryz.prog [0] 1000000 312 S312 :=
  stands_of (s := S312) 65 [.tmp 4, .tmp 5] 2 (fun call e H => S312_0 call e.x0.x0 e.x0.x1 H) (fun call _ H _ h => by obtain ⟨t0, t1, rfl, h⟩ := argA2_eq h; exact ⟨rfl, (show _ = S312_0 call t0 t1 H by kernel_rfl).trans h⟩)
    fun call => (cv (fun e H => S312_0 call e.x0.x0 e.x0.x1 H) se)
end Go.Proofs.YtlmmhkcimjjakaaGreatDoor
