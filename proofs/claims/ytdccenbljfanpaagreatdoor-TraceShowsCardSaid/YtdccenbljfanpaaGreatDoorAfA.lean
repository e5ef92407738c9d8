/- Steps through printed functions, by rewriting: what an operation comes to at values that are known. -/
import Derived.Test.YtdccenbljfanpaaGreatDoorAdE
namespace Go.Ab
noncomputable section

/-- It comes to an end, and what it comes to is so. -/
def W (r : R) (Q : AV → AHeap → Prop) : Prop := ∃ v H, r = some (v, H) ∧ Q v H

theorem W.mono {r : R} {Q Q' : AV → AHeap → Prop} (h : W r Q) (hq : ∀ v H, Q v H → Q' v H) : W r Q' := let ⟨v, H, e, q⟩ := h; ⟨v, H, e, hq v H q⟩
@[simp ↓] theorem W_some {v : AV} {H : AHeap} {Q : AV → AHeap → Prop} : W (some (v, H)) Q ↔ Q v H := ⟨fun ⟨_, _, e, q⟩ => by cases e; exact q, fun q => ⟨v, H, rfl, q⟩⟩
theorem W_ob2 {r : R} {c : Kv} {Q : AV → AHeap → Prop} : W (ob2 r c) Q ↔ W r fun v H => W (c v H) Q := by
  constructor
  · rintro ⟨v, H, e, q⟩
    cases r with
    | none => cases e
    | some p => obtain ⟨x, K⟩ := p; exact ⟨x, K, rfl, v, H, e, q⟩
  · rintro ⟨x, K, rfl, v, H, e, q⟩
    exact ⟨v, H, e, q⟩
theorem W_ob2i {r : R} {c : Kv} {Q Q0 : AV → AHeap → Prop} (h : W r Q0) (k : ∀ v H, Q0 v H → W (c v H) Q) : W (ob2 r c) Q := W_ob2.2 (h.mono k)
theorem W_pC {call : CallFn} {f : Nat} {args : List AV} {H : AHeap} {c : Kv} {Q Q0 : AV → AHeap → Prop} (h : W (call f args H) Q0) (k : ∀ v H, Q0 v H → W (c v H) Q) : W (pC call f args H c) Q := W_ob2i h k

/-! ### What is looked at, and what is not yet -/
@[congr] theorem W_congr {r r' : R} {Q : AV → AHeap → Prop} (h : r = r') : W r Q = W r' Q := by rw [h]
@[congr] theorem ob_congr {α β : Type} {o o' : Option α} {f : α → Option β} (h : o = o') : ob o f = ob o' f := by rw [h]
@[congr] theorem ob2_congr {α β γ : Type} {o o' : Option (α × β)} {f : α → β → Option γ} (h : o = o') : ob2 o f = ob2 o' f := by rw [h]
@[congr] theorem onBool_congr {v v' : AV} {a b : R} (h : v = v') : onBool v a b = onBool v' a b := by rw [h]
@[congr] theorem guardA_congr {v v' : AV} {t : Bool} {a b : R} (h : v = v') : guardA v t a b = guardA v' t a b := by rw [h]
@[congr] theorem andR_congr {b b' : Bool} {x : R} (h : b = b') : andR b x = andR b' x := by rw [h]
@[congr] theorem pC_congr {call : CallFn} {f : Nat} {args args' : List AV} {H : AHeap} {c : Kv} (h : args = args') : pC call f args H c = pC call f args' H c := by rw [h]
@[congr] theorem pV_congr {call : CallFn} {f f' : AV} {args args' : List AV} {H : AHeap} {c : Kv} (hf : f = f') (h : args = args') : pV call f args H c = pV call f' args' H c := by rw [h, hf]
@[congr] theorem pI_congr {P : Program} {call : CallFn} {f f' : AV} {nm : String} {args args' : List AV} {H : AHeap} {c : Kv} (hf : f = f') (h : args = args') : pI P call f nm args H c = pI P call f' nm args' H c := by rw [h, hf]

@[simp ↓] theorem ob_some {α β : Type} (v : α) (f : α → Option β) : ob (some v) f = f v := rfl
@[simp ↓] theorem ob_none {α β : Type} (f : α → Option β) : ob none f = none := rfl
@[simp ↓] theorem ob2_some {α β γ : Type} (v : α) (w : β) (f : α → β → Option γ) : ob2 (some (v, w)) f = f v w := rfl
@[simp ↓] theorem ob2_none {α β γ : Type} (f : α → β → Option γ) : ob2 none f = none := rfl
@[simp ↓] theorem onBool_true (a b : R) : onBool (.bool true) a b = a := rfl
@[simp ↓] theorem onBool_false (a b : R) : onBool (.bool false) a b = b := rfl
@[simp ↓] theorem guardA_tt (a b : R) : guardA (.bool true) true a b = a := rfl
@[simp ↓] theorem guardA_ff (a b : R) : guardA (.bool false) false a b = a := rfl
@[simp ↓] theorem guardA_tf (a b : R) : guardA (.bool true) false a b = b := rfl
@[simp ↓] theorem guardA_ft (a b : R) : guardA (.bool false) true a b = b := rfl
@[simp ↓] theorem andR_true (a : R) : andR true a = a := rfl
@[simp] theorem andB_eq (a b : Bool) : andB a b = (a && b) := by cases a <;> cases b <;> rfl
@[simp] theorem ckV_some (v x : AV) : ckV (some v) x = AV.beq v x := rfl
@[simp] theorem ckN_some (v : AV) : ckN (some v) = true := rfl
@[simp] theorem gdB_eq (v : AV) (b x : Bool) : gdB v b x = (!(isB v b) || x) := by unfold gdB; cases isB v b <;> rfl
@[simp] theorem isB_bool (a b : Bool) : isB (.bool a) b = (a == b) := by cases a <;> cases b <;> rfl

section
variable {H : AHeap} {c : Kv}
@[simp ↓] theorem pFa_ptr (b o k : Nat) : pFa k (.ptr b o) H c = c (.ptr b (o + k)) H := rfl
@[simp ↓] theorem pO_eq (o : Option AV) : pO o H c = ob o fun v => c v H := rfl
@[simp ↓] theorem pW_eq (o : Option (AV × AHeap)) : pW o c = ob2 o c := rfl
@[simp] theorem aNil_ptr (b o : Nat) : aNil (.ptr b o) = some (.ptr b o) := rfl
@[simp ↓] theorem pPick_b (t : Bool) (a b : AV) : pPick (.bool t) a b H c = c (cond t a b) H := by cases t <;> rfl
@[simp ↓] theorem pConv_int (k k' : IntKind) (n : Int) : pConv k (.int k' n) H c = c (.int k (k.wrap n)) H := by show c (.int k (fwrapK k n)) H = _; rw [fwrapK_eq, fwrap_eq]
@[simp ↓] theorem pExt_tup0 (a : AV) (l : List AV) : pExt (.tup (a :: l)) 0 H c = c a H := rfl
@[simp ↓] theorem pExt_tup1 (a b : AV) (l : List AV) : pExt (.tup (a :: b :: l)) 1 H c = c b H := rfl
@[simp ↓] theorem pExt_tup2 (a b d : AV) (l : List AV) : pExt (.tup (a :: b :: d :: l)) 2 H c = c d H := rfl

theorem opI_int (h : IntKind → Int → Int → AV) (op : BinOp) (k : IntKind) (a b : Int) : opI h op (.int k a) (.int k b) H c = c (h k a b) H := by cases k <;> rfl
@[simp ↓] theorem pAdd_int (k : IntKind) (a b : Int) : pAdd (.int k a) (.int k b) H c = c (.int k (k.wrap (a + b))) H := by unfold pAdd; rw [opI_int, fwrapK_eq, fwrap_eq, iaddK_eq, iadd_eq]
@[simp ↓] theorem pSub_int (k : IntKind) (a b : Int) : pSub (.int k a) (.int k b) H c = c (.int k (k.wrap (a - b))) H := by unfold pSub; rw [opI_int, fwrapK_eq, fwrap_eq, isubK_eq, isub_eq]
@[simp ↓] theorem pMul_int (k : IntKind) (a b : Int) : pMul (.int k a) (.int k b) H c = c (.int k (k.wrap (a * b))) H := by unfold pMul; rw [opI_int, fwrapK_eq, fwrap_eq, imul_eq]
@[simp ↓] theorem pAnd_int (k : IntKind) (a b : Int) : pAnd (.int k a) (.int k b) H c = c (.int k (fbits .and k a b)) H := by unfold pAnd; rw [opI_int]
@[simp ↓] theorem pOr_int (k : IntKind) (a b : Int) : pOr (.int k a) (.int k b) H c = c (.int k (fbits .or k a b)) H := by unfold pOr; rw [opI_int]
@[simp ↓] theorem pXor_int (k : IntKind) (a b : Int) : pXor (.int k a) (.int k b) H c = c (.int k (fbits .xor k a b)) H := by unfold pXor; rw [opI_int]
@[simp ↓] theorem pAndN_int (k : IntKind) (a b : Int) : pAndN (.int k a) (.int k b) H c = c (.int k (fbits .andNot k a b)) H := by unfold pAndN; rw [opI_int]
@[simp ↓] theorem pEql_int (k : IntKind) (a b : Int) : pEql (.int k a) (.int k b) H c = c (.bool (decide (a = b))) H := by unfold pEql; rw [opI_int, ieqK_eq, ieq_eq]
@[simp ↓] theorem pNeq_int (k : IntKind) (a b : Int) : pNeq (.int k a) (.int k b) H c = c (.bool (!decide (a = b))) H := by unfold pNeq; rw [opI_int, notK_eq, ieqK_eq, ieq_eq]
@[simp ↓] theorem pLss_int (k : IntKind) (a b : Int) : pLss (.int k a) (.int k b) H c = c (.bool (decide (a < b))) H := by unfold pLss; rw [opI_int, notK_eq, ileK_eq, not_ile]
@[simp ↓] theorem pLeq_int (k : IntKind) (a b : Int) : pLeq (.int k a) (.int k b) H c = c (.bool (decide (a ≤ b))) H := by unfold pLeq; rw [opI_int, ileK_eq, ile_eq]
@[simp ↓] theorem pGtr_int (k : IntKind) (a b : Int) : pGtr (.int k a) (.int k b) H c = c (.bool (decide (b < a))) H := by unfold pGtr; rw [opI_int, notK_eq, ileK_eq, not_ile]
@[simp ↓] theorem pGeq_int (k : IntKind) (a b : Int) : pGeq (.int k a) (.int k b) H c = c (.bool (decide (b ≤ a))) H := by unfold pGeq; rw [opI_int, ileK_eq, ile_eq]

/-! ### Memory -/
/-- A cell's value. -/
def _root_.Go.Ab.AHeap.rd (H : AHeap) (b i : Nat) : Option AV := match H.get b with
  | some (.cells _ _ _ t) => t.get? i
  | _ => none
def _root_.Go.Ab.AHeap.rds (H : AHeap) (b i n : Nat) : Option (List AV) := match H.get b with
  | some (.cells _ _ _ t) => t.rdN i n
  | _ => none
/-- Cells are written. -/
def _root_.Go.Ab.AHeap.wrs (H : AHeap) (b i : Nat) (l : List AV) : Option AHeap := match H.get b with
  | some (.cells false e n t) => match t.wrN i l with
    | some t' => some (H.put b (.cells false e n t'))
    | none => none
  | _ => none
@[simp ↓] theorem ldK_none (b i : Nat) : ldK .none H (.ptr b i) c = ob (H.rd b i) fun v => c v H := by
  rw [ldK_eq]; simp only [aLoad, AHeap.rd]; cases H.get b with | none => rfl | some o => cases o <;> rfl
@[simp ↓] theorem ldK_agg (n b i : Nat) : ldK (.some n) H (.ptr b i) c = ob (H.rds b i n) fun l => c (.agg l) H := by
  rw [ldK_eq]; simp only [aLoad, AHeap.rds]
  cases H.get b with
  | none => rfl
  | some o =>
    cases o with
    | cells ro e m t => simp only; cases t.rdN i n <;> rfl
    | _ => rfl
theorem stK_cells {sz b i : Nat} {x : AV} (hs : allScal x.cells = true) (hl : x.cells.length = sz) : stK sz H (.ptr b i) x c = ob (H.wrs b i x.cells) fun H' => c .undef H' := by
  rw [stK_eq]; simp only [aStore, AHeap.wrs]
  cases H.get b with
  | none => rfl
  | some o =>
    cases o with
    | cells ro e m t =>
      cases ro with
      | true => rfl
      | false =>
        have hb : (Nat.beq x.cells.length sz && allScal x.cells) = true := by rw [hs, hl]; simp
        simp only [hb, cond_true]
        cases t.wrN i x.cells <;> rfl
    | _ => rfl
@[simp] theorem stK_int (b i : Nat) (k : IntKind) (x : Int) : stK 1 H (.ptr b i) (.int k x) c = ob (H.wrs b i [.int k x]) fun H' => c .undef H' := stK_cells rfl rfl
@[simp] theorem stK_bool (b i : Nat) (x : Bool) : stK 1 H (.ptr b i) (.bool x) c = ob (H.wrs b i [.bool x]) fun H' => c .undef H' := stK_cells rfl rfl
@[simp] theorem stK_ptr (b i j k : Nat) : stK 1 H (.ptr b i) (.ptr j k) c = ob (H.wrs b i [.ptr j k]) fun H' => c .undef H' := stK_cells rfl rfl
@[simp] theorem stK_sl (b i j k l : Nat) (q : Option Nat) : stK 1 H (.ptr b i) (.sl j k l q) c = ob (H.wrs b i [.sl j k l q]) fun H' => c .undef H' := stK_cells rfl rfl
@[simp] theorem stK_nilsl (b i : Nat) : stK 1 H (.ptr b i) .nilsl c = ob (H.wrs b i [.nilsl]) fun H' => c .undef H' := stK_cells rfl rfl

/-- An element's address. -/
theorem pIa_at {esz b o len n : Nat} {q : Option Nat} {k : IntKind} (h : n < len) : pIa esz (.sl b o len q) (.int k (n : Int)) H c = c (.ptr b (o + n * esz)) H := by
  show (Bool.rec (motive := fun _ => R) none (c (.ptr b (Nat.add o (Nat.mul n esz))) H) (ltK n len) : R) = _
  have : ltK n len = true := by rw [← blt_ltK, blt_dec]; simpa using h
  rw [this]; rfl
theorem pIa_int {esz b o len : Nat} {q : Option Nat} {k : IntKind} {x : Int} (h0 : 0 ≤ x) (h : x < len) : pIa esz (.sl b o len q) (.int k x) H c = c (.ptr b (o + x.toNat * esz)) H := by
  obtain ⟨n, rfl⟩ := Int.eq_ofNat_of_zero_le h0
  exact pIa_at (by omega)
end
end
end Go.Ab
namespace Go.Ab
noncomputable section
@[simp] theorem argA1_at (s : AV → R) (a0 : AV) : argA1 s [a0] = s a0 := rfl
@[simp] theorem argA2_at (s : AV → AV → R) (a0 a1 : AV) : argA2 s [a0, a1] = s a0 a1 := rfl
@[simp] theorem argA3_at (s : AV → AV → AV → R) (a0 a1 a2 : AV) : argA3 s [a0, a1, a2] = s a0 a1 a2 := rfl
@[simp] theorem argA4_at (s : AV → AV → AV → AV → R) (a0 a1 a2 a3 : AV) : argA4 s [a0, a1, a2, a3] = s a0 a1 a2 a3 := rfl
@[simp] theorem argA5_at (s : AV → AV → AV → AV → AV → R) (a0 a1 a2 a3 a4 : AV) : argA5 s [a0, a1, a2, a3, a4] = s a0 a1 a2 a3 a4 := rfl
@[simp] theorem argA6_at (s : AV → AV → AV → AV → AV → AV → R) (a0 a1 a2 a3 a4 a5 : AV) : argA6 s [a0, a1, a2, a3, a4, a5] = s a0 a1 a2 a3 a4 a5 := rfl
@[simp] theorem argA7_at (s : AV → AV → AV → AV → AV → AV → AV → R) (a0 a1 a2 a3 a4 a5 a6 : AV) : argA7 s [a0, a1, a2, a3, a4, a5, a6] = s a0 a1 a2 a3 a4 a5 a6 := rfl
@[simp] theorem argA8_at (s : AV → AV → AV → AV → AV → AV → AV → AV → R) (a0 a1 a2 a3 a4 a5 a6 a7 : AV) : argA8 s [a0, a1, a2, a3, a4, a5, a6, a7] = s a0 a1 a2 a3 a4 a5 a6 a7 := rfl
@[simp] theorem argA0_at (s : R) : argA0 s [] = s := rfl
theorem tabS_at {l : List (Option Ff)} {f : Nat} {s : Ff} (h : l[f]? = some (some s)) : tabS (Tr.ofList l) f = some s := by
  unfold tabS; rw [Tr.get?_ofList, h]
theorem evH_at {tab : Nat → Option Ff} {prim : Prims} {n f : Nat} {s : Ff} (hp : prim f = none) (ht : tab f = some s) (args : List AV) (H : AHeap) : evH tab prim (n + 1) f args H = s.run (evH tab prim n) args H := by
  show (Option.rec (motive := fun _ => R) (ob (tab f) fun ff => ff.run (evH tab prim n) args H) (fun p => p args H) (prim f) : R) = _
  rw [hp, ht]; rfl
end
end Go.Ab
