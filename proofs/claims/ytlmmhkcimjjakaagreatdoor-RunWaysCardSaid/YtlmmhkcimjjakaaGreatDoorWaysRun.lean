/- RunWays, whatever the pick: the run up to the seventh pick does not look at it; behind it its residue by 4 alone counts. -/
import Derived.Test.YtlmmhkcimjjakaaGreatDoorLTab
import Derived.Test.YtlmmhkcimjjakaaGreatDoorSorts
import Derived.OpenShut
import Derived.KernelRfl
namespace Go.Proofs.YtlmmhkcimjjakaaGreatDoor
open Go.Ab
noncomputable section

abbrev i64 (n : Nat) : AV := .int .i64 (.ofNat n)
abbrev Pk (k : Nat) : AV := .int .i64 (.ofNat (k + 1))
abbrev cl (n : Nat) : CallFn := evH L_tab prims n

/-! ### Less promises less -/
section
variable {call : CallFn} {f : Nat} {a : List AV} {x y z : AV} {H : AHeap} {c c' : Kv}

theorem ob_mono {α : Type} {o : Option α} {g g' : α → R} (h : ∀ v, Le (g v) (g' v)) : Le (ob o g) (ob o g') := by
  cases o with
  | none => exact Le.refl _
  | some v => exact h v
theorem ob2_mono {o : Option (AV × AHeap)} (h : ∀ v H, Le (c v H) (c' v H)) : Le (ob2 o c) (ob2 o c') := by
  cases o with
  | none => exact Le.refl _
  | some v => exact h v.1 v.2
theorem pC_mono (h : ∀ v H, Le (c v H) (c' v H)) : Le (pC call f a H c) (pC call f a H c') := ob2_mono h
theorem pO_mono {o : Option AV} (h : ∀ v H, Le (c v H) (c' v H)) : Le (pO o H c) (pO o H c') := ob_mono fun v => h v H
theorem onBool_mono {u u' w w' : R} (h1 : Le u u') (h2 : Le w w') : Le (onBool x u w) (onBool x u' w') := by
  rw [onBool_eq, onBool_eq]
  cases x <;> try exact Le.refl _
  rename_i b; cases b
  · exact h2
  · exact h1
theorem opI_mono {g : IntKind → Int → Int → AV} {op : BinOp} (h : ∀ v H, Le (c v H) (c' v H)) : Le (opI g op x y H c) (opI g op x y H c') := by
  unfold opI intInt
  rw [onInt2_eq, onInt2_eq]
  cases x <;> try exact ob_mono fun v => h v H
  simp only
  rw [onInt2_eq, onInt2_eq]
  cases y <;> try exact ob_mono fun v => h v H
  rename_i k a k' b
  simp only
  cases kindE k k'
  · exact Le.refl _
  · exact h _ _
theorem pExt_mono {i : Nat} (h : ∀ v H, Le (c v H) (c' v H)) : Le (pExt x i H c) (pExt x i H c') := by
  unfold pExt
  rw [onTup_eq, onTup_eq]
  cases x <;> try exact Le.refl _
  exact ob_mono fun v => h v H
theorem pIa_mono {s : Nat} (h : ∀ v H, Le (c v H) (c' v H)) : Le (pIa s x y H c) (pIa s x y H c') := by
  have e : ∀ c : Kv, pIa s x y H c = ob (aIaddr s x y) fun v => c v H := fun c => by
    unfold pIa
    rw [onSl_eq]
    cases x <;> try rfl
    simp only
    rw [onInt_eq]
    cases y <;> try rfl
    rename_i b p len cap k n
    cases n with
    | negSucc n => rfl
    | ofNat n =>
      show Bool.rec (motive := fun _ => R) none (c (.ptr b (Nat.add p (Nat.mul n s))) H) (ltK n len) = ob (cond (Nat.blt n len) (some (AV.ptr b (Nat.add p (Nat.mul n s)))) none) fun v => c v H
      rw [blt_ltK]
      cases ltK n len <;> rfl
  rw [e, e]; exact ob_mono fun v => h v H
theorem ldK_mono {sz : Option Nat} (h : ∀ v H, Le (c v H) (c' v H)) : Le (ldK sz H x c) (ldK sz H x c') := by
  rw [ldK_eq, ldK_eq]; exact ob_mono fun v => h v H
theorem andR_mono {b : Bool} {u u' : R} (h : Le u u') : Le (andR b u) (andR b u') := by cases b; exact Le.refl _; exact h
end

def ifEq (x y : AV) (u : R) : R := Bool.rec (motive := fun _ => R) none u (AV.beq x y)
theorem ifEq_le {x y : AV} {u w : R} (h : x = y → Le u w) : Le (ifEq x y u) w := by
  intro r hr
  unfold ifEq at hr
  cases hb : AV.beq x y with
  | false => rw [hb] at hr; cases hr
  | true => rw [hb] at hr; exact h (AV.beq_eq hb) r hr

/-! ### The pick's residues -/
section
variable {k r : Nat} (hr : (k + 1) % 4 = r) (hk : k + 1 ≤ 9223372036854775807)
include hr

theorem remP (H : AHeap) (c : Kv) : pO (aBin .rem (Pk k) (i64 2)) H c = c (i64 (r % 2)) H := by
  have : aBin .rem (Pk k) (i64 2) = some (.int .i64 (Int.tmod (Int.ofNat (k + 1)) (Int.ofNat 2))) := rfl
  rw [this, show Int.tmod (Int.ofNat (k + 1)) (Int.ofNat 2) = Int.ofNat ((k + 1) % 2) from rfl, show (k + 1) % 2 = r % 2 by omega]
  rfl
omit hr in
theorem remQ1 (H : AHeap) (c : Kv) : pO (aBin .rem (i64 ((k + 1) / 2)) (i64 1)) H c = c (i64 0) H := by
  have : aBin .rem (i64 ((k + 1) / 2)) (i64 1) = some (.int .i64 (Int.tmod (Int.ofNat ((k + 1) / 2)) (Int.ofNat 1))) := rfl
  rw [this, show Int.tmod (Int.ofNat ((k + 1) / 2)) (Int.ofNat 1) = Int.ofNat ((k + 1) / 2 % 1) from rfl, Nat.mod_one]
  rfl
theorem remQ2 (H : AHeap) (c : Kv) : pO (aBin .rem (i64 ((k + 1) / 2)) (i64 2)) H c = c (i64 (r / 2)) H := by
  have : aBin .rem (i64 ((k + 1) / 2)) (i64 2) = some (.int .i64 (Int.tmod (Int.ofNat ((k + 1) / 2)) (Int.ofNat 2))) := rfl
  rw [this, show Int.tmod (Int.ofNat ((k + 1) / 2)) (Int.ofNat 2) = Int.ofNat ((k + 1) / 2 % 2) from rfl, show (k + 1) / 2 % 2 = r / 2 by omega]
  rfl
include hk
omit hr in
theorem quoP (H : AHeap) (c : Kv) : pO (aBin .quo (Pk k) (i64 2)) H c = c (i64 ((k + 1) / 2)) H := by
  have : aBin .quo (Pk k) (i64 2) = some (.int .i64 (fwrap .i64 (Int.tdiv (Int.ofNat (k + 1)) (Int.ofNat 2)))) := rfl
  rw [this, show Int.tdiv (Int.ofNat (k + 1)) (Int.ofNat 2) = Int.ofNat ((k + 1) / 2) from rfl]
  have h2 : fwrap .i64 (Int.ofNat ((k + 1) / 2)) = Int.ofNat ((k + 1) / 2) := by
    show cond (Nat.ble ((k + 1) / 2) (lim .i64)) (Int.ofNat ((k + 1) / 2)) _ = _
    rw [Nat.ble_eq_true_of_le (show (k + 1) / 2 ≤ lim .i64 by show (k + 1) / 2 ≤ 9223372036854775807; omega)]
    rfl
  rw [h2]; rfl
end

/-! ### run.One at the pick -/
def S21_0w (r : Nat) (call : CallFn) (t0 : AV) (H : AHeap) : R :=
  pC call 40 [t0] H fun t25 H =>
  pO (aLen .sl H t25) H fun t28 H =>
  pAdd t28 (.int .i64 (.ofNat 1)) H fun t29 H =>
  ifEq t29 (i64 2) (
  pO (aLen .sl H t25) H fun t33 H =>
  pEql (i64 (r % 2)) t33 H fun t34 H =>
  onBool t34 (pC call 41 [t0] H fun t36 H =>
  some (t36, H)) (pIa 1 t25 (i64 (r % 2)) H fun t40 H =>
  ldK .none H t40 fun t41 H =>
  pO (aLen .sl H t25) H fun t44 H =>
  pAdd t44 (.int .i64 (.ofNat 1)) H fun t45 H =>
  ifEq t45 (i64 2) (
  pIa 1 t25 (i64 (r % 2)) H fun t50 H =>
  ldK .none H t50 fun t51 H =>
  pC call 43 [t0, t51] H fun t52 H =>
  andR (andB (ckV (aLoad .none H t40) t41) (andB (ckV (aLen .sl H t25) t44) true)) (
  Bool.rec (motive := fun _ => R) (ifEq t52 (i64 2) (pC call 42 [t0, t41, i64 (r / 2)] H fun t54 H => some (t54, H))) (pC call 42 [t0, t41, i64 0] H fun t54 H => some (t54, H)) (AV.beq t52 (i64 1))))))

theorem S21_0w_le {k r : Nat} (hr : (k + 1) % 4 = r) (hk : k + 1 ≤ 9223372036854775807) (call : CallFn) (t0 : AV) (H : AHeap) : Le (S21_0w r call t0 H) (S21_0 call t0 (Pk k) H) := by
  unfold S21_0w S21_0
  refine pC_mono fun t25 H => pO_mono fun t28 H => opI_mono fun t29 H => ifEq_le fun e => ?_
  subst e
  rw [remP hr]
  refine pO_mono fun t33 H => opI_mono fun t34 H => onBool_mono (Le.refl _) (pIa_mono fun t40 H => ldK_mono fun t41 H => pO_mono fun t44 H => opI_mono fun t45 H => ifEq_le fun e => ?_)
  subst e
  rw [quoP hk]
  refine pIa_mono fun t50 H => ldK_mono fun t51 H => pC_mono fun t52 H => andR_mono ?_
  cases hb : AV.beq t52 (i64 1) with
  | true =>
    have := AV.beq_eq hb
    subst this
    rw [remQ1]
    exact Le.refl _
  | false =>
    refine ifEq_le fun e => ?_
    subst e
    rw [remQ2 hr]
    exact Le.refl _

def S21_1w (r : Nat) (call : CallFn) (t0 : AV) (H : AHeap) : R :=
  pC call 39 [t0] H fun t11 H =>
  pExt t11 0 H fun t12 H =>
  pExt t11 1 H fun _ H =>
  pNeq t12 (.int .i64 (.ofNat 0)) H fun t15 H =>
  onBool t15 (some ((.bool false), H)) (S21_0w r call t0 H)

theorem S21_1w_le {k r : Nat} (hr : (k + 1) % 4 = r) (hk : k + 1 ≤ 9223372036854775807) (call : CallFn) (t0 : AV) (H : AHeap) : Le (S21_1w r call t0 H) (S21_1 call t0 (Pk k) H) := by
  unfold S21_1w S21_1
  refine pC_mono fun t11 H => pExt_mono fun t12 H => pExt_mono fun t13 H => opI_mono fun t15 H => onBool_mono (Le.refl _) ?_
  have : ∀ (u w : R), (pEql (Pk k) (.int .i64 (.negSucc 9223372036854775807)) H fun t18 H => onBool t18 u (pLss (Pk k) (.int .i64 (.ofNat 0)) H fun t21 H => onBool t21 w (S21_0 call t0 (Pk k) H))) = S21_0 call t0 (Pk k) H := fun u w => rfl
  exact S21_0w_le hr hk call t0 H

/-! ### The law up to the run -/
def pre6 (call : CallFn) (t0 : AV) (H : AHeap) (K : AV → AV → AHeap → R) : R :=
  pC call 8 [] H fun t5 H =>
  pO (aUn .not t5) H fun t6 H =>
  onBool t6 (some ((.bool false), H)) (pLss t0 (.int .i64 (.ofNat 0)) H fun t8 H =>
  onBool t8 (some ((.bool true), H)) (pC call 17 [] H fun t10 H =>
  pN (aBsl 1 8 [(.int .i64 (.ofNat 0))] [(0, 1, (.int .i64 (.ofNat 0))), (1, 1, (.int .i64 (.ofNat 0))), (2, 1, (.int .i64 (.ofNat 0))), (3, 1, (.int .i64 (.ofNat 0))), (4, 1, (.int .i64 (.ofNat 0))), (5, 1, (.int .i64 (.ofNat 0))), (6, 1, t0), (7, 1, (.int .i64 (.ofNat 0)))]) H fun t12 H => K t10 t12 H))
def post6 (q : AV → AV → AV → AHeap → R) (t13 : AV) (H : AHeap) : R :=
  pExt t13 0 H fun t14 H =>
  pExt t13 1 H fun t15 H =>
  pNew [.nilsl, (.int .i64 (.ofNat 0)), (.int .i64 (.ofNat 0)), (.int .i64 (.ofNat 0)), (.int .i64 (.ofNat 0)), (.int .i64 (.ofNat 0)), .nilsl] H fun t3 H =>
  stK 7 H t3 t14 fun _ H =>
  pNeq t15 (.int .i64 (.ofNat 0)) H fun t17 H =>
  guardA t17 false (pFa 3 t3 H fun t19 H =>
  ldK .none H t19 fun t20 H =>
  pNeq t20 (.int .i64 (.ofNat 8)) H fun t21 H =>
  q t3 t17 t21 H) (q t3 t17 U H)
def S6_0w (r : Nat) (call : CallFn) (t3 t18 t21 : AV) (H : AHeap) : R :=
  pPick t18 (.bool true) t21 H fun t22 H =>
  onBool t22 (some ((.bool false), H)) (
  pEql (i64 (r % 2)) (.int .i64 (.ofNat 1)) H fun t25 H =>
  onBool t25 (pFa 0 t3 H fun t26 H =>
  ldK .none H t26 fun t27 H =>
  pO (aLen .sl H t27) H fun t28 H =>
  pEql t28 (.int .i64 (.ofNat 0)) H fun t29 H =>
  some (t29, H)) (pFa 0 t3 H fun t30 H =>
  ldK .none H t30 fun t31 H =>
  pAdd (.int .i64 (.ofNat 1)) (i64 (r / 2)) H fun t35 H =>
  pN (aBsl 1 1 [(.int .i64 (.ofNat 0))] [(0, 1, t35)]) H fun t36 H =>
  pC call 15 [t31, t36] H fun t37 H =>
  some (t37, H)))
theorem S6_0w_eq {k r : Nat} (hr : (k + 1) % 4 = r) (hk : k + 1 ≤ 9223372036854775807) (call : CallFn) (t3 t18 t21 : AV) (H : AHeap) : S6_0 call (Pk k) t3 t18 t21 H = S6_0w r call t3 t18 t21 H := by
  unfold S6_0w S6_0
  simp only [remP hr, quoP hk, remQ2 hr]
theorem S6_split (call : CallFn) (t0 : AV) (H : AHeap) : S6_1 call t0 H = pre6 call t0 H fun t10 t12 H => pC call 9 [t10, .int .i64 (.ofNat 8), t12] H (post6 (S6_0 call t0)) := rfl

/-! ### The run -/
def body9 (call : CallFn) (q : AV → AV → AV → AV → AV → AV → AHeap → R) (t6 t8 t10 t23 t24 t25 : AV) (H : AHeap) : R :=
  pLss t25 t24 H fun t26 H =>
  onBool t26 (pIa 1 t23 t25 H fun t27 H =>
  ldK .none H t27 fun t28 H =>
  pC call 21 [t8, t28] H fun t31 H =>
  pO (aUn .not t31) H fun t32 H =>
  onBool t32 (S9_0 call t6 t8 t10 H) (pAdd t10 (.int .i64 (.ofNat 1)) H fun t34 H =>
  pAdd t25 (.int .i64 (.ofNat 1)) H fun t35 H =>
  q t6 t8 t34 t23 t24 t35 H)) (S9_0 call t6 t8 t10 H)
def mid9 (call : CallFn) (t6 t8 t10 t23 t24 t25 : AV) (H : AHeap) (K : AV → AHeap → R) : R :=
  pLss t25 t24 H fun t26 H =>
  onBool t26 (pIa 1 t23 t25 H fun t27 H =>
  ldK .none H t27 fun t28 H => K t28 H) (S9_0 call t6 t8 t10 H)
def post9 (call : CallFn) (q : AV → AV → AV → AV → AV → AV → AHeap → R) (t6 t8 t10 t23 t24 t25 : AV) (t31 : AV) (H : AHeap) : R :=
  pO (aUn .not t31) H fun t32 H =>
  onBool t32 (S9_0 call t6 t8 t10 H) (pAdd t10 (.int .i64 (.ofNat 1)) H fun t34 H =>
  pAdd t25 (.int .i64 (.ofNat 1)) H fun t35 H =>
  q t6 t8 t34 t23 t24 t35 H)
theorem body9_split (call : CallFn) (q : AV → AV → AV → AV → AV → AV → AHeap → R) (t6 t8 t10 t23 t24 t25 : AV) (H : AHeap) :
    body9 call q t6 t8 t10 t23 t24 t25 H = mid9 call t6 t8 t10 t23 t24 t25 H fun t28 H => pC call 21 [t8, t28] H (post9 call q t6 t8 t10 t23 t24 t25) := rfl
theorem S9_1_succ (call : CallFn) (n : Nat) (t6 t8 t10 t23 t24 t25 : AV) (H : AHeap) : S9_1 call (n + 1) t6 t8 t10 t23 t24 t25 H = body9 call (S9_1 call n) t6 t8 t10 t23 t24 t25 H := rfl
def six9 (call : CallFn) (q : AV → AV → AV → AV → AV → AV → AHeap → R) : AV → AV → AV → AV → AV → AV → AHeap → R :=
  body9 call (body9 call (body9 call (body9 call (body9 call (body9 call q)))))
def pre9 (call : CallFn) (t0 t1 t2 : AV) (H : AHeap) (q : AV → AV → AV → AV → AV → AV → AHeap → R) : R :=
  pBox t0 H fun t3 H =>
  pNew [.nilsl, (.int .i64 (.ofNat 0)), (.int .i64 (.ofNat 0)), (.int .i64 (.ofNat 0)), (.int .i64 (.ofNat 0)), (.int .i64 (.ofNat 0)), .nilsl] H fun t6 H =>
  ldK (.some 6) H t3 fun t14 H =>
  pC call 20 [t14, t1] H fun t16 H =>
  pExt t16 0 H fun t17 H =>
  pExt t16 1 H fun t18 H =>
  pNeq t18 (.int .i64 (.ofNat 0)) H fun t20 H =>
  onBool t20 (pO (someAgg (aFill [.nilsl, (.int .i64 (.ofNat 0)), (.int .i64 (.ofNat 0)), (.int .i64 (.ofNat 0)), (.int .i64 (.ofNat 0)), (.int .i64 (.ofNat 0)), .nilsl] [])) H fun t21 H =>
  stK 7 H t6 t21 fun _ H =>
  ob (allM (fun o => o) [aLoad (.some 7) H t6, some t18]) fun vs => some (resV vs, H)) (pO (aLen .sl H t2) H fun t24 H =>
  six9 call q t6 t17 (.int .i64 (.ofNat 0)) t2 t24 (.int .i64 (.ofNat 0)) H)
theorem six9_eq (call : CallFn) (n : Nat) : S9_1 call (n + 6) = six9 call (S9_1 call n) := by
  have e : ∀ m, S9_1 call (m + 1) = body9 call (S9_1 call m) := fun m => rfl
  show S9_1 call (n + 5 + 1) = _
  rw [e, show n + 5 = n + 4 + 1 from rfl, e, show n + 4 = n + 3 + 1 from rfl, e, show n + 3 = n + 2 + 1 from rfl, e, show n + 2 = n + 1 + 1 from rfl, e, e]
  rfl
theorem S9_split (call : CallFn) (t0 t1 t2 : AV) (H : AHeap) : S9_2 call t0 t1 t2 H = pre9 call t0 t1 t2 H (S9_1 call 999994) := by
  unfold S9_2 pre9
  rw [← six9_eq]

/-! ### Where it stands at the seventh pick -/
def rv (o : R) (i : Nat) : AV := Option.rec (motive := fun _ => AV) U (fun p => AV.rec (motive_1 := fun _ => AV) (motive_2 := fun _ => AV)
  (fun _ => U) (fun _ _ => U) (fun _ => U) U (fun _ _ => U) U (fun _ _ _ _ => U) U (fun _ => U) U (fun _ _ _ _ _ => U) U (fun _ _ _ => U) (fun _ _ => U) (fun l _ => Option.rec (motive := fun _ => AV) U (fun v => v) (nthK l i)) U (fun _ _ _ _ => U) p.1) o
def rh (o : R) : AHeap := Option.rec (motive := fun _ => AHeap) ⟨0, Tr.nil⟩ (fun p => p.2) o
def st6 (k : Nat) : R := pre6 (cl 999) (Pk k) (tabH bruijn) fun a b H => some (.tup [a, b], H)
theorem cut6 (k : Nat) (K : AV → AV → AHeap → R) : pre6 (cl 999) (Pk k) (tabH bruijn) K = K (rv (st6 k) 0) (rv (st6 k) 1) (rh (st6 k)) := by kernel_rfl
def st9 (k : Nat) : R := pre9 (cl 998) (rv (st6 k) 0) (i64 8) (rv (st6 k) 1) (rh (st6 k)) fun a b c d e f H => some (.tup [a, b, c, d, e, f], H)
theorem cut9 (k : Nat) (K : AV → AV → AV → AV → AV → AV → AHeap → R) : pre9 (cl 998) (rv (st6 k) 0) (i64 8) (rv (st6 k) 1) (rh (st6 k)) K =
    K (rv (st9 k) 0) (rv (st9 k) 1) (rv (st9 k) 2) (rv (st9 k) 3) (rv (st9 k) 4) (rv (st9 k) 5) (rh (st9 k)) := by kernel_rfl
theorem cutM (k : Nat) (K : AV → AHeap → R) : mid9 (cl 998) (rv (st9 k) 0) (rv (st9 k) 1) (rv (st9 k) 2) (rv (st9 k) 3) (rv (st9 k) 4) (rv (st9 k) 5) (rh (st9 k)) K = K (Pk k) (rh (st9 k)) := by kernel_rfl

/-- The whole, the pick by its residue. -/
def whole (r k : Nat) : R :=
  ob2 (ob2 (S21_1w r (cl 997) (rv (st9 k) 1) (rh (st9 k))) (post9 (cl 998) (S9_1 (cl 998) 999993) (rv (st9 k) 0) (rv (st9 k) 1) (rv (st9 k) 2) (rv (st9 k) 3) (rv (st9 k) 4) (rv (st9 k) 5))) (post6 (S6_0w r (cl 999)))

theorem call21 (n : Nat) (a b : AV) (H : AHeap) : cl (n + 1) 21 [a, b] H = S21_1 (cl n) a b H := by kernel_rfl
theorem call9 (n : Nat) (a b c : AV) (H : AHeap) : cl (n + 1) 9 [a, b, c] H = S9_2 (cl n) a b c H := by kernel_rfl
theorem call6 (n : Nat) (a : AV) (H : AHeap) : cl (n + 1) 6 [a] H = S6_1 (cl n) a H := by kernel_rfl

theorem whole_le {k r : Nat} (hr : (k + 1) % 4 = r) (hk : k + 1 ≤ 9223372036854775807) : Le (whole r k) (cl 1000 6 [Pk k] (tabH bruijn)) := by
  intro x hx
  rw [show (1000 : Nat) = 999 + 1 from rfl, call6, S6_split, cut6]
  show ob2 (cl (998 + 1) 9 [rv (st6 k) 0, i64 8, rv (st6 k) 1] (rh (st6 k))) (post6 (S6_0 (cl 999) (Pk k))) = some x
  rw [call9, S9_split, cut9, show (999994 : Nat) = 999993 + 1 from rfl, S9_1_succ, body9_split, cutM]
  show ob2 (ob2 (cl (997 + 1) 21 [rv (st9 k) 1, Pk k] (rh (st9 k))) _) _ = some x
  rw [call21]
  have e6 : (S6_0 (cl 999) (Pk k)) = S6_0w r (cl 999) := by
    funext t3 t18 t21 H; exact S6_0w_eq hr hk _ _ _ _ _
  rw [e6]
  unfold whole at hx
  cases hs : S21_1w r (cl 997) (rv (st9 k) 1) (rh (st9 k)) with
  | none => rw [hs] at hx; cases hx
  | some y =>
    rw [S21_1w_le hr hk _ _ _ y hs]
    rw [hs] at hx
    exact hx

theorem ways0 (k : Nat) : isTrue (whole 0 k) = true := by kernel_rfl
theorem ways1 (k : Nat) : isTrue (whole 1 k) = true := by kernel_rfl
theorem ways2 (k : Nat) : isTrue (whole 2 k) = true := by kernel_rfl
theorem ways3 (k : Nat) : isTrue (whole 3 k) = true := by kernel_rfl
theorem waysN (k : Nat) : isTrue (evH L_tab prims 1000 6 [.int .i64 (.negSucc k)] (tabH bruijn)) = true := by kernel_rfl
theorem waysZ : isTrue (evH L_tab prims 1000 6 [.int .i64 (.ofNat 0)] (tabH bruijn)) = true := by kernel_rfl

theorem isTrue_le {a b : R} (h : Le a b) (ha : isTrue a = true) : isTrue b = true := by
  cases a with
  | none => cases ha
  | some x => rw [h x rfl]; exact ha

theorem Ways_run (n : Int) (hw : (Lit.int .i64 n).wf = true) : isTrue (evH L_tab prims 1000 6 [.int .i64 n] (tabH bruijn)) = true := by
  have hb := (bounds_i64 hw).2
  cases n with
  | negSucc k => exact waysN k
  | ofNat m =>
    cases m with
    | zero => exact waysZ
    | succ k =>
      have hk : k + 1 ≤ 9223372036854775807 := Int.ofNat_le.1 hb
      have h4 : (k + 1) % 4 = 0 ∨ (k + 1) % 4 = 1 ∨ (k + 1) % 4 = 2 ∨ (k + 1) % 4 = 3 := by omega
      rcases h4 with hr | hr | hr | hr
      · exact isTrue_le (whole_le hr hk) (ways0 k)
      · exact isTrue_le (whole_le hr hk) (ways1 k)
      · exact isTrue_le (whole_le hr hk) (ways2 k)
      · exact isTrue_le (whole_le hr hk) (ways3 k)

end
end Go.Proofs.YtlmmhkcimjjakaaGreatDoor
