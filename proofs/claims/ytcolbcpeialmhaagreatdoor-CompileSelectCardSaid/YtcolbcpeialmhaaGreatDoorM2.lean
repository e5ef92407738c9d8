/- The primitives of a text; a law from the text's facts. -/
import Derived.Test.YtcolbcpeialmhaaGreatDoorM1
import Derived.Test.YtcolbcpeialmhaaGreatDoorSorts
import Derived.Test.YtcolbcpeialmhaaGreatDoorVTab
namespace Go.Proofs.YtcolbcpeialmhaaGreatDoor
open Go.Ab
noncomputable section
set_option maxRecDepth 100000
theorem pQ (base : Nat) (G : List Nat) : pg Tryz.prog base G kz := EU keysA
theorem SQ : Tryz.prog.follows .mixedOrders = true := by kernel_rfl
theorem nP (n base : Nat) : ct Tryz.prog base G3 (VE kz n) := qq SQ (pQ base G3) Ea n
theorem U0 : cg (al n6 [] (hP [])) (hP []) (.bool true) [] [] = (true, (cg (al n6 [] (hP [])) (hP []) (.bool true) [] []).2.1, (cg (al n6 [] (hP [])) (hP []) (.bool true) [] []).2.1) := by kernel_rfl
def cb (t : Txt) (A : Tp → Prop) : di := fun f => cond (Nat.beq f n12) (some (bg (QT (Ro (hP []) [.str t.T]) 4) G3 al n12)) (cond (Nat.beq f n6) (some (ru [] (.bool true)))
 (cond (Nat.beq f n23) (some (bg (QT (Ro (hP t.mods) [.agg t.mc, I 8]) 4) G3 al n23)) (cond (Nat.beq f n24) (some (bg (QT (R1 (BT t.st) t.m A) 4) G3 al n24))
 (cond (Nat.beq f n25) (some (bg (QT (R2 (BT t.st) t.m A) 4) G3 al n25)) (kz f)))))
theorem ET (t : Txt) (A : Tp → Prop) (base : Nat) : pg Tryz.prog base G3 (cb t A) := by
 intro f args H v H' h
 unfold cb at h
 dsimp only at h
 cases c1 : Nat.beq f n12 with
 | true =>
  rw [c1] at h
  obtain rfl := Nat.eq_of_beq_eq_true c1
  exact eH (nP 981 base) h
 | false =>
  rw [c1] at h
  cases c2 : Nat.beq f n6 with
  | true =>
   rw [c2] at h
   obtain rfl := Nat.eq_of_beq_eq_true c2
   exact xE (a0 := []) (v0 := .bool true) wL (nP 981 base) rfl trivial rfl (fE U0) h
  | false =>
   rw [c2] at h
   cases c3 : Nat.beq f n23 with
   | true =>
    rw [c3] at h
    obtain rfl := Nat.eq_of_beq_eq_true c3
    exact eH (nP 981 base) h
   | false =>
    rw [c3] at h
    cases c4 : Nat.beq f n24 with
    | true =>
     rw [c4] at h
     obtain rfl := Nat.eq_of_beq_eq_true c4
     exact eH (nP 981 base) h
    | false =>
     rw [c4] at h
     cases c5 : Nat.beq f n25 with
     | true =>
      rw [c5] at h
      obtain rfl := Nat.eq_of_beq_eq_true c5
      exact eH (nP 981 base) h
     | false =>
      rw [c5] at h
      exact pQ base G3 f args H v H' h
theorem Rq (t : Txt) (A : Tp → Prop) : TakesT (cb t A) al t A := {
 run := rfl
 one := rfl
 told := rfl
 comp := rfl
 new := rfl
 done := rfl
 says := rfl
 begins := rfl
 nums := rfl}
abbrev H0 : AHeap := hP []
def FI (f : Nat) (args : List AV) : Prop := ∃ pr, (∀ base, pg Tryz.prog base G3 pr) ∧ xt (VE pr 1000 f args H0) = true
def lN (pr : di) (k g : Nat) (P : List AV → AHeap → R) : aa := fun f a H => cond (Nat.beq f g) (P a H) (VE pr k f a H)
theorem Fu (pr : di) (k g : Nat) : lN pr k g (VE pr k g) = VE pr k := by
 funext f a H
 unfold lN
 cases h : Nat.beq f g with
 | true => rw [Nat.eq_of_beq_eq_true h]; rfl
 | false => rfl
end
noncomputable section
set_option maxRecDepth 100000
def wT (call : aa) (t0 t1 v : AV) (H : AHeap) : R :=
 ao v 0 H fun t24 H =>
 ao v 1 H fun t25 H =>
 aB [.nilsl, (.int .i64 (.ofNat 0)), (.int .i64 (.ofNat 0)), (.int .i64 (.ofNat 0)), (.int .i64 (.ofNat 0)), (.int .i64 (.ofNat 0)), .nilsl] H fun t8 H =>
 stK 7 H t8 t24 fun _ H =>
 pO (aUn .not t25) H fun t27 H =>
 ae t27 false (pFa 0 t8 H fun t29 H =>
 ldK .none H t29 fun t30 H =>
 pO (aw .sl H t30) H fun t31 H =>
 dj t31 (.int .i64 (.ofNat 2)) H fun t32 H =>
 wF call t0 t1 t8 t27 t32 H) (wF call t0 t1 t8 t27 .undef H)
theorem Dr {full some : Bool} {a : Int} (h : EN full some a = true) : (a = 1 ∧ full = false) ∨ (a = 5 ∧ some = true) ∨ (a ≠ 1 ∧ a ≠ 5 ∧ a = 9 ∧ full = true ∧ some = false) := by
 unfold EN at h
 cases c1 : ieq a 1 with
 | true => rw [c1] at h; rw [cD] at c1; exact .inl ⟨by simpa using c1, by simpa using h⟩
 | false =>
  rw [c1] at h
  cases c2 : ieq a 5 with
  | true => rw [c2] at h; rw [cD] at c2; exact .inr (.inl ⟨by simpa using c2, h⟩)
  | false =>
   rw [c2] at h
   obtain ⟨h1, h⟩ := ak (show aq _ _ = true from h)
   obtain ⟨h2, h3⟩ := ak h
   rw [cD] at h1 c1 c2
   exact .inr (.inr ⟨by simpa using c1, by simpa using c2, by simpa using h1, h2, by simpa using h3⟩)
@[simp ↓] theorem a1u (t : Bool) (a b : R) : ae Ab.U t a b = b := by cases t <;> rfl
@[simp ↓] theorem YT (t : Bool) (a b : R) : ae .undef t a b = b := by cases t <;> rfl
theorem Kl {full some : Bool} {call : aa} {a : AV} {n0 : Nat} {H : AHeap} (wf : WF H) (ht : Told1 (okS full some) n0 a H) : W (wT call (.bool full) (.bool some) (.tup [a, .bool true]) H) fun v _ => v = .bool true := by
 have hsc := ht.scal
 unfold wT
 simp -implicitDefEqProofs only [kE, kD]
 refine QW wf (x := a) hsc.1 hsc.2 (by rfl) fun H2 u2 n2 c2 => ?_
 obtain ⟨vo, va, en, trap, st, dn, fo, out, rfl, so, fo', s1, ee⟩ := ht
 have so2 := (so.same (H' := H2) fun b e => u2.old b (so.lt wf e)).rv
 simp only [Ft] at c2
 have rl := so2.len
 match out, ee, so2, rl with
 | [], ee, so2, rl =>
  have he : en = 0 := by have := show ieq en 0 = true from ee; rw [cD] at this; simpa using this
  subst he
  simp -implicitDefEqProofs [c2.rd, rl, FP, FO, FN, FM, FL, FK, wF]
 | [x], ee, so2, rl =>
  obtain ⟨e1, e2⟩ := ak (show aq (ieq en 0) (EN full some x) = true from ee)
  have he : en = 0 := by rw [cD] at e1; simpa using e1
  subst he
  have i0 := so2.ia 0 (by simp)
  have r0 := so2.rd 0 (by simp)
  simp at i0 r0
  rcases Dr e2 with ⟨rfl, rfl⟩ | ⟨rfl, rfl⟩ | ⟨_, _, rfl, rfl, rfl⟩ <;> simp -implicitDefEqProofs [c2.rd, rl, i0, r0, FT, FQ, FP, FO, FN, FM, FL, FK, wF]
 | [x, y], ee, so2, rl =>
  obtain ⟨e1, e2⟩ := ak (show aq (ieq y 8) (aq (cond (ieq en 0) true (ieq en 3)) (EN full some x)) = true from ee)
  obtain ⟨e2, e3⟩ := ak e2
  have hy : y = 8 := by rw [cD] at e1; simpa using e1
  have he : en = 0 ∨ en = 3 := by
   rw [cD, cD] at e2
   by_cases c : en = 0
   · exact .inl c
   · simp [c] at e2; exact .inr e2
  subst hy
  have i0 := so2.ia 0 (by simp)
  have r0 := so2.rd 0 (by simp)
  have i1 := so2.ia 1 (by simp)
  have r1 := so2.rd 1 (by simp)
  simp at i0 r0 i1 r1
  rcases he with rfl | rfl <;> rcases Dr e3 with ⟨rfl, rfl⟩ | ⟨rfl, rfl⟩ | ⟨_, _, rfl, rfl, rfl⟩ <;> simp -implicitDefEqProofs [c2.rd, rl, i0, r0, i1, r1, FT, FQ, FP, FO, FN, FM, FL, FK, wF]
theorem lY {t : Txt} {full some : Bool} {N : Nat} {x : Int} (K : ∃ A, TxtOK al mv3 t A (okS full some)) (hN : N ≤ 100000) (hN0 : 0 < N)
 (q : ∀ A P, iD (lN (cb t A) 999 n11 P) (.bool full) (.bool some) (.int .u32 x) H0 =
  ob2 (P [.str t.T, I 8, .int .u32 x, I (N : Int)] H0) fun v H => wT (lN (cb t A) 999 n11 P) (.bool full) (.bool some) v H) : FI n5 [.bool full, .bool some, .int .u32 x] := by
 obtain ⟨A, K⟩ := K
 refine ⟨cb t A, ET t A, ?_⟩
 have hb := U5 (cb t A) rfl 999 (.bool full) (.bool some) (.int .u32 x) H0
 have q := q A (VE (cb t A) 999 n11)
 have F := Rq t A
 generalize cb t A = pr at hb q F
 simp only [Fu] at q
 have wf : WF H0 := fM []
 have p : Part idN (hP []) H0 := pR (by kernel_rfl) wf (iM [])
 obtain ⟨v, H1, e, a, rfl, ⟨n0, _, ht⟩, w1, _, _⟩ := My K F 996 wf p hN hN0 (x := x)
 obtain ⟨v, H2, e2, rfl⟩ := Kl (call := VE pr 999) w1 ht
 rw [hb, q, e]
 simp only [dH]
 rw [e2]
 rfl
end
end Go.Proofs.YtcolbcpeialmhaaGreatDoor
