/- The primitives of a text; a law from the text's facts. -/
import Derived.Test.YtcolbcpeialmhaaGreatDoorM1
import Derived.Test.YtcolbcpeialmhaaGreatDoorSorts
import Derived.Test.YtcolbcpeialmhaaGreatDoorVTab
namespace Go.Proofs.YtcolbcpeialmhaaGreatDoor
open Go.Ab
noncomputable section
set_option maxRecDepth 100000
theorem prims3_ok (base : Nat) (G : List Nat) : PrimOK Tryz.prog base G prims3 := prim3v_ok keysA
theorem mixedT : Tryz.prog.follows .mixedOrders = true := by kernel_rfl
theorem calls3 (n base : Nat) : CallOK Tryz.prog base G3 (VE prims3 n) := evH_sound mixedT (prims3_ok base G3) V_tabOK n
theorem awakeA : oneB (call3 n6 [] (hP [])) (hP []) (.bool true) [] [] = (true, (oneB (call3 n6 [] (hP [])) (hP []) (.bool true) [] []).2.1, (oneB (call3 n6 [] (hP [])) (hP []) (.bool true) [] []).2.1) := by kernel_rfl
def primsT (t : Txt) (A : Tp → Prop) : Prims := fun f => cond (Nat.beq f n12) (some (partPrim (QT (Ro (hP []) [.str t.T]) 4) G3 call3 n12)) (cond (Nat.beq f n6) (some (cutPrim [] (.bool true)))
 (cond (Nat.beq f n23) (some (partPrim (QT (Ro (hP t.mods) [.agg t.mc, I 8]) 4) G3 call3 n23)) (cond (Nat.beq f n24) (some (partPrim (QT (R1 (BT t.st) t.m A) 4) G3 call3 n24))
 (cond (Nat.beq f n25) (some (partPrim (QT (R2 (BT t.st) t.m A) 4) G3 call3 n25)) (prims3 f)))))
theorem primsT_ok (t : Txt) (A : Tp → Prop) (base : Nat) : PrimOK Tryz.prog base G3 (primsT t A) := by
 intro f args H v H' h
 unfold primsT at h
 dsimp only at h
 cases c1 : Nat.beq f n12 with
 | true =>
  rw [c1] at h
  obtain rfl := Nat.eq_of_beq_eq_true c1
  exact partPrim_ok (calls3 981 base) h
 | false =>
  rw [c1] at h
  cases c2 : Nat.beq f n6 with
  | true =>
   rw [c2] at h
   obtain rfl := Nat.eq_of_beq_eq_true c2
   exact cutPrim_ok (a0 := []) (v0 := .bool true) G3_lt (calls3 981 base) rfl trivial rfl (GoodL_of awakeA) h
  | false =>
   rw [c2] at h
   cases c3 : Nat.beq f n23 with
   | true =>
    rw [c3] at h
    obtain rfl := Nat.eq_of_beq_eq_true c3
    exact partPrim_ok (calls3 981 base) h
   | false =>
    rw [c3] at h
    cases c4 : Nat.beq f n24 with
    | true =>
     rw [c4] at h
     obtain rfl := Nat.eq_of_beq_eq_true c4
     exact partPrim_ok (calls3 981 base) h
    | false =>
     rw [c4] at h
     cases c5 : Nat.beq f n25 with
     | true =>
      rw [c5] at h
      obtain rfl := Nat.eq_of_beq_eq_true c5
      exact partPrim_ok (calls3 981 base) h
     | false =>
      rw [c5] at h
      exact prims3_ok base G3 f args H v H' h
theorem takesT (t : Txt) (A : Tp → Prop) : TakesT (primsT t A) call3 t A := {
 run := rfl
 one := rfl
 told := rfl
 comp := rfl
 new := rfl
 done := rfl
 says := rfl
 begins := rfl
 nums := rfl}
abbrev H0 : AHeap := hP []
def Says (f : Nat) (args : List AV) : Prop := ∃ pr, (∀ base, PrimOK Tryz.prog base G3 pr) ∧ isTrue (VE pr 1000 f args H0) = true
def capC (pr : Prims) (k g : Nat) (P : List AV → AHeap → R) : CallFn := fun f a H => cond (Nat.beq f g) (P a H) (VE pr k f a H)
theorem capC_self (pr : Prims) (k g : Nat) : capC pr k g (VE pr k g) = VE pr k := by
 funext f a H
 unfold capC
 cases h : Nat.beq f g with
 | true => rw [Nat.eq_of_beq_eq_true h]; rfl
 | false => rfl
def capt : List AV → AHeap → R := fun a H => some (.tup a, H)
def fullV (t : Tr AV) (n : Nat) : Bool := Tr.rec (motive := fun _ => Bool)
 (fun a => and2 (Nat.ble n 16) (all16 fun i => eqB (someB (N16.gd i a)) (Nat.ble (Nat.succ i) n)))
 (fun a => and2 (Nat.ble n 256) (all16 fun i => all16 fun j => eqB (someB (Q2.get a (Nat.add (Nat.mul i 16) j))) (Nat.ble (Nat.succ (Nat.add (Nat.mul i 16) j)) n)))
 (fun a b => and2 (Nat.ble n 4096) (and2 (isNilT b) (all16 fun i => all16 fun j => all16 fun k => eqB (someB (Q3.get a (Nat.add (Nat.mul i 256) (Nat.add (Nat.mul j 16) k)))) (Nat.ble (Nat.succ (Nat.add (Nat.mul i 256) (Nat.add (Nat.mul j 16) k))) n)))) t
theorem fullV_spec {t : Tr AV} {n : Nat} (h : fullV t n = true) : t.Full n := by
 intro i
 cases t with
 | t1 a =>
  obtain ⟨h1, h2⟩ := and2_eq (show and2 _ _ = true from h)
  rw [ble_dec, decide_eq_true_eq] at h1
  rw [get1]
  by_cases c : i < 16
  · rw [if_pos c]
    have := eqB_eq (all16_spec h2 i c)
    rw [someB_eq, ble_dec] at this
    rw [this]; simp; omega
  · rw [if_neg c]; simp; omega
 | t2 a =>
  obtain ⟨h1, h2⟩ := and2_eq (show and2 _ _ = true from h)
  rw [ble_dec, decide_eq_true_eq] at h1
  rw [get2]
  by_cases c : i < 256
  · rw [if_pos c]
    have := eqB_eq (all16_spec (all16_spec h2 (i / 16) (by omega)) (i % 16) (by omega))
    rw [show Nat.add (Nat.mul (i / 16) 16) (i % 16) = i by show i / 16 * 16 + i % 16 = i; omega, someB_eq, ble_dec] at this
    rw [this]; simp; omega
  · rw [if_neg c]; simp; omega
 | t3 a b =>
  obtain ⟨h1, h⟩ := and2_eq (show and2 _ _ = true from h)
  obtain ⟨h3, h2⟩ := and2_eq h
  rw [ble_dec, decide_eq_true_eq] at h1
  rw [get3]
  by_cases c : i < 4096
  · rw [if_pos c]
    have := eqB_eq (all16_spec (all16_spec (all16_spec h2 (i / 256) (by omega)) (i / 16 % 16) (by omega)) (i % 16) (by omega))
    rw [show Nat.add (Nat.mul (i / 256) 256) (Nat.add (Nat.mul (i / 16 % 16) 16) (i % 16)) = i by show i / 256 * 256 + (i / 16 % 16 * 16 + i % 16) = i; omega, someB_eq, ble_dec] at this
    rw [this]; simp; omega
  · rw [if_neg c]
    cases b with
    | nil => simp [Tb.get?]; omega
    | node _ _ _ => cases h3
def cellsB (t : Tr AV) : Nat → List AV → Bool
 | _, [] => true
 | i, a :: l => match t.get? i with
  | some v => and2 (AV.beq v a) (cellsB t (Nat.succ i) l)
  | none => false
theorem cellsB_spec {t : Tr AV} : ∀ {l : List AV} {i : Nat}, cellsB t i l = true → ∀ j, j < l.length → t.get? (i + j) = l[j]?
 | [], _, _, j, hj => by simp at hj
 | a :: l, i, h, j, hj => by
  unfold cellsB at h
  split at h
  · rename_i v hv
    obtain ⟨h1, h2⟩ := and2_eq h
    cases j with
    | zero => rw [Nat.add_zero, hv, AV.beq_eq h1]; rfl
    | succ j =>
     have := cellsB_spec h2 j (by simpa using hj)
     rw [show i + (j + 1) = Nat.succ i + j by omega, this]; simp
  · cases h
def csB (H : AHeap) (b e : Nat) (l : List AV) : Bool := match H.get b with
 | some (.cells ro e' n t) => match ro with
  | false => and2 (Nat.beq e' e) (and2 (Nat.beq n l.length) (and2 (fullV t n) (cellsB t 0 l)))
  | true => false
 | _ => false
theorem csB_spec {H : AHeap} {b e : Nat} {l : List AV} (h : csB H b e l = true) : Cs H b false e l := by
 unfold csB at h
 split at h
 · rename_i ro e' n t hg
   cases ro with
   | true => cases h
   | false =>
    obtain ⟨h1, h⟩ := and2_eq h
    obtain ⟨h2, h⟩ := and2_eq h
    obtain ⟨h3, h4⟩ := and2_eq h
    obtain rfl := Nat.eq_of_beq_eq_true h1
    obtain rfl := Nat.eq_of_beq_eq_true h2
    have hf := fullV_spec h3
    refine ⟨t, hg, hf, fun i => ?_⟩
    by_cases c : i < l.length
    · have := cellsB_spec h4 i c; rwa [Nat.zero_add] at this
    · rw [List.getElem?_eq_none (by omega)]
      cases hx : t.get? i with
      | none => rfl
      | some v => have := (hf i).1 (by rw [hx]; rfl); omega
 · cases h
def heapOf (r : R) : AHeap := Option.rec (motive := fun _ => AHeap) { n := 0, t := Tr.nil } (fun p => p.2) r
def wvOf (r : R) : AV := match r with
 | some (.tup [_, _, _, _, wv, _, _], _) => wv
 | _ => .undef
def wantB (H : AHeap) (v : AV) (l : List Int) : Bool := match v with
 | .nilsl => (match l with | [] => true | _ => false)
 | .sl b o n q => and2 (Nat.beq o 0) (and2 (Nat.beq n l.length) (and2 (match q with | none => true | some c => Nat.beq c n) (and2 (Nat.ble 4 b) (csB H b 1 (l.map I)))))
 | _ => false
theorem wantB_spec {H : AHeap} {v : AV} {l : List Int} (h : wantB H v l = true) : WantV H v l ∧ ∀ b, v.blk = some b → 4 ≤ b := by
 unfold wantB at h
 split at h
 · split at h
   · exact ⟨.inl ⟨rfl, rfl⟩, fun b e => by cases e⟩
   · cases h
 · rename_i b o n q
   obtain ⟨h1, h⟩ := and2_eq h
   obtain ⟨h2, h⟩ := and2_eq h
   obtain ⟨h3, h⟩ := and2_eq h
   obtain ⟨h5, h4⟩ := and2_eq h
   obtain rfl := Nat.eq_of_beq_eq_true h1
   obtain rfl := Nat.eq_of_beq_eq_true h2
   refine ⟨.inr ⟨b, q, rfl, ?_, csB_spec h4⟩, fun b' e => by cases e; exact Nat.le_of_ble_eq_true h5⟩
   cases q with
   | none => exact .inl rfl
   | some c => exact .inr (by rw [Nat.eq_of_beq_eq_true h3])
 · cases h
def lawB (HL : AHeap) (wv : AV) (want : List Int) : Bool := and2 (fullB2 HL.t HL.n) (and2 (preB HL) (wantB HL wv want))
abbrev Look (pr : Prims) (T : List UInt8) (N : Nat) (want : List Int) (x : Int) (body : CallFn → R) (P : List AV → AHeap → R) : Prop :=
 (lawB (heapOf (body (capC pr 999 n7 capt))) (wvOf (body (capC pr 999 n7 capt))) want, body (capC pr 999 n7 P)) =
  (true, ob2 (P [.str T, I 8, .int .u32 x, I (N : Int), wvOf (body (capC pr 999 n7 capt)), I 1, I 0] (heapOf (body (capC pr 999 n7 capt)))) fun v H => some (v, H))
theorem law_says {t : Txt} {want : List Int} {N : Nat} {x : Int} {f : Nat} {args : List AV} {body : CallFn → R} (K : ∃ A, TxtOK call3 mv3 t A (okW want)) (hw : want.length ≤ 65536) (hN : N ≤ 100000) (hN0 : 0 < N)
 (hb : ∀ A, VE (primsT t A) 1000 f args H0 = body (VE (primsT t A) 999)) (q : ∀ A P, Look (primsT t A) t.T N want x body P) : Says f args := by
 obtain ⟨A, K⟩ := K
 refine ⟨primsT t A, primsT_ok t A, ?_⟩
 have hb := hb A
 have q := q A
 have F := takesT t A
 generalize primsT t A = pr at hb q F
 have hl := congrArg Prod.fst (q capt)
 obtain ⟨l1, l2⟩ := and2_eq (show lawB _ _ _ = true from hl)
 obtain ⟨l2, l3⟩ := and2_eq l2
 obtain ⟨w1, w2⟩ := wantB_spec l3
 have wf := fullB2_spec l1
 have p := preB_part l2 wf (hP_pre [])
 obtain ⟨v, H', e, rfl⟩ := says_ok hw K F 995 wf p hN hN0 (x := x) w1 w2
 have e2 := congrArg Prod.snd (q (VE pr 999 n7))
 simp only [capC_self] at e2
 rw [hb, e2, e]
 rfl
end
end Go.Proofs.YtcolbcpeialmhaaGreatDoor
