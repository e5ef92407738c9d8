/- A text, joined. -/
import Derived.Test.YtcolbcpeialmhaaGreatDoorM0
import Derived.Test.YtcolbcpeialmhaaGreatDoorA5
import Derived.Test.YtcolbcpeialmhaaGreatDoorB1
import Derived.KernelRfl
namespace Go.Proofs.YtcolbcpeialmhaaGreatDoor
open Go.Ab
noncomputable section
set_option maxRecDepth 100000
abbrev prims3 : Prims := prim3v n245 n353 n327 n338
theorem free3 {f : Nat} (h : ¬ (f = n245 ∨ f = n327 ∨ f = n338)) : prims3 f = none := by
 have h1 : Nat.beq f n245 = false := by cases c : Nat.beq f n245 with | false => rfl | true => exact absurd (.inl (Nat.eq_of_beq_eq_true c)) h
 have h2 : Nat.beq f n327 = false := by cases c : Nat.beq f n327 with | false => rfl | true => exact absurd (.inr (.inl (Nat.eq_of_beq_eq_true c))) h
 have h3 : Nat.beq f n338 = false := by cases c : Nat.beq f n338 with | false => rfl | true => exact absurd (.inr (.inr (Nat.eq_of_beq_eq_true c))) h
 show cond (Nat.beq f n245) _ _ = none
 rw [h1, h2, h3]
 rfl
abbrev call3 : CallFn := VE prims3 981
def mv3 : Mv := mvs (VE prims3 980)
theorem one3 : ∀ h, mv3 h ≠ [] → ∀ p : Nat, p ≤ 1000000000 → ∃ x ∈ mv3 h, call3 n24 [.ptr 4 0, .int .i64 (p : Int)] h = some x := fun h hm p hp => one_mvs (free3 (by decide)) 980 hm p hp
def mkE3 (sp : List Nat) (l : List Tp) : List (List Nat) → List En := List.rec (motive := fun _ => List (List Nat) → List En) (fun _ => []) (fun d _ ih ps => List.rec (motive := fun _ => List En) [] (fun p r _ => ⟨hashTp d, d, revA (revA sp []) p⟩ :: ih r) ps) l
def atL {α : Type} (d : α) (D : List α) (l : List Nat) : List α := List.rec (motive := fun _ => List α) [] (fun i _ ih => Option.rec (motive := fun _ => α) d (fun x => x) (nthL D i) :: ih) l
def mkT (D : List TM) (l : List (List Nat)) : List Tp := List.rec (motive := fun _ => List Tp) [] (fun t _ ih => List.rec (motive := fun _ => List Tp) ih (fun v r _ => ⟨v, r⟩ :: ih) (atL (.c 0 []) D t)) l
def mkP (D : List (List Nat)) (l : List Nat) : List (List Nat) := atL [] D l
def shR (l : List TM) : List TM := List.rec (motive := fun _ => List TM) [] (fun x _ ih => (match x with | .c e l => TM.c e (List.rec (motive := fun _ => List AV) [] (fun a _ r => rn1 Nat.pred a :: r) l) | x => x) :: ih) l
def setL {α : Type} (i : Nat) (x : α) : List α → List α := Nat.rec (motive := fun _ => List α → List α) (fun l => List.rec (motive := fun _ => List α) [] (fun _ r _ => x :: r) l) (fun _ ih l => List.rec (motive := fun _ => List α) [] (fun a r _ => a :: ih r) l) i
theorem mem1 {S : List Tp} {d : Tp} (h : S = [d]) : d ∈ S := by rw [h]; exact .head _
def inVb (n : Nat) (l : List AV) : Bool := okL n l
theorem inVb_spec {n : Nat} : ∀ {l : List AV}, inVb n l = true → inVs n l
 | [], _ => trivial
 | a :: l, h => by
  obtain ⟨h1, h2⟩ := and2_eq (show and2 (okA n a) (okL n l) = true from h)
  exact ⟨(okA_spec (s := idN) h1).2, inVb_spec (l := l) h2⟩
theorem stat_of {st : List TM} {B : Tr AObj} {m : Nat} (hB : B = BT st) (hm : Nat.add 5 (lenL st) = m) (h : and2 (okR (Nat.add 5 (lenL st)) st) (shutR st) = true) : StatB B m := by
 subst hB; subst hm; exact BT_stat h
theorem text_ok {t : Txt} {A : Tp → Prop} {ok : List Int → Int → Int → Bool} {S : List Tp} {ps : List Nat} {l1 l2 : List AObj} {B : Tr AObj} {m : Nat} (hB : B = BT t.st) (hm : Nat.add 5 (lenL t.st) = m)
 (c : oneB (call3 n12 [.str t.T] (hP [])) (hP []) t.r0 t.mods t.ms = (true, l1, l1))
 (n : oneB (call3 n23 [.agg t.mc, I 8] (hP t.mods)) (hP t.mods) (.tup [.ptr 4 0, I 0]) (t.T0.v :: (t.st ++ t.T0.r)) t.ns = (true, l2, l2))
 (h : and2 (hgP t.mods [.agg t.mc, I 8] (Nat.add 4 (lenL t.mods)) ps 4) (and2 (shutR t.mods) (and2 (Nat.beq (lenL t.mc) 6) (and2 (allScal t.mc) (and2 (inVb (Nat.add 4 (lenL t.mods)) t.mc) (and2 (okR (Nat.add 5 (lenL t.st)) t.st) (shutR t.st)))))) = true)
 (hT : t.T0 ∈ S) (ch : Chain mv3 ok call3 n25 B m t.st S A) : ∃ A, TxtOK call3 mv3 t A ok := by
 subst hB; subst hm
 obtain ⟨h1, h⟩ := and2_eq h
 obtain ⟨h2, h⟩ := and2_eq h
 obtain ⟨h3, h⟩ := and2_eq h
 obtain ⟨h4, h⟩ := and2_eq h
 obtain ⟨h5, h6⟩ := and2_eq h
 have h3 := Nat.eq_of_beq_eq_true h3
 have h5 := inVb_spec h5
 rw [lenL_eq] at h3 h5
 exact ⟨A, GoodL_of c, h2, h3, h4, h5, hgP_hang h1, GoodL_of n, h6, ch.ok.1 _ hT, ch.closed h6 one3⟩
end
end Go.Proofs.YtcolbcpeialmhaaGreatDoor
