/- A text, joined. -/
import Derived.Test.YtcolbcpeialmhaaGreatDoorM0
import Derived.Test.YtcolbcpeialmhaaGreatDoorA5
import Derived.Test.YtcolbcpeialmhaaGreatDoorB1
import Derived.KernelRfl
namespace Go.Proofs.YtcolbcpeialmhaaGreatDoor
open Go.Ab
noncomputable section
set_option maxRecDepth 100000
abbrev kz : di := wX F4 Sm GU F1
theorem a1x {f : Nat} (h : ¬ (f = F4 ∨ f = GU ∨ f = F1)) : kz f = none := by
 have h1 : Nat.beq f F4 = false := by cases c : Nat.beq f F4 with | false => rfl | true => exact absurd (.inl (Nat.eq_of_beq_eq_true c)) h
 have h2 : Nat.beq f GU = false := by cases c : Nat.beq f GU with | false => rfl | true => exact absurd (.inr (.inl (Nat.eq_of_beq_eq_true c))) h
 have h3 : Nat.beq f F1 = false := by cases c : Nat.beq f F1 with | false => rfl | true => exact absurd (.inr (.inr (Nat.eq_of_beq_eq_true c))) h
 show cond (Nat.beq f F4) _ _ = none
 rw [h1, h2, h3]
 rfl
abbrev al : aa := VE kz 981
def mv3 : Mv := mvs (VE kz 980)
theorem a6L : ∀ h, mv3 h ≠ [] → ∀ p : Nat, p ≤ 1000000000 → ∃ x ∈ mv3 h, al n24 [.ptr 4 0, .int .i64 (p : Int)] h = some x := fun h hm p hp => Lu (a1x (by decide)) 980 hm p hp
def shR (l : List TM) : List TM := List.rec (motive := fun _ => List TM) [] (fun x _ ih => (match x with | .c e l => TM.c e (List.rec (motive := fun _ => List AV) [] (fun a _ r => rn1 Nat.pred a :: r) l) | x => x) :: ih) l
def Kk {α : Type} (i : Nat) (x : α) : List α → List α := Nat.rec (motive := fun _ => List α → List α) (fun l => List.rec (motive := fun _ => List α) [] (fun _ r _ => x :: r) l) (fun _ ih l => List.rec (motive := fun _ => List α) [] (fun a r _ => a :: ih r) l) i
theorem LX {S : List Tp} {d : Tp} (h : S = [d]) : d ∈ S := by rw [h]; exact .head _
def Fb (n : Nat) (l : List AV) : Bool := okL n l
theorem qk {n : Nat} : ∀ {l : List AV}, Fb n l = true → dz n l
 | [], _ => trivial
 | a :: l, h => by
  obtain ⟨h1, h2⟩ := ak (show aq (okA n a) (okL n l) = true from h)
  exact ⟨(eo (s := idN) h1).2, qk (l := l) h2⟩
theorem lT {st : List TM} {B : Tr AObj} {m : Nat} (hB : B = BT st) (hm : Nat.add 5 (aC st) = m) (h : aq (okR (Nat.add 5 (aC st)) st) (c7 st) = true) : StatB B m := by
 subst hB; subst hm; exact uY h
theorem lR {t : Txt} {A : Tp → Prop} {ok : List Int → Int → Int → Bool} {S : List Tp} {ps : List Nat} {l1 l2 : List AObj} {B : Tr AObj} {m : Nat} (hB : B = BT t.st) (hm : Nat.add 5 (aC t.st) = m)
 (c : cg (al n12 [.str t.T] (hP [])) (hP []) t.r0 t.mods t.ms = (true, l1, l1))
 (n : cg (al n23 [.agg t.mc, I 8] (hP t.mods)) (hP t.mods) (.tup [.ptr 4 0, I 0]) (t.T0.v :: (t.st ++ t.T0.r)) t.ns = (true, l2, l2))
 (h : aq (hgP t.mods [.agg t.mc, I 8] (Nat.add 4 (aC t.mods)) ps 4) (aq (c7 t.mods) (aq (Nat.beq (aC t.mc) 6) (aq (aI t.mc) (aq (Fb (Nat.add 4 (aC t.mods)) t.mc) (aq (okR (Nat.add 5 (aC t.st)) t.st) (c7 t.st)))))) = true)
 (hT : t.T0 ∈ S) (ch : Chain mv3 ok al n25 B m t.st S A) : ∃ A, TxtOK al mv3 t A ok := by
 subst hB; subst hm
 obtain ⟨h1, h⟩ := ak h
 obtain ⟨h2, h⟩ := ak h
 obtain ⟨h3, h⟩ := ak h
 obtain ⟨h4, h⟩ := ak h
 obtain ⟨h5, h6⟩ := ak h
 have h3 := Nat.eq_of_beq_eq_true h3
 have h5 := qk h5
 rw [de] at h3 h5
 exact ⟨A, fE c, h2, h3, h4, h5, Hq h1, fE n, h6, ch.ok.1 _ hT, ch.closed h6 a6L⟩
end
noncomputable section
def EN (full some : Bool) (a : Int) : Bool := cond (ieq a 1) (!full) (cond (ieq a 5) some (aq (ieq a 9) (aq full (!some))))
def okS (full some : Bool) (out : List Int) (en _ : Int) : Bool := match out with
 | [] => ieq en 0
 | [a] => aq (ieq en 0) (EN full some a)
 | [a, b] => aq (ieq b 8) (aq (cond (ieq en 0) true (ieq en 3)) (EN full some a))
 | _ => false
end
end Go.Proofs.YtcolbcpeialmhaaGreatDoor
