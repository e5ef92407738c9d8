/- strings.Count and stringslite.IndexByte at one byte, as primitives: both lean on an extern of the model. -/
import Derived.Test.YtooindilclphjaaGreatDoorAeC
import Derived.Shelf.Strings.Count
set_option linter.unusedVariables false
namespace Go.Ab
open Go.Shelf Go.Proofs
open Go.RowKit (Below)
noncomputable section

def cntB (c : UInt8) (l : List UInt8) : Nat := List.rec (motive := fun _ => Nat) 0 (fun b _ r => cond (Nat.beq b.toNat c.toNat) (Nat.succ r) r) l
def ixB (c : UInt8) (l : List UInt8) : Nat → Option Nat := List.rec (motive := fun _ => Nat → Option Nat) (fun _ => none) (fun b _ r i => cond (Nat.beq b.toNat c.toNat) (some i) (r (Nat.succ i))) l
def ixI (o : Option Nat) : Int := Option.rec (motive := fun _ => Int) (.negSucc 0) (fun i => .ofNat i) o

theorem beq_byte (a b : UInt8) : Nat.beq a.toNat b.toNat = (a == b) := by
  rw [Bool.eq_iff_iff, Nat.beq_eq, beq_iff_eq, UInt8.toNat_inj]

theorem cntB_eq (c : UInt8) : ∀ l : List UInt8, cntB c l = Lib.countByte l c
  | [] => rfl
  | b :: l => by
    show cond (Nat.beq b.toNat c.toNat) (Nat.succ (cntB c l)) (cntB c l) = _
    rw [cntB_eq c l, beq_byte]
    unfold Lib.countByte
    rw [List.count_cons]
    cases b == c <;> simp

theorem ixB_eq (c : UInt8) : ∀ (l : List UInt8) (i : Nat), ixI (ixB c l i) = if Lib.indexByte l c == -1 then -1 else Lib.indexByte l c + i
  | [], i => rfl
  | b :: l, i => by
    show ixI (cond (Nat.beq b.toNat c.toNat) (some i) (ixB c l (Nat.succ i))) = _
    rw [beq_byte]
    unfold Lib.indexByte
    cases hb : b == c with
    | true => simp [ixI]
    | false =>
      simp only [cond_false, Bool.false_eq_true, if_false]
      rw [ixB_eq c l]
      have := Lib.indexByte_ge l c
      by_cases h : Lib.indexByte l c = -1
      · simp [h]
      · have h2 : ¬ Lib.indexByte l c + 1 = -1 := by omega
        simp only [beq_iff_eq, h, if_false, h2]
        omega

def primCount1 (args : List AV) (H : AHeap) : Option (AV × AHeap) := match args with
  | [.str s, .str [c]] => some (.int .i64 (.ofNat (cntB c s)), H)
  | _ => none
def primIxB (args : List AV) (H : AHeap) : Option (AV × AHeap) := match args with
  | [.str s, .int .u8 c] => some (.int .i64 (ixI (ixB c.toNat.toUInt8 s 0)), H)
  | _ => none

section
variable {P : Program} {base : Nat} {G : List Nat} {r : Go.Shelf.Ren}

theorem primCount1_ok (L : Lays.n138 P r) (hcb : Callable P (r.f 138)) {args : List AV} {H H' : AHeap} {v : AV} (h : primCount1 args H = some (v, H')) :
    Callable P (r.f 138) ∧ ∀ ρ w args', HR base ρ H w → Gl G ρ → VRs ρ args args' → Calls P (r.f 138) (List.toArray args') w fun e w' => ∃ ρ' v', e = .returned v' ∧ VR ρ' v v' ∧ HR base ρ' H' w' ∧ Ext ρ H w ρ' H' w' := by
  refine ⟨hcb, fun ρ w args' hr hG ha => ?_⟩
  unfold primCount1 at h
  split at h
  · rename_i s c
    cases h
    obtain ⟨v0, r0, rfl, hv0, v1, r1, rfl, hv1, hr1⟩ := ha
    have hr1 : r1 = [] := hr1
    have hv0 : v0 = .string ⟨s.toArray⟩ := hv0
    have hv1 : v1 = .string ⟨#[c]⟩ := hv1
    subst hr1; subst hv0; subst hv1
    refine (Any.strings_Count_one L ⟨s.toArray⟩ c w).mono ?_
    rintro e w' ⟨rfl, rfl⟩
    exact ⟨ρ, _, rfl, by rw [cntB_eq]; rfl, hr, Ext.refl _ _ _⟩
  · cases h

theorem primIxB_ok (L : Lays.n217 P r) (hcb : Callable P (r.f 217)) {args : List AV} {H H' : AHeap} {v : AV} (h : primIxB args H = some (v, H')) :
    Callable P (r.f 217) ∧ ∀ ρ w args', HR base ρ H w → Gl G ρ → VRs ρ args args' → Calls P (r.f 217) (List.toArray args') w fun e w' => ∃ ρ' v', e = .returned v' ∧ VR ρ' v v' ∧ HR base ρ' H' w' ∧ Ext ρ H w ρ' H' w' := by
  refine ⟨hcb, fun ρ w args' hr hG ha => ?_⟩
  unfold primIxB at h
  split at h
  · rename_i s c
    cases h
    obtain ⟨v0, r0, rfl, hv0, v1, r1, rfl, hv1, hr1⟩ := ha
    have hr1 : r1 = [] := hr1
    have hv0 : v0 = .string ⟨s.toArray⟩ := hv0
    have hv1 : v1 = .int .u8 c := hv1
    subst hr1; subst hv0; subst hv1
    refine (Any.stringslite_IndexByte L ⟨s.toArray⟩ c w).mono ?_
    rintro e w' ⟨rfl, rfl⟩
    refine ⟨ρ, _, rfl, ?_, hr, Ext.refl _ _ _⟩
    have := ixB_eq c.toNat.toUInt8 s 0
    show Value.int .i64 _ = .int .i64 _
    rw [this]
    show Value.int .i64 (Lib.indexByte s _) = _
    congr 1
    by_cases e : Lib.indexByte s c.toNat.toUInt8 = -1
    · simp [e]
    · simp [e]
  · cases h
end
end
end Go.Ab
