/- strconv.Itoa as a primitive. -/
import Derived.Test.YtooindilclphjaaGreatDoorAeB
import Derived.Shelf.Strconv.Itoa3
import Derived.Lib.AppendIntMem
namespace Go.Ab
open Go.Shelf Go.RowKit Go.Proofs
noncomputable section

/-- The decimal digits. -/
def decF : Nat → Nat → List UInt8 → List UInt8
  | 0, _, acc => acc
  | f + 1, u, acc => cond (Nat.ble 10 u) (decF f (Nat.div u 10) (UInt8.ofNat (Nat.add 48 (Nat.mod u 10)) :: acc)) (UInt8.ofNat (Nat.add 48 u) :: acc)
def itoaF (n : Int) : List UInt8 := Int.rec (motive := fun _ => List UInt8) (fun u => decF 20 u []) (fun u => 45 :: decF 20 (Nat.succ u) []) n

theorem decF_eq : ∀ (f u : Nat) (acc : List UInt8), u < 10 ^ f → 0 < f → decF f u acc = Lib.decDigits u ++ acc := by
  intro f
  induction f with
  | zero => intro u acc _ h; omega
  | succ f ih =>
    intro u acc hu _
    rw [Lib.decDigits]
    simp only [decF, ble_dec]
    by_cases c : u < 10
    · rw [dif_pos c, decide_eq_false (by omega)]; rfl
    · rw [dif_neg c, decide_eq_true (by omega)]
      have hf : 0 < f := by
        rcases Nat.eq_zero_or_pos f with e | e
        · subst e; simp at hu; omega
        · exact e
      show decF f (u / 10) _ = _
      rw [ih (u / 10) _ (by rw [Nat.pow_succ] at hu; omega) hf, List.append_assoc]; rfl
theorem itoaF_eq {n : Int} (h0 : -9223372036854775808 ≤ n) (h1 : n ≤ 9223372036854775807) : itoaF n = Lib.itoa n := by
  cases n with
  | ofNat u =>
    show decF 20 u [] = _
    rw [decF_eq 20 u [] (by simp only [Int.ofNat_eq_natCast] at h1; omega) (by omega)]
    unfold Lib.itoa
    rw [if_neg (by simp), List.append_nil]; rfl
  | negSucc u =>
    show 45 :: decF 20 (u + 1) [] = _
    rw [decF_eq 20 (u + 1) [] (by omega) (by omega)]
    unfold Lib.itoa
    rw [if_pos (by omega), List.append_nil]; rfl

def pow10s : List AV := [.int .u64 1, .int .u64 10, .int .u64 100, .int .u64 1000, .int .u64 10000, .int .u64 100000, .int .u64 1000000, .int .u64 10000000, .int .u64 100000000, .int .u64 1000000000, .int .u64 10000000000, .int .u64 100000000000, .int .u64 1000000000000, .int .u64 10000000000000, .int .u64 100000000000000, .int .u64 1000000000000000, .int .u64 10000000000000000, .int .u64 100000000000000000, .int .u64 1000000000000000000, .int .u64 10000000000000000000]

/-- The table in the abstract block g. -/
def primItoa (g : Nat) (args : List AV) (H : AHeap) : Option (AV × AHeap) := match args with
  | [.int .i64 n] => cond (ile (-9223372036854775808) n && ile n 9223372036854775807) (match H.get g with
    | some (.tab l) => cond (AV.beqs l pow10s) (some (.str (itoaF n), H)) none
    | _ => none) none
  | _ => none

section
variable {P : Program} {base : Nat} {G : List Nat} {r : Go.Shelf.Ren}

theorem pow10s_vals {ρ : Go.Ab.Ren} {c : List Value} (h : VRs ρ pow10s c) : c = Lib.pow10Tab.map fun z => Value.int .u64 z := by
  have : ∀ (l : List Int) {c : List Value}, VRs ρ (l.map fun z => AV.int .u64 z) c → c = l.map fun z => Value.int .u64 z := by
    intro l
    induction l with
    | nil => intro c h; exact h
    | cons a l ih => intro c h; obtain ⟨y, s, e, h1, h2⟩ := h; have h1 : y = .int .u64 a := h1; rw [e, h1, ih h2]; rfl
  exact this Lib.pow10Tab h

theorem primItoa_ok (L : LaysM.n171 P r) (hcb : Callable P (r.f 171)) {g : Nat} (hg : G.contains g = true) (hn : P.globalNamed "internal/strconv.uint64pow10" = some g) {args : List AV} {H H' : AHeap} {v : AV} (h : primItoa g args H = some (v, H')) :
    Callable P (r.f 171) ∧ ∀ ρ w args', HR base ρ H w → Gl G ρ → VRs ρ args args' → Calls P (r.f 171) (List.toArray args') w fun e w' => ∃ ρ' v', e = .returned v' ∧ VR ρ' v v' ∧ HR base ρ' H' w' ∧ Ext ρ H w ρ' H' w' := by
  refine ⟨hcb, fun ρ w args' hr hG ha => ?_⟩
  unfold primItoa at h
  split at h
  · rename_i n
    obtain ⟨v0, r0, rfl, hv0, hr0⟩ := ha
    have hr0 : r0 = [] := hr0
    subst hr0
    have hv0 : v0 = .int .i64 n := hv0
    subst hv0
    cases hc : (ile (-9223372036854775808) n && ile n 9223372036854775807) with
    | false => rw [hc] at h; cases h
    | true =>
      rw [hc] at h
      simp only [Bool.and_eq_true, ile_eq, decide_eq_true_eq] at hc
      obtain ⟨c1, c2⟩ := hc
      simp only [cond_true] at h
      split at h
      · rename_i l hget
        cases hl : AV.beqs l pow10s with
        | false => rw [hl] at h; cases h
        | true =>
          rw [hl] at h; cases h
          obtain rfl := AV.beqs_eq hl
          obtain ⟨K, k1, k2, k3⟩ := hG g hg
          obtain ⟨h1, c, el, fr, h2, h3⟩ := hr.obj g K _ k1 hget
          rw [k2, pow10s_vals h3] at h2
          have htab : Lib.TabIs P w "internal/strconv.uint64pow10" .u64 Lib.pow10Tab := by
            unfold Lib.TabIs World.var?
            rw [hn]
            simp only [Option.bind_some, h2]
          refine (Any.strconv_Itoa L n c1 c2 w htab).mono ?_
          rintro e w' ⟨rfl, k, os, rfl⟩
          obtain ⟨f1, f2⟩ := hr.below (Lib.below_grow w.heap.size w (Nat.le_refl _) k os)
          exact ⟨ρ, _, rfl, by rw [itoaF_eq c1 c2]; rfl, f1, f2⟩
      · cases h
  · cases h
end
end
end Go.Ab
