/- The table of plain functions, put together. -/
import Derived.Test.YtooindilclphjaaGreatDoorAdE
namespace Go.Ab
noncomputable section
section
variable {P : Program} {G : List Nat} {N n : Nat} {r : List (Option Ff)} {s : Ff}

theorem asN (h : AllSta P G N (n + 1) r) : AllSta P G N n (none :: r) := h
theorem asS (hs : Stands P G N n s) (h : AllSta P G N (n + 1) r) : AllSta P G N n (some s :: r) := ⟨hs, h⟩
theorem asE : AllSta P G N n [] := trivial

/-- What is not printed stands for itself. -/
theorem stands_self {f : Nat} (h : (compFU P G f).isSome = true) : Stands P G N f (mkFf P N (kfOf P G f)) := ⟨kfOf P G f, compFU_kfOf h, fun _ _ _ _ h => h⟩

def bitsL (mask : Nat) (l : List (Option Ff)) (n : Nat) : Bool := List.rec (motive := fun _ => Nat → Bool) (fun _ => true)
  (fun x _ ih n => Option.rec (motive := fun _ => Bool) (ih (Nat.succ n)) (fun _ => Bool.rec (motive := fun _ => Bool) false (ih (Nat.succ n)) (bitN mask n)) x) l n

theorem bitsL_spec {mask : Nat} : ∀ {l : List (Option Ff)} {n : Nat}, bitsL mask l n = true → ∀ {i : Nat} {s : Ff}, l[i]? = some (some s) → bitN mask (n + i) = true ∧ i < l.length
  | [], _, _, i, s, h => by simp at h
  | none :: r, n, hb, i, s, h => by
    cases i with
    | zero => simp at h
    | succ i =>
      obtain ⟨h1, h2⟩ := bitsL_spec (l := r) (n := n + 1) hb (i := i) (s := s) (by simpa using h)
      exact ⟨by rwa [show n + (i + 1) = n + 1 + i by omega], by simpa using h2⟩
  | some x :: r, n, hb, i, s, h => by
    have hb : Bool.rec (motive := fun _ => Bool) false (bitsL mask r (n + 1)) (bitN mask n) = true := hb
    cases hn : bitN mask n with
    | false => rw [hn] at hb; cases hb
    | true =>
      rw [hn] at hb
      cases i with
      | zero => exact ⟨hn, by simp⟩
      | succ i =>
        obtain ⟨h1, h2⟩ := bitsL_spec (l := r) (n := n + 1) hb (i := i) (s := s) (by simpa using h)
        exact ⟨by rwa [show n + (i + 1) = n + 1 + i by omega], by simpa using h2⟩

/-- The table is good: every plain function stands for its body, every body's regions are checked. -/
theorem tab_ok {l : List (Option Ff)} {mask : Nat} (h : AllSta P G N 0 l) (hb : bitsL mask l 0 = true) (hok : ∀ f, f < l.length → bitN mask f = true → okFun P G f = true) : TabSOK P G N (tabS (Tr.ofList l)) :=
  tabS_ok h fun f _ hs => by
    obtain ⟨h1, h2⟩ := bitsL_spec hb hs
    rw [Nat.zero_add] at h1
    exact hok f h2 h1
end
end
end Go.Ab
