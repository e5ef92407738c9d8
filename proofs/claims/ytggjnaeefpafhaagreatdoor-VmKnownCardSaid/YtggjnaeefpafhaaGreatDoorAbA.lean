/- Flexible arrays, and small facts. -/
import Derived.Calls
import Derived.Orders
namespace Go.Ab

inductive Tr (α : Type) where
  | nil
  | node (x : α) (l r : Tr α)

section
variable {α : Type}

def Tr.get? : Tr α → Nat → Option α
  | .nil, _ => none
  | .node x l r, n =>
    match n with
    | 0 => some x
    | n + 1 => cond (Nat.beq (Nat.mod n 2) 0) (l.get? (Nat.div n 2)) (r.get? (Nat.div n 2))

def Tr.set : Tr α → Nat → α → Tr α
  | .nil, _, _ => .nil
  | .node x l r, n, v =>
    match n with
    | 0 => .node v l r
    | n + 1 => cond (Nat.beq (Nat.mod n 2) 0) (.node x (l.set (Nat.div n 2) v) r) (.node x l (r.set (Nat.div n 2) v))

def Tr.push : Tr α → Nat → α → Tr α
  | .nil, _, v => .node v .nil .nil
  | .node x l r, n, v =>
    match n with
    | 0 => .node x l r
    | n + 1 => cond (Nat.beq (Nat.mod n 2) 0) (.node x (l.push (Nat.div n 2) v) r) (.node x l (r.push (Nat.div n 2) v))

def Tr.repF (x : α) : Nat → Nat → Tr α
  | 0, _ => .nil
  | f + 1, n =>
    match n with
    | 0 => .nil
    | n + 1 => .node x (Tr.repF x f (Nat.div (n + 1) 2)) (Tr.repF x f (Nat.div n 2))

def Tr.rep (n : Nat) (x : α) : Tr α := Tr.repF x (Nat.log2 n + 1) n

def Tr.pushAll (t : Tr α) (n : Nat) : List α → Tr α
  | [] => t
  | v :: l => Tr.pushAll (t.push n v) (n + 1) l

def Tr.ofList (l : List α) : Tr α := Tr.pushAll .nil 0 l

theorem beq_mod_zero (n : Nat) : Nat.beq (Nat.mod n 2) 0 = decide (n % 2 = 0) := by
  have : Nat.mod n 2 = n % 2 := rfl
  rw [this]
  rcases Nat.mod_two_eq_zero_or_one n with h | h <;> rw [h] <;> rfl

theorem Tr.get?_zero (x : α) (l r : Tr α) : (Tr.node x l r).get? 0 = some x := rfl

theorem Tr.get?_odd (x : α) (l r : Tr α) (k : Nat) : (Tr.node x l r).get? (2 * k + 1) = l.get? k := by
  show cond (Nat.beq (Nat.mod (2 * k) 2) 0) (l.get? (Nat.div (2 * k) 2)) (r.get? (Nat.div (2 * k) 2)) = _
  rw [beq_mod_zero]
  have h2 : Nat.div (2 * k) 2 = k := by show 2 * k / 2 = k; omega
  simp [h2]

theorem Tr.get?_even (x : α) (l r : Tr α) (k : Nat) : (Tr.node x l r).get? (2 * k + 2) = r.get? k := by
  show cond (Nat.beq (Nat.mod (2 * k + 1) 2) 0) (l.get? (Nat.div (2 * k + 1) 2)) (r.get? (Nat.div (2 * k + 1) 2)) = _
  rw [beq_mod_zero]
  have h2 : Nat.div (2 * k + 1) 2 = k := by show (2 * k + 1) / 2 = k; omega
  simp [h2]

theorem Tr.set_zero (x v : α) (l r : Tr α) : (Tr.node x l r).set 0 v = .node v l r := rfl
theorem Tr.set_odd (x v : α) (l r : Tr α) (k : Nat) : (Tr.node x l r).set (2 * k + 1) v = .node x (l.set k v) r := by
  show cond (Nat.beq (Nat.mod (2 * k) 2) 0) (Tr.node x (l.set (Nat.div (2 * k) 2) v) r) (.node x l (r.set (Nat.div (2 * k) 2) v)) = _
  rw [beq_mod_zero]
  have h2 : Nat.div (2 * k) 2 = k := by show 2 * k / 2 = k; omega
  simp [h2]
theorem Tr.set_even (x v : α) (l r : Tr α) (k : Nat) : (Tr.node x l r).set (2 * k + 2) v = .node x l (r.set k v) := by
  show cond (Nat.beq (Nat.mod (2 * k + 1) 2) 0) (Tr.node x (l.set (Nat.div (2 * k + 1) 2) v) r) (.node x l (r.set (Nat.div (2 * k + 1) 2) v)) = _
  rw [beq_mod_zero]
  have h2 : Nat.div (2 * k + 1) 2 = k := by show (2 * k + 1) / 2 = k; omega
  simp [h2]
theorem Tr.push_odd (x v : α) (l r : Tr α) (k : Nat) : (Tr.node x l r).push (2 * k + 1) v = .node x (l.push k v) r := by
  show cond (Nat.beq (Nat.mod (2 * k) 2) 0) (Tr.node x (l.push (Nat.div (2 * k) 2) v) r) (.node x l (r.push (Nat.div (2 * k) 2) v)) = _
  rw [beq_mod_zero]
  have h2 : Nat.div (2 * k) 2 = k := by show 2 * k / 2 = k; omega
  simp [h2]
theorem Tr.push_even (x v : α) (l r : Tr α) (k : Nat) : (Tr.node x l r).push (2 * k + 2) v = .node x l (r.push k v) := by
  show cond (Nat.beq (Nat.mod (2 * k + 1) 2) 0) (Tr.node x (l.push (Nat.div (2 * k + 1) 2) v) r) (.node x l (r.push (Nat.div (2 * k + 1) 2) v)) = _
  rw [beq_mod_zero]
  have h2 : Nat.div (2 * k + 1) 2 = k := by show (2 * k + 1) / 2 = k; omega
  simp [h2]

theorem idx_cases (n : Nat) : n = 0 ∨ (∃ k, n = 2 * k + 1) ∨ (∃ k, n = 2 * k + 2) := by
  rcases Nat.eq_zero_or_pos n with h | h
  · exact .inl h
  · rcases Nat.mod_two_eq_zero_or_one n with e | e
    · exact .inr (.inr ⟨n / 2 - 1, by omega⟩)
    · exact .inr (.inl ⟨n / 2, by omega⟩)

theorem Tr.get?_set_same (t : Tr α) : ∀ (n : Nat) (v : α), (t.set n v).get? n = (t.get? n).map fun _ => v := by
  induction t with
  | nil => intro n v; rfl
  | node x l r ihl ihr =>
    intro n v
    rcases idx_cases n with rfl | ⟨k, rfl⟩ | ⟨k, rfl⟩
    · rfl
    · rw [set_odd, get?_odd, get?_odd, ihl]
    · rw [set_even, get?_even, get?_even, ihr]

theorem Tr.get?_set_ne (t : Tr α) : ∀ (n m : Nat) (v : α), m ≠ n → (t.set n v).get? m = t.get? m := by
  induction t with
  | nil => intro n m v _; rfl
  | node x l r ihl ihr =>
    intro n m v h
    rcases idx_cases n with rfl | ⟨k, rfl⟩ | ⟨k, rfl⟩ <;> rcases idx_cases m with rfl | ⟨j, rfl⟩ | ⟨j, rfl⟩
    · exact absurd rfl h
    · rw [set_zero, get?_odd, get?_odd]
    · rw [set_zero, get?_even, get?_even]
    · rw [set_odd, get?_zero, get?_zero]
    · rw [set_odd, get?_odd, get?_odd, ihl]; omega
    · rw [set_odd, get?_even, get?_even]
    · rw [set_even, get?_zero, get?_zero]
    · rw [set_even, get?_odd, get?_odd]
    · rw [set_even, get?_even, get?_even, ihr]; omega

/-- The places below n are there, and no others. -/
def Tr.Full (t : Tr α) (n : Nat) : Prop := ∀ i, (t.get? i).isSome = true ↔ i < n

theorem Tr.Full.none {t : Tr α} {n i : Nat} (h : t.Full n) (hi : n ≤ i) : t.get? i = none := by
  cases e : t.get? i with
  | none => rfl
  | some v => have := (h i).1 (by rw [e]; rfl); omega

theorem Tr.full_nil : (Tr.nil : Tr α).Full 0 := fun i => by simp [Tr.get?]

theorem Tr.Full.left {x : α} {l r : Tr α} {n : Nat} (h : (Tr.node x l r).Full n) : l.Full (n / 2) := fun i => by
  have := h (2 * i + 1); rw [get?_odd] at this; exact this.trans (by omega)
theorem Tr.Full.right {x : α} {l r : Tr α} {n : Nat} (h : (Tr.node x l r).Full (n + 1)) : r.Full (n / 2) := fun i => by
  have := h (2 * i + 2); rw [get?_even] at this; exact this.trans (by omega)

theorem Tr.get?_push {t : Tr α} : ∀ {n : Nat} (v : α) (_ : t.Full n) (m : Nat), (t.push n v).get? m = if m = n then some v else t.get? m := by
  induction t with
  | nil =>
    intro n v h m
    have h0 : n = 0 := by
      rcases Nat.eq_zero_or_pos n with e | e
      · exact e
      · have := (h 0).2 e; simp [Tr.get?] at this
    subst h0
    show (Tr.node v .nil .nil).get? m = _
    rcases idx_cases m with rfl | ⟨k, rfl⟩ | ⟨k, rfl⟩
    · simp [get?_zero]
    · rw [get?_odd, if_neg (by omega)]; rfl
    · rw [get?_even, if_neg (by omega)]; rfl
  | node x l r ihl ihr =>
    intro n v h m
    have hpos : 0 < n := (h 0).1 (by simp [get?_zero])
    rcases idx_cases n with rfl | ⟨k, rfl⟩ | ⟨k, rfl⟩
    · omega
    · have hl := h.left
      rw [show (2 * k + 1) / 2 = k by omega] at hl
      rw [push_odd]
      rcases idx_cases m with rfl | ⟨j, rfl⟩ | ⟨j, rfl⟩
      · rw [get?_zero, get?_zero, if_neg (by omega)]
      · rw [get?_odd, get?_odd, ihl v hl]
        by_cases e : j = k
        · rw [if_pos e, if_pos (by omega)]
        · rw [if_neg e, if_neg (by omega)]
      · rw [get?_even, get?_even, if_neg (by omega)]
    · have hr := Tr.Full.right (n := 2 * k + 1) h
      rw [show (2 * k + 1) / 2 = k by omega] at hr
      rw [push_even]
      rcases idx_cases m with rfl | ⟨j, rfl⟩ | ⟨j, rfl⟩
      · rw [get?_zero, get?_zero, if_neg (by omega)]
      · rw [get?_odd, get?_odd, if_neg (by omega)]
      · rw [get?_even, get?_even, ihr v hr]
        by_cases e : j = k
        · rw [if_pos e, if_pos (by omega)]
        · rw [if_neg e, if_neg (by omega)]

theorem Tr.Full.push {t : Tr α} {n : Nat} (h : t.Full n) (v : α) : (t.push n v).Full (n + 1) := fun i => by
  rw [Tr.get?_push v h]
  by_cases e : i = n
  · simp [e]
  · rw [if_neg e, h i]; omega

theorem Tr.Full.set {t : Tr α} {n : Nat} (h : t.Full n) (k : Nat) (v : α) : (t.set k v).Full n := fun i => by
  by_cases e : i = k
  · subst e; rw [Tr.get?_set_same, Option.isSome_map]; exact h i
  · rw [Tr.get?_set_ne _ _ _ _ e]; exact h i

theorem Tr.pushAll_spec : ∀ (l : List α) {t : Tr α} {n : Nat} (_ : t.Full n), (t.pushAll n l).Full (n + l.length) ∧
    ∀ i, (t.pushAll n l).get? i = if n ≤ i then l[i - n]? else t.get? i := by
  intro l
  induction l with
  | nil =>
    intro t n h
    refine ⟨h, fun i => ?_⟩
    show t.get? i = _
    by_cases e : n ≤ i
    · rw [if_pos e, h.none e]; rfl
    · rw [if_neg e]
  | cons v l ih =>
    intro t n h
    obtain ⟨h1, h2⟩ := ih (h.push v)
    refine ⟨by rw [List.length_cons, show n + (l.length + 1) = n + 1 + l.length by omega]; exact h1, fun i => ?_⟩
    show ((t.push n v).pushAll (n + 1) l).get? i = _
    rw [h2]
    by_cases e : n + 1 ≤ i
    · rw [if_pos e, if_pos (by omega), show i - n = (i - (n + 1)) + 1 by omega]; rfl
    · rw [if_neg e, Tr.get?_push v h]
      by_cases e2 : i = n
      · subst e2; simp
      · rw [if_neg e2, if_neg (by omega)]

theorem Tr.full_ofList (l : List α) : (Tr.ofList l).Full l.length := by
  have := (Tr.pushAll_spec l Tr.full_nil).1; rwa [Nat.zero_add] at this
theorem Tr.get?_ofList (l : List α) (i : Nat) : (Tr.ofList l).get? i = l[i]? := by
  have := (Tr.pushAll_spec l Tr.full_nil).2 i; rw [if_pos (by omega)] at this; exact this

theorem Tr.get?_repF (x : α) : ∀ (f n i : Nat), n < 2 ^ f → (Tr.repF x f n).get? i = if i < n then some x else none := by
  intro f
  induction f with
  | zero => intro n i h; have : n = 0 := by omega
            subst this; rfl
  | succ f ih =>
    intro n i h
    cases n with
    | zero => rfl
    | succ n =>
      have e1 : Nat.div (n + 1) 2 = (n + 1) / 2 := rfl
      have e2 : Nat.div n 2 = n / 2 := rfl
      have hp : 2 ^ (f + 1) = 2 * 2 ^ f := by rw [Nat.pow_succ]; omega
      show (Tr.node x (Tr.repF x f (Nat.div (n + 1) 2)) (Tr.repF x f (Nat.div n 2))).get? i = _
      rcases idx_cases i with rfl | ⟨k, rfl⟩ | ⟨k, rfl⟩
      · rw [get?_zero, if_pos (by omega)]
      · rw [get?_odd, e1, ih _ _ (by omega)]
        by_cases c : k < (n + 1) / 2
        · rw [if_pos c, if_pos (by omega)]
        · rw [if_neg c, if_neg (by omega)]
      · rw [get?_even, e2, ih _ _ (by omega)]
        by_cases c : k < n / 2
        · rw [if_pos c, if_pos (by omega)]
        · rw [if_neg c, if_neg (by omega)]

theorem Tr.get?_rep (x : α) (n i : Nat) : (Tr.rep n x).get? i = if i < n then some x else none :=
  Tr.get?_repF x _ n i Nat.lt_log2_self

theorem Tr.full_rep (x : α) (n : Nat) : (Tr.rep n x).Full n := fun i => by
  rw [Tr.get?_rep]; by_cases h : i < n <;> simp [h]

/-- k places from o on. -/
def Tr.rdN (t : Tr α) (o : Nat) : Nat → Option (List α)
  | 0 => some []
  | k + 1 => match t.get? o with
    | none => none
    | some v => match Tr.rdN t (o + 1) k with
      | none => none
      | some l => some (v :: l)

/-- The places from o on are written. -/
def Tr.wrN (t : Tr α) (o : Nat) : List α → Option (Tr α)
  | [] => some t
  | v :: l => match t.get? o with
    | none => none
    | some _ => Tr.wrN (t.set o v) (o + 1) l

theorem Tr.rdN_spec {t : Tr α} : ∀ {k o : Nat} {l : List α}, t.rdN o k = some l → l.length = k ∧ ∀ i, i < k → t.get? (o + i) = l[i]? := by
  intro k
  induction k with
  | zero => intro o l h; cases h; exact ⟨rfl, fun i hi => by omega⟩
  | succ k ih =>
    intro o l h
    simp only [Tr.rdN] at h
    cases e : t.get? o with
    | none => rw [e] at h; cases h
    | some v =>
      rw [e] at h
      cases e2 : t.rdN (o + 1) k with
      | none => rw [e2] at h; cases h
      | some l' =>
        rw [e2] at h
        cases h
        obtain ⟨h1, h2⟩ := ih e2
        refine ⟨by simp [h1], fun i hi => ?_⟩
        cases i with
        | zero => simpa using e
        | succ i => rw [show o + (i + 1) = o + 1 + i by omega, h2 i (by omega)]; rfl

theorem Tr.wrN_spec : ∀ {l : List α} {t t' : Tr α} {o : Nat}, t.wrN o l = some t' →
    (∀ i, i < l.length → (t.get? (o + i)).isSome = true) ∧
    ∀ i, t'.get? i = if o ≤ i ∧ i < o + l.length then l[i - o]? else t.get? i := by
  intro l
  induction l with
  | nil => intro t t' o h; cases h; exact ⟨fun i hi => by simp at hi, fun i => by rw [if_neg (by simp only [List.length_nil]; omega)]⟩
  | cons v l ih =>
    intro t t' o h
    simp only [Tr.wrN] at h
    cases e : t.get? o with
    | none => rw [e] at h; cases h
    | some u =>
      rw [e] at h
      obtain ⟨h1, h2⟩ := ih h
      refine ⟨fun i hi => ?_, fun i => ?_⟩
      · cases i with
        | zero => simp [e]
        | succ i =>
          have := h1 i (by simpa using hi)
          rw [Tr.get?_set_ne _ _ _ _ (by omega)] at this
          rw [show o + (i + 1) = o + 1 + i by omega]; exact this
      · rw [h2]
        by_cases c : o + 1 ≤ i ∧ i < o + 1 + l.length
        · rw [if_pos c, if_pos (by simp only [List.length_cons]; omega), show i - o = (i - (o + 1)) + 1 by omega]; rfl
        · rw [if_neg c]
          by_cases c2 : i = o
          · subst c2; rw [Tr.get?_set_same, e, if_pos (by simp)]; simp
          · rw [Tr.get?_set_ne _ _ _ _ c2, if_neg (by simp only [List.length_cons]; omega)]

end
end Go.Ab
