/- Abstract values, heaps, and how they stand to the model's. -/
import Derived.Test.YtooindilclphjaaGreatDoorAbA
namespace Go.Ab
noncomputable section

inductive AV where
  | bool (b : Bool)
  | int (k : IntKind) (n : Int)
  | str (s : List UInt8)
  | nilp
  | ptr (b o : Nat)
  | nilsl
  | sl (b o len : Nat) (cap : Option Nat)
  | nilmap
  | map (b : Nat)
  | nilfn
  | fn (f : Nat) (first caps : List AV)
  | nilif
  | iface (t : Nat) (v : AV)
  | agg (l : List AV)
  | tup (l : List AV)
  deriving Inhabited

def AV.undef : AV := .tup []

def AV.cells : AV → List AV
  | .agg l => l
  | v => [v]

inductive AObj where
  | cells (ro : Bool) (esz n : Nat) (t : Tr AV)
  | map (es : List (AV × AV × Nat)) (clock : Nat)
  | dead
  | bld (ty : Nat) (used : Bool) (buf : Option (Nat × Nat))
  | brow (ty : Nat) (bs : List UInt8)
  | tab (l : List AV)

def AObj.own : AObj → Bool
  | .cells ro _ _ _ => !ro
  | .map _ _ => true
  | .dead => false
  | .bld _ _ _ => true
  | .brow _ _ => true
  | .tab _ => false
def AObj.live : AObj → Bool
  | .dead => false
  | _ => true

structure AHeap where
  n : Nat
  t : Tr AObj

def AHeap.get (H : AHeap) (b : Nat) : Option AObj := H.t.get? b
def AHeap.put (H : AHeap) (b : Nat) (o : AObj) : AHeap := ⟨H.n, H.t.set b o⟩
def AHeap.add (H : AHeap) (o : AObj) : AHeap := ⟨H.n + 1, H.t.push H.n o⟩

/-- Where an abstract block lies: the model's block, from which cell on; how many cells that block has; cells an element. -/
structure Loc where
  blk : Nat
  off : Nat
  top : Nat
  esz : Nat

abbrev Ren := Nat → Option Loc

mutual
def VR (ρ : Ren) : AV → Value → Prop
  | .bool b, v => v = .bool b
  | .int k n, v => v = .int k n
  | .str l, v => v = .string ⟨l.toArray⟩
  | .nilp, v => v = .pointer none
  | .ptr b o, v => ∃ L, ρ b = some L ∧ v = .pointer (some ⟨L.blk, L.off + o, none⟩)
  | .nilsl, v => v = .slice none 0 0
  | .sl b o len cap, v => ∃ L c o', ρ b = some L ∧ v = .slice (some ⟨L.blk, o', none⟩) len c ∧ len ≤ c ∧ (c ≠ 0 → o' = L.off + o) ∧
      (match cap with | some k => c = k | none => L.off + o + c * L.esz ≤ L.top)
  | .nilmap, v => v = .map none
  | .map b, v => ∃ L, ρ b = some L ∧ v = .map (some L.blk)
  | .nilfn, v => v = .nilFunc
  | .fn f a b, v => ∃ a' b', v = .func (.func f) (List.toArray a') (List.toArray b') ∧ VRs ρ a a' ∧ VRs ρ b b'
  | .nilif, v => v = .nilIface
  | .iface t x, v => ∃ x', v = .iface t x' ∧ VR ρ x x'
  | .agg l, v => ∃ l', v = .agg (List.toArray l') ∧ VRs ρ l l'
  | .tup l, v => ∃ l', v = .tuple (List.toArray l') ∧ VRs ρ l l'
def VRs (ρ : Ren) : List AV → List Value → Prop
  | [], l => l = []
  | x :: r, l => ∃ y s, l = y :: s ∧ VR ρ x y ∧ VRs ρ r s
end

def Sub (ρ ρ' : Ren) : Prop := ∀ b L, ρ b = some L → ρ' b = some L

theorem Sub.refl (ρ : Ren) : Sub ρ ρ := fun _ _ h => h
theorem Sub.trans {a b c : Ren} (h : Sub a b) (k : Sub b c) : Sub a c := fun x L e => k x L (h x L e)

mutual
theorem VR.mono {ρ ρ' : Ren} (h : Sub ρ ρ') : ∀ {a : AV} {v : Value}, VR ρ a v → VR ρ' a v
  | .bool _, _, hv => hv
  | .int _ _, _, hv => hv
  | .str _, _, hv => hv
  | .nilp, _, hv => hv
  | .ptr _ _, _, hv => let ⟨L, e, r⟩ := hv; ⟨L, h _ _ e, r⟩
  | .nilsl, _, hv => hv
  | .sl _ _ _ _, _, hv => let ⟨L, c, o, e, r⟩ := hv; ⟨L, c, o, h _ _ e, r⟩
  | .nilmap, _, hv => hv
  | .map _, _, hv => let ⟨L, e, r⟩ := hv; ⟨L, h _ _ e, r⟩
  | .nilfn, _, hv => hv
  | .fn _ _ _, _, hv => let ⟨a, b, e, r, s⟩ := hv; ⟨a, b, e, VRs.mono h r, VRs.mono h s⟩
  | .nilif, _, hv => hv
  | .iface _ _, _, hv => let ⟨x, e, r⟩ := hv; ⟨x, e, VR.mono h r⟩
  | .agg _, _, hv => let ⟨l, e, r⟩ := hv; ⟨l, e, VRs.mono h r⟩
  | .tup _, _, hv => let ⟨l, e, r⟩ := hv; ⟨l, e, VRs.mono h r⟩
theorem VRs.mono {ρ ρ' : Ren} (h : Sub ρ ρ') : ∀ {a : List AV} {v : List Value}, VRs ρ a v → VRs ρ' a v
  | [], _, hv => hv
  | _ :: _, _, hv => let ⟨y, s, e, r, t⟩ := hv; ⟨y, s, e, VR.mono h r, VRs.mono h t⟩
end

theorem VRs.length {ρ : Ren} : ∀ {a : List AV} {v : List Value}, VRs ρ a v → a.length = v.length
  | [], _, rfl => rfl
  | _ :: _, _, ⟨_, _, e, _, t⟩ => by subst e; simp [VRs.length t]

theorem VRs.get {ρ : Ren} : ∀ {a : List AV} {v : List Value}, VRs ρ a v → ∀ {i : Nat} {x : AV}, a[i]? = some x → ∃ y, v[i]? = some y ∧ VR ρ x y
  | [], _, _, i, x, hx => by simp at hx
  | z :: r, _, ⟨y, s, e, h1, t⟩, i, x, hx => by
    subst e
    cases i with
    | zero => simp at hx; subst hx; exact ⟨y, rfl, h1⟩
    | succ i => simpa using VRs.get t (i := i) (x := x) (by simpa using hx)

theorem VRs.append {ρ : Ren} : ∀ {a b : List AV} {v w : List Value}, VRs ρ a v → VRs ρ b w → VRs ρ (a ++ b) (v ++ w)
  | [], _, _, _, rfl, h => h
  | _ :: _, _, _, _, ⟨y, s, e, h1, t⟩, h => by subst e; exact ⟨y, s ++ _, rfl, h1, VRs.append t h⟩

theorem VRs.of_get {ρ : Ren} : ∀ {a : List AV} {v : List Value}, a.length = v.length → (∀ (i : Nat) (x : AV), a[i]? = some x → ∃ y, v[i]? = some y ∧ VR ρ x y) → VRs ρ a v
  | [], v, hl, _ => by cases v with | nil => rfl | cons => simp at hl
  | x :: r, v, hl, h => by
    cases v with
    | nil => simp at hl
    | cons y s =>
      obtain ⟨y', hy, hr⟩ := h 0 x rfl
      simp at hy; subst hy
      exact ⟨y, s, rfl, hr, VRs.of_get (by simpa using hl) fun i x hx => by simpa using h (i + 1) x (by simpa using hx)⟩

theorem VRs.replicate {ρ : Ren} {x : AV} {y : Value} (h : VR ρ x y) : ∀ n, VRs ρ (List.replicate n x) (List.replicate n y)
  | 0 => rfl
  | n + 1 => ⟨y, _, rfl, h, VRs.replicate h n⟩

/-- An entry of a map. -/
def ER (ρ : Ren) : List (AV × AV × Nat) → List MapEntry → Prop
  | [], l => l = []
  | (k, v, s) :: r, l => ∃ e m, l = e :: m ∧ VR ρ k e.key ∧ VR ρ v e.val ∧ e.born = s ∧ ER ρ r m

theorem ER.mono {ρ ρ' : Ren} (h : Sub ρ ρ') : ∀ {a : List (AV × AV × Nat)} {l : List MapEntry}, ER ρ a l → ER ρ' a l
  | [], _, hl => hl
  | (_, _, _) :: _, _, ⟨e, m, h1, h2, h3, h4, h5⟩ => ⟨e, m, h1, h2.mono h, h3.mono h, h4, ER.mono h h5⟩

/-- No cell below n is frozen. -/
def OkFr (fr : Nat × Nat) (n : Nat) : Prop := fr = (0, 0) ∨ n ≤ fr.1

def OR (base : Nat) (ρ : Ren) (L : Loc) : AObj → World → Prop
  | .cells ro esz n t, w => (L.esz = esz ∧ (esz = 0 → L.off = 0)) ∧ t.Full n ∧ L.off + n ≤ L.top ∧ (ro = false → base ≤ L.blk) ∧
      ∃ c el fr, w.heap[L.blk]? = some (.cells c el fr) ∧ (ro = false → OkFr fr c.size) ∧ c.size = L.top ∧
        ∀ i v, t.get? i = some v → ∃ v', c[L.off + i]? = some v' ∧ VR ρ v v'
  | .map es clock, w => L.off = 0 ∧ base ≤ L.blk ∧ ∃ es', w.heap[L.blk]? = some (.map (List.toArray es') clock) ∧ ER ρ es es'
  | .dead, _ => True
  | .bld ty u buf, w => L.off = 0 ∧ base ≤ L.blk ∧ ∃ v', w.heap[L.blk]? = some (.cells #[.pointer (cond u (some ⟨L.blk, 0, none⟩) none), v'] ty (0, 0)) ∧
      (match buf with | none => v' = .slice none 0 0 | some (g, n) => ∃ K, ρ g = some K ∧ v' = .slice (some ⟨K.blk, 0, none⟩) n K.top)
  | .brow ty bs, w => L.off = 0 ∧ base ≤ L.blk ∧ ∃ c, w.heap[L.blk]? = some (.cells c ty (0, 0)) ∧ c.size = L.top ∧ L.top ≤ 2 ^ 63 - 1 ∧ bs.length ≤ L.top ∧ c.toList.take bs.length = bs.map fun b => Value.int .u8 b.toNat
  | .tab l, w => L.off = 0 ∧ ∃ c el fr, w.heap[L.blk]? = some (.cells (List.toArray c) el fr) ∧ VRs ρ l c

structure HR (base : Nat) (ρ : Ren) (H : AHeap) (w : World) : Prop where
  full : H.t.Full H.n
  low : base ≤ w.heap.size
  dom : ∀ b L, ρ b = some L → b < H.n ∧ L.blk < w.heap.size
  obj : ∀ b L o, ρ b = some L → H.get b = some o → OR base ρ L o w
  apart : ∀ b b' L L' o o', ρ b = some L → ρ b' = some L' → H.get b = some o → H.get b' = some o' → o.own = true → o'.live = true → b ≠ b' → L.blk ≠ L'.blk

def Owns (ρ : Ren) (H : AHeap) (k : Nat) : Prop := ∃ b L o, ρ b = some L ∧ H.get b = some o ∧ o.own = true ∧ L.blk = k

/-- From one state to a later one. -/
structure Ext (ρ : Ren) (H : AHeap) (w : World) (ρ' : Ren) (H' : AHeap) (w' : World) : Prop where
  n : H.n ≤ H'.n
  old : ∀ b, b < H.n → ρ' b = ρ b
  quiet : ∀ b, b < H.n → ρ b = none → H'.get b = H.get b
  size : w.heap.size ≤ w'.heap.size
  frame : ∀ k, k < w.heap.size → ¬ Owns ρ H k → w'.heap[k]? = w.heap[k]?
  own : ∀ k, Owns ρ' H' k → w.heap.size ≤ k ∨ Owns ρ H k
  os : w'.os = w.os
  tape : w'.tape = w.tape
  output : w'.output = w.output

theorem Ext.refl (ρ : Ren) (H : AHeap) (w : World) : Ext ρ H w ρ H w :=
  ⟨Nat.le_refl _, fun _ _ => rfl, fun _ _ _ => rfl, Nat.le_refl _, fun _ _ _ => rfl, fun _ h => .inr h, rfl, rfl, rfl⟩

theorem Ext.trans {ρ ρ₁ ρ₂ : Ren} {H H₁ H₂ : AHeap} {w w₁ w₂ : World} (h : Ext ρ H w ρ₁ H₁ w₁) (k : Ext ρ₁ H₁ w₁ ρ₂ H₂ w₂) : Ext ρ H w ρ₂ H₂ w₂ := {
  n := Nat.le_trans h.n k.n
  old b hb := (k.old b (Nat.lt_of_lt_of_le hb h.n)).trans (h.old b hb)
  quiet b hb e := (k.quiet b (Nat.lt_of_lt_of_le hb h.n) ((h.old b hb).trans e)).trans (h.quiet b hb e)
  size := Nat.le_trans h.size k.size
  frame i hi hn := by
    rw [k.frame i (Nat.lt_of_lt_of_le hi h.size) (fun ho => by rcases h.own i ho with c | c; omega; exact hn c), h.frame i hi hn]
  own i ho := by
    rcases k.own i ho with c | c
    · exact .inl (Nat.le_trans h.size c)
    · exact h.own i c
  os := k.os.trans h.os
  tape := k.tape.trans h.tape
  output := k.output.trans h.output
  }

theorem HR.sub {base : Nat} {ρ ρ' : Ren} {H H' : AHeap} {w w' : World} (hr : HR base ρ H w) (h : Ext ρ H w ρ' H' w') : Sub ρ ρ' :=
  fun b L e => (h.old b (hr.dom b L e).1).trans e

/-- A draw turns nothing. -/
theorem HR.of_heap {base : Nat} {ρ : Ren} {H : AHeap} {w w' : World} (h : HR base ρ H w) (e : w'.heap = w.heap) : HR base ρ H w' := {
  full := h.full
  low := by rw [e]; exact h.low
  dom b L hb := by rw [e]; exact h.dom b L hb
  obj b L o hb ho := by
    have := h.obj b L o hb ho
    cases o <;> simp only [OR] at this ⊢ <;> first | exact trivial | (rw [e]; exact this)
  apart := h.apart
  }

theorem Ext.of_heap {ρ : Ren} {H : AHeap} {w w' : World} (e : w'.heap = w.heap) (h1 : w'.os = w.os) (h2 : w'.tape = w.tape) (h3 : w'.output = w.output) : Ext ρ H w ρ H w' :=
  ⟨Nat.le_refl _, fun _ _ => rfl, fun _ _ _ => rfl, by rw [e]; exact Nat.le_refl _, fun _ _ _ => by rw [e], fun _ h => .inr h, h1, h2, h3⟩

end
end Go.Ab
