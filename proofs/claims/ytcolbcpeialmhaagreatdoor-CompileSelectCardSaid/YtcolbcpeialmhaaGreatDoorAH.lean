/- Look-ups in scopes, as primitives. -/
import Derived.Test.YtcolbcpeialmhaaGreatDoorA1
namespace Go.Ab
open Go.RowKit (Below)
noncomputable section
abbrev eC := List UInt8 × List AV
def SW : AV → Bool
 | .nilsl => true
 | .sl _ _ _ _ => true
 | _ => false
def lU (t : Tr AV) (o : Nat) : Option eC := match t.get? o with
 | some (.str nm) => match t.get? (o + 1) with
  | some (.str kd) => match t.get? (o + 2) with
   | some (.str tx) => match t.get? (o + 3) with
    | some (.int k1 a) => match t.get? (o + 4) with
     | some sv => match t.get? (o + 5) with
      | some (.int k2 lv) => cond (bH k1 .i64 && bH k2 .i64 && SW sv) (some (nm, [.str nm, .str kd, .str tx, .int k1 a, sv, .int k2 lv])) none
      | _ => none
     | none => none
    | _ => none
   | _ => none
  | _ => none
 | _ => none
def gH (t : Tr AV) (o : Nat) : Nat → Option (List eC)
 | 0 => some []
 | k + 1 => match lU t (o + k * 6) with
  | some v => match gH t o k with
   | some l => some (v :: l)
   | none => none
  | none => none
def gV (H : AHeap) : AV → Option (List eC)
 | .nilsl => some []
 | .sl b o len _ => cond (Nat.ble len 1000000) (match H.get b with
  | some (.cells _ _ _ t) => gH t o len
  | _ => none) none
 | _ => none
def du (H : AHeap) (t : Tr AV) (o : Nat) : Nat → Option (List (List eC))
 | 0 => some []
 | k + 1 => match t.get? (o + k) with
  | some sv => match gV H sv with
   | some a => match du H t o k with
    | some r => some (a :: r)
    | none => none
   | none => none
  | none => none
def qY (nm : List UInt8) : List eC → Option (List AV)
 | [] => none
 | (n, c) :: l => match qY nm l with
  | some r => some r
  | none => cond (kW n nm) (some c) none
def qZ (nm : List UInt8) : List eC → Option (List AV)
 | [] => none
 | (n, c) :: l => cond (kW n nm) (some c) (qZ nm l)
def look (hit : List eC → Option (List AV)) : List (List eC) → Option (List AV)
 | [] => none
 | a :: r => match hit a with
  | some c => some c
  | none => look hit r
def Z8 : List AV := [.str [], .str [], .str [], .int .i64 0, .nilsl, .int .i64 0]
def H9 : Option (List AV) → AV
 | some c => .tup [.agg c, .bool true]
 | none => .tup [.agg Z8, .bool false]
def fk (first : Bool) (d : Nat) (args : List AV) (H : AHeap) : Option (AV × AHeap) := match args with
 | [.ptr b o, .str nm] => match H.get b with
  | some (.cells _ _ _ t) => match t.get? (o + d) with
   | some .nilsl => some (H9 none, H)
   | some (.sl b' o' len _) => cond (Nat.ble len 1000000) (match H.get b' with
    | some (.cells _ _ _ t') => match du H t' o' len with
     | some ll => some (H9 (look (cond first (qY nm) (qZ nm)) ll), H)
     | none => none
    | _ => none) none
   | _ => none
  | _ => none
 | _ => none
structure VarV where
 (nm kd tx : ByteArray) (at' : Int) (ka : Option Addr) (kl kc : Nat) (lv : Int)
 deriving Inhabited
def VarV.cells (v : VarV) : Array Value := #[.string v.nm, .string v.kd, .string v.tx, .int .i64 v.at', .slice v.ka v.kl v.kc, .int .i64 v.lv]
section
variable {base : Nat} {ρ : Ren} {H : AHeap} {w : World}
def LkV (ρ : Ren) (vs : Nat → VarV) : List eC → Nat → Prop
 | [], k => k = 0
 | (n, c) :: l, k => ∃ j, k = j + 1 ∧ n = (vs j).nm.toList ∧ VRs ρ c (vs j).cells.toList ∧ LkV ρ vs l j
theorem qI {t : Tr AV} {o : Nat} {v : eC} (h : lU t o = some v) {cell : Nat → Option Value} (hc : ∀ i x, t.get? i = some x → ∃ x', cell i = some x' ∧ VR ρ x x') :
 ∃ u : VarV, (∀ c, c < 6 → cell (o + c) = u.cells[c]?) ∧ v.1 = u.nm.toList ∧ VRs ρ v.2 u.cells.toList := by
 unfold lU at h
 split at h <;> try (cases h; done)
 rename_i nm e0
 split at h <;> try (cases h; done)
 rename_i kd e1
 split at h <;> try (cases h; done)
 rename_i tx e2
 split at h <;> try (cases h; done)
 rename_i k1 a e3
 split at h <;> try (cases h; done)
 rename_i sv e4
 split at h <;> try (cases h; done)
 rename_i k2 lv e5
 cases hq : (bH k1 .i64 && bH k2 .i64 && SW sv) with
 | false => rw [hq] at h; cases h
 | true =>
  rw [hq] at h
  cases h
  simp only [Bool.and_eq_true] at hq
  obtain rfl := dI hq.1.1
  obtain rfl := dI hq.1.2
  obtain ⟨y0, f0, g0⟩ := hc _ _ e0
  obtain ⟨y1, f1, g1⟩ := hc _ _ e1
  obtain ⟨y2, f2, g2⟩ := hc _ _ e2
  obtain ⟨y3, f3, g3⟩ := hc _ _ e3
  obtain ⟨y4, f4, g4⟩ := hc _ _ e4
  obtain ⟨y5, f5, g5⟩ := hc _ _ e5
  have g0' : y0 = .string ⟨nm.toArray⟩ := g0
  have g1' : y1 = .string ⟨kd.toArray⟩ := g1
  have g2' : y2 = .string ⟨tx.toArray⟩ := g2
  have g3' : y3 = .int .i64 a := g3
  have g5' : y5 = .int .i64 lv := g5
  subst g0' g1' g2' g3' g5'
  obtain ⟨ka, kl, kc, rfl⟩ : ∃ ka kl kc, y4 = .slice ka kl kc := by
   cases sv <;> simp [SW] at hq
   · have : y4 = .slice none 0 0 := g4
     exact ⟨_, _, _, this⟩
   · obtain ⟨L, c, o', _, e, _⟩ := g4
     exact ⟨_, _, _, e⟩
  refine ⟨⟨⟨nm.toArray⟩, ⟨kd.toArray⟩, ⟨tx.toArray⟩, a, ka, kl, kc, lv⟩, fun c h6 => ?_, (fb nm).symm, ⟨_, _, rfl, g0, _, _, rfl, g1, _, _, rfl, g2, _, _, rfl, g3, _, _, rfl, g4, _, _, rfl, g5, rfl⟩⟩
  match c, h6 with
  | 0, _ => exact f0
  | 1, _ => exact f1
  | 2, _ => exact f2
  | 3, _ => exact f3
  | 4, _ => exact f4
  | 5, _ => exact f5
theorem LkV.congr {vs vs' : Nat → VarV} : ∀ {l : List eC} {k : Nat}, (∀ j, j < k → vs j = vs' j) → LkV ρ vs l k → LkV ρ vs' l k
 | [], _, _, h => h
 | (_, _) :: _, _, e, ⟨j, e1, e2, e3, e4⟩ => ⟨j, e1, by rw [← e j (by omega)]; exact e2, by rw [← e j (by omega)]; exact e3, LkV.congr (fun i hi => e i (by omega)) e4⟩
theorem ix {t : Tr AV} {o : Nat} {cell : Nat → Option Value} (hc : ∀ i x, t.get? i = some x → ∃ x', cell i = some x' ∧ VR ρ x x') : ∀ {k : Nat} {l : List eC}, gH t o k = some l →
 ∃ vs : Nat → VarV, (∀ j, j < k → ∀ c, c < 6 → cell (o + j * 6 + c) = (vs j).cells[c]?) ∧ LkV ρ vs l k
 | 0, l, h => by cases h; exact ⟨fun _ => default, fun j hj => by omega, rfl⟩
 | k + 1, l, h => by
  unfold gH at h
  cases h1 : lU t (o + k * 6) with
  | none => rw [h1] at h; cases h
  | some v =>
   rw [h1] at h
   simp only at h
   cases h2 : gH t o k with
   | none => rw [h2] at h; cases h
   | some l' =>
    rw [h2] at h; cases h
    obtain ⟨u, u1, u2, u3⟩ := qI h1 hc
    obtain ⟨vs, q1, q2⟩ := ix hc h2
    refine ⟨fun j => if j = k then u else vs j, fun j hj c h6 => ?_, ⟨k, rfl, by simp [u2], by simpa using u3, q2.congr fun j hj => (if_neg (by omega)).symm⟩⟩
    by_cases e : j = k
    · subst e; simp only [if_true]; exact u1 c h6
    · simp only [if_neg e]; exact q1 j (by omega) c h6
def VRows (n₀ : Nat) (W : World) (sv : Value) (len : Nat) (vs : Nat → VarV) : Prop :=
 (sv = .slice none 0 0 ∧ len = 0) ∨ ∃ b off cap, sv = .slice (some ⟨b, off, none⟩) len cap ∧ b < n₀ ∧ ∀ j, j < len → ∀ c, c < 6 → W.cell? ⟨b, off + j * 6 + c, none⟩ = (vs j).cells[c]?
theorem iY (h : HR base ρ H w) {b : Nat} {L : Loc} (hL : ρ b = some L) {ro : Bool} {e n : Nat} {t : Tr AV} (hb : H.get b = some (.cells ro e n t)) :
 ∀ i x, t.get? i = some x → ∃ x', w.cell? ⟨L.blk, L.off + i, none⟩ = some x' ∧ VR ρ x x' := fun i x hx => by
 obtain ⟨_, _, _, _, c, el, fr, h5, _, _, h8⟩ := h.obj b L _ hL hb
 obtain ⟨x', e1, e2⟩ := h8 i x hx
 exact ⟨x', by simp only [World.cell?, h5]; exact e1, e2⟩
theorem mO (h : HR base ρ H w) {sv : AV} {l : List eC} (hl : gV H sv = some l) {y : Value} (hy : VR ρ sv y) :
 ∃ ad ln cp vs, y = .slice ad ln cp ∧ ln ≤ 1000000 ∧ VRows w.heap.size w (.slice ad ln cp) ln vs ∧ LkV ρ vs l ln := by
 cases sv <;> simp only [gV] at hl <;> (try cases hl; done)
 · cases hl
   have hy : y = .slice none 0 0 := hy
   exact ⟨none, 0, 0, fun _ => default, hy, by omega, .inl ⟨rfl, rfl⟩, rfl⟩
 · rename_i b o len cap
   cases hlen : Nat.ble len 1000000 with
   | false => rw [hlen] at hl; cases hl
   | true =>
    rw [hlen] at hl
    simp only [cond_true] at hl
    have hlen := Nat.le_of_ble_eq_true hlen
    obtain ⟨L, c, o', hL, rfl, hlc, ho, _⟩ := hy
    cases hb : H.get b with
    | none => rw [hb] at hl; cases hl
    | some ob =>
     rw [hb] at hl
     cases ob <;> simp only at hl <;> (try cases hl; done)
     rename_i ro e n t
     obtain ⟨vs, q1, q2⟩ := ix (cell := fun i => w.cell? ⟨L.blk, L.off + i, none⟩) (iY h hL hb) hl
     refine ⟨_, len, c, vs, rfl, hlen, .inr ⟨L.blk, o', c, rfl, (h.dom b L hL).2, fun j hj i h6 => ?_⟩, q2⟩
     have := q1 j hj i h6
     rw [ho (by omega)]
     rw [← this]
     congr 2
     omega
theorem ql {nm : List UInt8} {vs : Nat → VarV} : ∀ {l : List eC} {k : Nat}, LkV ρ vs l k →
 (∃ c j, qY nm l = some c ∧ j < k ∧ (vs j).nm.toList = nm ∧ (∀ j', j' < j → (vs j').nm.toList ≠ nm) ∧ VRs ρ c (vs j).cells.toList) ∨ (qY nm l = none ∧ ∀ j, j < k → (vs j).nm.toList ≠ nm)
 | [], k, h => .inr ⟨rfl, fun j hj => by have : k = 0 := h; omega⟩
 | (n, c) :: l, _, ⟨j, e, e2, e3, e4⟩ => by
  subst e
  rcases ql (nm := nm) e4 with ⟨c', i, f1, f2, f3, f4, f5⟩ | ⟨f1, f2⟩
  · exact .inl ⟨c', i, by simp only [qY, f1], by omega, f3, f4, f5⟩
  · by_cases hq : n = nm
    · exact .inl ⟨c, j, by simp [qY, f1, dF, hq], by omega, by rw [← e2]; exact hq, fun j' hj => f2 j' hj, e3⟩
    · refine .inr ⟨by simp [qY, f1, dF, hq], fun i hi => ?_⟩
      by_cases hi' : i = j
      · subst hi'; rw [← e2]; exact hq
      · exact f2 i (by omega)
theorem qm {nm : List UInt8} {vs : Nat → VarV} : ∀ {l : List eC} {k : Nat}, LkV ρ vs l k →
 (∃ c j, qZ nm l = some c ∧ j < k ∧ (vs j).nm.toList = nm ∧ (∀ j', j < j' → j' < k → (vs j').nm.toList ≠ nm) ∧ VRs ρ c (vs j).cells.toList) ∨ (qZ nm l = none ∧ ∀ j, j < k → (vs j).nm.toList ≠ nm)
 | [], k, h => .inr ⟨rfl, fun j hj => by have : k = 0 := h; omega⟩
 | (n, c) :: l, _, ⟨j, e, e2, e3, e4⟩ => by
  subst e
  by_cases hq : n = nm
  · exact .inl ⟨c, j, by simp [qZ, dF, hq], by omega, by rw [← e2]; exact hq, fun j' h1 h2 => by omega, e3⟩
  · rcases qm (nm := nm) e4 with ⟨c', i, f1, f2, f3, f4, f5⟩ | ⟨f1, f2⟩
    · refine .inl ⟨c', i, by simp [qZ, f1, dF, hq], by omega, f3, fun j' h1 h2 => ?_, f5⟩
      by_cases hi' : j' = j
      · subst hi'; rw [← e2]; exact hq
      · exact f4 j' h1 (by omega)
    · refine .inr ⟨by simp [qZ, f1, dF, hq], fun i hi => ?_⟩
      by_cases hi' : i = j
      · subst hi'; rw [← e2]; exact hq
      · exact f2 i (by omega)
def LkS (ρ : Ren) (ln : Nat → Nat) (vs : Nat → Nat → VarV) : List (List eC) → Nat → Prop
 | [], k => k = 0
 | a :: l, k => ∃ j, k = j + 1 ∧ LkV ρ (vs j) a (ln j) ∧ LkS ρ ln vs l j
theorem LkS.congr {ln ln' : Nat → Nat} {vs vs' : Nat → Nat → VarV} : ∀ {l : List (List eC)} {k : Nat}, (∀ j, j < k → vs j = vs' j ∧ ln j = ln' j) → LkS ρ ln vs l k → LkS ρ ln' vs' l k
 | [], _, _, h => h
 | _ :: _, _, e, ⟨j, e1, e2, e4⟩ => ⟨j, e1, by rw [← (e j (by omega)).1, ← (e j (by omega)).2]; exact e2, LkS.congr (fun i hi => e i (by omega)) e4⟩
theorem gh (h : HR base ρ H w) {t : Tr AV} {o : Nat} {cell : Nat → Option Value} (hc : ∀ i x, t.get? i = some x → ∃ x', cell i = some x' ∧ VR ρ x x') : ∀ {k : Nat} {l : List (List eC)}, du H t o k = some l →
 ∃ (ad : Nat → Option Addr) (ln cp : Nat → Nat) (vs : Nat → Nat → VarV), (∀ j, j < k → cell (o + j) = some (.slice (ad j) (ln j) (cp j))) ∧ (∀ j, ln j ≤ 1000000) ∧ (∀ j, VRows w.heap.size w (.slice (ad j) (ln j) (cp j)) (ln j) (vs j)) ∧ LkS ρ ln vs l k
 | 0, l, e => by cases e; exact ⟨fun _ => none, fun _ => 0, fun _ => 0, fun _ _ => default, fun j hj => by omega, fun _ => Nat.zero_le _, fun _ => .inl ⟨rfl, rfl⟩, rfl⟩
 | k + 1, l, e => by
  unfold du at e
  cases h1 : t.get? (o + k) with
  | none => rw [h1] at e; cases e
  | some sv =>
   rw [h1] at e
   simp only at e
   cases h2 : gV H sv with
   | none => rw [h2] at e; cases e
   | some a =>
    rw [h2] at e
    simp only at e
    cases h3 : du H t o k with
    | none => rw [h3] at e; cases e
    | some r =>
     rw [h3] at e; cases e
     obtain ⟨y, y1, y2⟩ := hc _ _ h1
     obtain ⟨ad, ln, cp, vs, rfl, u2, u3, u4⟩ := mO h h2 y2
     obtain ⟨ad', ln', cp', vs', q1, q2, q3, q4⟩ := gh h hc h3
     refine ⟨fun j => if j = k then ad else ad' j, fun j => if j = k then ln else ln' j, fun j => if j = k then cp else cp' j, fun j => if j = k then vs else vs' j, fun j hj => ?_, fun j => ?_, fun j => ?_, ⟨k, rfl, by simpa using u4, q4.congr fun j hj => ⟨(if_neg (by omega)).symm, (if_neg (by omega)).symm⟩⟩⟩
     · by_cases e : j = k
       · subst e; simpa using y1
       · simp only [if_neg e]; exact q1 j (by omega)
     · by_cases e : j = k
       · simp only [if_pos e]; exact u2
       · simp only [if_neg e]; exact q2 j
     · by_cases e : j = k
       · simp only [if_pos e]; exact u3
       · simp only [if_neg e]; exact q3 j
theorem qf {hit : List eC → Option (List AV)} {ln : Nat → Nat} {vs : Nat → Nat → VarV} {nm : List UInt8} {R : Nat → Nat → Prop}
 (hh : ∀ {x : Nat} {l : List eC}, LkV ρ (vs x) l (ln x) → (∃ c j, hit l = some c ∧ j < ln x ∧ (vs x j).nm.toList = nm ∧ R x j ∧ VRs ρ c (vs x j).cells.toList) ∨ (hit l = none ∧ ∀ j, j < ln x → (vs x j).nm.toList ≠ nm)) :
 ∀ {l : List (List eC)} {k : Nat}, LkS ρ ln vs l k →
 (∃ c x j, look hit l = some c ∧ x < k ∧ j < ln x ∧ (vs x j).nm.toList = nm ∧ R x j ∧ (∀ x', x < x' → x' < k → ∀ j', j' < ln x' → (vs x' j').nm.toList ≠ nm) ∧ VRs ρ c (vs x j).cells.toList) ∨ (look hit l = none ∧ ∀ x, x < k → ∀ j, j < ln x → (vs x j).nm.toList ≠ nm)
 | [], k, h => .inr ⟨rfl, fun j hj => by have : k = 0 := h; omega⟩
 | a :: l, _, ⟨i, e, e2, e4⟩ => by
  subst e
  rcases hh e2 with ⟨c, j, f1, f2, f3, f4, f5⟩ | ⟨f1, f2⟩
  · exact .inl ⟨c, i, j, by simp [look, f1], by omega, f2, f3, f4, fun x' h1 h2 => by omega, f5⟩
  · rcases qf hh e4 with ⟨c, x, j, g1, g2, g3, g4, g5, g6, g7⟩ | ⟨g1, g2⟩
    · refine .inl ⟨c, x, j, by simp [look, f1, g1], by omega, g3, g4, g5, fun x' h1 h2 j' hj => ?_, g7⟩
      by_cases hx : x' = i
      · subst hx; exact f2 j' hj
      · exact g6 x' h1 (by omega) j' hj
    · refine .inr ⟨by simp [look, f1, g1], fun x hx j hj => ?_⟩
      by_cases hx' : x = i
      · subst hx'; exact f2 j hj
      · exact g2 x (by omega) j hj
end
end
end Go.Ab
