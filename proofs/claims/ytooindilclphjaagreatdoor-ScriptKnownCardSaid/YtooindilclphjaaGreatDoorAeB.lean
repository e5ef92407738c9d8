/- strings.Builder: WriteString and String as primitives over the abstract heap. -/
import Derived.Test.YtooindilclphjaaGreatDoorAeA
namespace Go.Ab
open Go.Shelf Go.RowKit Go.Proofs
noncomputable section

/-- Adds s to the builder b. -/
def wroteTo (tb T : Nat) (s : List UInt8) (b : Nat) (H : AHeap) : Option AHeap := match H.get b with
  | some (.bld T' _ none) => cond (Nat.beq T' T) (some ((H.put b (.bld T true (some (H.n, s.length)))).add (.brow tb s))) none
  | some (.bld T' _ (some (g, n))) => match H.get g with
    | some (.brow tb' bs) => cond (Nat.beq T' T && (Nat.beq tb' tb && (Nat.beq bs.length n && Nat.ble (Nat.add n s.length) 140737488355328)))
        (some (((H.put b (.bld T true (some (H.n, Nat.add n s.length)))).put g .dead).add (.brow tb (bs ++ s)))) none
    | _ => none
  | _ => none

def primWS (tb T : Nat) (args : List AV) (H : AHeap) : Option (AV × AHeap) := match args with
  | [.ptr b o, .str s] => cond (Nat.beq o 0 && (Nat.ble 1 s.length && Nat.ble s.length 1048576)) (match wroteTo tb T s b H with
    | some H' => some (.tup [.int .i64 (.ofNat s.length), .nilif], H')
    | none => none) none
  | _ => none

def primBS (tb T : Nat) (args : List AV) (H : AHeap) : Option (AV × AHeap) := match args with
  | [.ptr b o] => cond (Nat.beq o 0) (match H.get b with
    | some (.bld T' _ none) => cond (Nat.beq T' T) (some (.str [], H)) none
    | some (.bld T' _ (some (g, n))) => match H.get g with
      | some (.brow tb' bs) => cond (Nat.beq T' T && (Nat.beq tb' tb && (Nat.beq bs.length n && Nat.ble 1 n))) (some (.str bs, H.put g .dead)) none
      | _ => none
    | _ => none) none
  | _ => none

section
variable {base : Nat} {ρ : Go.Ab.Ren} {H : AHeap} {w w' : World}

theorem Full.put2 {H : AHeap} (h : H.t.Full H.n) (b : Nat) (o : AObj) : (H.put b o).t.Full (H.put b o).n := h.set _ _

/-- The builder b turns, its row goes over to a new abstract block, or there is its first. -/
theorem HR.wrote {b : Nat} {L N : Loc} {o o' r' : AObj} {gs : Option Nat} {H' : AHeap} (h : HR base ρ H w) (hb : ρ b = some L) (ho : H.get b = some o) (hown : o.own = true)
    (hg : ∀ g, gs = some g → ∃ K x, ρ g = some K ∧ H.get g = some x ∧ x.own = true ∧ g ≠ b)
    (hn : H'.n = H.n + 1) (hf : H'.t.Full H'.n) (hget : ∀ i, H'.get i = if i = H.n then some r' else if gs = some i then some .dead else if i = b then some o' else H.get i)
    (hos : w'.os = w.os) (htape : w'.tape = w.tape) (hout : w'.output = w.output) (hsz : w.heap.size ≤ w'.heap.size)
    (hfr : ∀ k, k < w.heap.size → k ≠ L.blk → (∀ g K, gs = some g → ρ g = some K → k ≠ K.blk) → w'.heap[k]? = w.heap[k]?)
    (hN : N.blk < w'.heap.size) (hN' : w.heap.size ≤ N.blk ∨ ∃ g K, gs = some g ∧ ρ g = some K ∧ N.blk = K.blk)
    (hor : OR base (ρ.upd H.n N) L o' w') (hor' : OR base (ρ.upd H.n N) N r' w') :
    HR base (ρ.upd H.n N) H' w' ∧ Ext ρ H w (ρ.upd H.n N) H' w' := by
  have hlive : ∀ {x : AObj}, x.own = true → x.live = true := fun {x} hx => by cases x <;> simp [AObj.own, AObj.live] at hx ⊢
  have hnone := h.none (Nat.le_refl H.n)
  have hbn := (h.dom b L hb).1
  -- what is not b, not the row: it lies in another block
  have other : ∀ i K x, ρ i = some K → H.get i = some x → x.live = true → i ≠ b → gs ≠ some i → K.blk ≠ L.blk ∧ ∀ g K', gs = some g → ρ g = some K' → K.blk ≠ K'.blk := fun i K x e hx hl hi hgi => by
    refine ⟨fun c => h.apart b i L K o x hb e ho hx hown hl (fun c => hi c.symm) c.symm, fun g K' eg eK c => ?_⟩
    obtain ⟨K2, y, q1, q2, q3, _⟩ := hg g eg
    rw [q1] at eK; cases eK
    exact h.apart g i K' K y x q1 e q2 hx q3 hl (fun c => hgi (c ▸ eg)) c.symm
  have hbg : gs ≠ some b := fun c => by obtain ⟨_, _, _, _, _, q⟩ := hg b c; exact q rfl
  have hNb : N.blk ≠ L.blk := fun c => by
    rcases hN' with q | ⟨g, K, q1, q2, q3⟩
    · have := (h.dom b L hb).2; omega
    · obtain ⟨K2, y, e1, e2, e3, e4⟩ := hg g q1
      rw [e1] at q2; cases q2
      exact h.apart b g L K o y hb e1 ho e2 hown (hlive e3) (fun c => e4 c.symm) (c.symm.trans q3)
  have hNo : ∀ i K x, ρ i = some K → H.get i = some x → x.live = true → i ≠ b → gs ≠ some i → K.blk ≠ N.blk := fun i K x e hx hl hi hgi c => by
    rcases hN' with q | ⟨g, K', q1, q2, q3⟩
    · have := (h.dom i K e).2; omega
    · exact (other i K x e hx hl hi hgi).2 g K' q1 q2 (c.trans q3)
  refine ⟨⟨hf, Nat.le_trans h.low hsz, fun i K e => ?_, fun i K x e hx => ?_, fun i j K K' x x' e e' hx hx' h1 h2 hne => ?_⟩, ⟨by rw [hn]; exact Nat.le_succ _, fun i hi => Ren.upd_ne _ _ (by omega), fun i hi e => ?_, hsz, fun k hk hno => ?_, fun k => ?_, hos, htape, hout⟩⟩
  · rw [hn]
    by_cases c : i = H.n
    · subst c; rw [Ren.upd_same] at e; cases e; exact ⟨Nat.lt_succ_self _, hN⟩
    · rw [Ren.upd_ne _ _ c] at e; have := h.dom i K e; exact ⟨by omega, by omega⟩
  · rw [hget] at hx
    by_cases c : i = H.n
    · rw [if_pos c] at hx; cases hx; subst c; rw [Ren.upd_same] at e; cases e; exact hor'
    · rw [if_neg c] at hx; rw [Ren.upd_ne _ _ c] at e
      by_cases c2 : gs = some i
      · rw [if_pos c2] at hx; cases hx; trivial
      · rw [if_neg c2] at hx
        by_cases c3 : i = b
        · rw [if_pos c3] at hx; cases hx; subst c3; rw [hb] at e; cases e; exact hor
        · rw [if_neg c3] at hx
          by_cases hl : x.live = true
          · obtain ⟨p1, p2⟩ := other i K x e hx hl c3 c2
            exact (h.obj i K x e hx).mono (Ren.sub_upd N hnone) (hfr _ (h.dom i K e).2 p1 p2)
          · cases x <;> simp [AObj.live] at hl; trivial
  · rw [hget] at hx hx'
    by_cases c : i = H.n <;> by_cases c' : j = H.n
    · omega
    · subst c; rw [if_pos rfl] at hx; rw [Ren.upd_same] at e; cases e
      rw [if_neg c'] at hx'; rw [Ren.upd_ne _ _ c'] at e'
      by_cases d1 : gs = some j
      · rw [if_pos d1] at hx'; cases hx'; simp [AObj.live] at h2
      · rw [if_neg d1] at hx'
        by_cases d2 : j = b
        · subst d2; rw [hb] at e'; cases e'; exact hNb
        · rw [if_neg d2] at hx'
          exact fun q => hNo j K' x' e' hx' h2 d2 d1 q.symm
    · subst c'; rw [if_pos rfl] at hx'; rw [Ren.upd_same] at e'; cases e'
      rw [if_neg c] at hx; rw [Ren.upd_ne _ _ c] at e
      by_cases d1 : gs = some i
      · rw [if_pos d1] at hx; cases hx; simp [AObj.own] at h1
      · rw [if_neg d1] at hx
        by_cases d2 : i = b
        · subst d2; rw [hb] at e; cases e; exact hNb.symm
        · rw [if_neg d2] at hx
          exact hNo i K x e hx (hlive h1) d2 d1
    · rw [if_neg c] at hx; rw [if_neg c'] at hx'; rw [Ren.upd_ne _ _ c] at e; rw [Ren.upd_ne _ _ c'] at e'
      by_cases d1 : gs = some i
      · rw [if_pos d1] at hx; cases hx; simp [AObj.own] at h1
      · rw [if_neg d1] at hx
        by_cases d1' : gs = some j
        · rw [if_pos d1'] at hx'; cases hx'; simp [AObj.live] at h2
        · rw [if_neg d1'] at hx'
          by_cases d2 : i = b <;> by_cases d2' : j = b
          · omega
          · subst d2; rw [if_neg d2'] at hx'; rw [hb] at e; cases e
            exact fun q => (other j K' x' e' hx' h2 d2' d1').1 q.symm
          · subst d2'; rw [if_neg d2] at hx; rw [hb] at e'; cases e'
            exact (other i K x e hx (hlive h1) d2 d1).1
          · rw [if_neg d2] at hx; rw [if_neg d2'] at hx'
            exact h.apart i j K K' x x' e e' hx hx' h1 h2 hne
  · rw [hget, if_neg (by omega)]
    by_cases d1 : gs = some i
    · obtain ⟨K, x, q1, _⟩ := hg i d1; rw [q1] at e; cases e
    · rw [if_neg d1]
      by_cases d2 : i = b
      · subst d2; rw [hb] at e; cases e
      · rw [if_neg d2]
  · refine hfr k hk (fun c => hno ⟨b, L, o, hb, ho, hown, c.symm⟩) fun g K eg eK c => ?_
    obtain ⟨K2, y, q1, q2, q3, _⟩ := hg g eg
    rw [q1] at eK; cases eK
    exact hno ⟨g, K, y, q1, q2, q3, c.symm⟩
  · rintro ⟨i, K, x, e, hx, ho', hk⟩
    rw [hget] at hx
    by_cases c : i = H.n
    · subst c; rw [Ren.upd_same] at e; cases e
      rcases hN' with q | ⟨g, K, q1, q2, q3⟩
      · exact .inl (by omega)
      · obtain ⟨K2, y, e1, e2, e3, _⟩ := hg g q1
        rw [e1] at q2; cases q2
        exact .inr ⟨g, K, y, e1, e2, e3, by omega⟩
    · rw [if_neg c] at hx; rw [Ren.upd_ne _ _ c] at e
      by_cases d1 : gs = some i
      · rw [if_pos d1] at hx; cases hx; simp [AObj.own] at ho'
      · rw [if_neg d1] at hx
        by_cases d2 : i = b
        · subst d2; exact .inr ⟨i, K, o, e, ho, hown, hk⟩
        · rw [if_neg d2] at hx; exact .inr ⟨i, K, x, e, hx, ho', hk⟩
end

section
variable {P : Program} {base : Nat} {G : List Nat} {r : Go.Shelf.Ren}

theorem strCells_bytes (l : List UInt8) : Lib.strCells ⟨l.toArray⟩ = l.map fun b => Value.int .u8 b.toNat := by
  simp [Lib.strCells]

theorem primWS_ok (L : LW P r) (X : Builder.Extra P r) (hcb : Callable P (r.f 166)) {args : List AV} {H H' : AHeap} {v : AV} (h : primWS (r.t 5) (r.t 72) args H = some (v, H')) :
    Callable P (r.f 166) ∧ ∀ ρ w args', HR base ρ H w → Gl G ρ → VRs ρ args args' → Calls P (r.f 166) (List.toArray args') w fun e w' => ∃ ρ' v', e = .returned v' ∧ VR ρ' v v' ∧ HR base ρ' H' w' ∧ Ext ρ H w ρ' H' w' := by
  refine ⟨hcb, fun ρ w args' hr _ ha => ?_⟩
  unfold primWS at h
  split at h
  · rename_i b o s
    obtain ⟨v0, r0, rfl, hv0, v1, r1, rfl, hv1, hr1⟩ := ha
    have hr1 : r1 = [] := hr1
    subst hr1
    obtain ⟨L0, hb, rfl⟩ := hv0
    have hv1 : v1 = .string ⟨s.toArray⟩ := hv1
    subst hv1
    cases hc : (Nat.beq o 0 && (Nat.ble 1 s.length && Nat.ble s.length 1048576)) with
    | false => rw [hc] at h; cases h
    | true =>
      rw [hc] at h
      simp only [Bool.and_eq_true] at hc
      obtain ⟨c1, c2, c3⟩ := hc
      obtain rfl := Nat.eq_of_beq_eq_true c1
      have c2 := Nat.le_of_ble_eq_true c2
      have c3 := Nat.le_of_ble_eq_true c3
      cases hw : wroteTo (r.t 5) (r.t 72) s b H with
      | none => rw [hw] at h; cases h
      | some H1 =>
        rw [hw] at h; cases h
        have hss : (⟨s.toArray⟩ : ByteArray).size = s.length := by simp [ByteArray.size]
        have hbn := (hr.dom b L0 hb).1
        unfold wroteTo at hw
        split at hw
        · -- no row yet
          rename_i T' u hget
          cases hT : Nat.beq T' (r.t 72) with
          | false => rw [hT] at hw; cases hw
          | true =>
            rw [hT] at hw
            obtain rfl := Nat.eq_of_beq_eq_true hT
            cases hw
            obtain ⟨h1, h2, v', h3, h4⟩ := hr.obj b L0 _ hb hget
            have h4 : v' = .slice none 0 0 := h4
            subst h4
            rw [h1]
            refine (write_ex L X L0.blk u (.slice none 0 0) [] ⟨s.toArray⟩ w h3 (.inl ⟨rfl, rfl⟩) (by simp [Value.ownBlock]) (by omega) (by simp; omega)).mono ?_
            rintro e w' ⟨rfl, v', q1, q2, q3, q4, q5, q6, q7, q8⟩
            rcases q2 with ⟨_, q2⟩ | ⟨g, cap, cur, rfl, p1, p2, p3, p4, p5⟩
            · exfalso; have := congrArg List.length q2; simp [Lib.strCells_length, hss] at this; subst this; simp at c2
            have hgn : g < w'.heap.size := (Array.getElem?_eq_some_iff.1 p1).1
            have hgo : w.heap.size ≤ g := by
              rcases q8 g rfl with q | q
              · cases q
              · exact q
            have hlen : ([] ++ Lib.strCells (⟨s.toArray⟩ : ByteArray)).length = s.length := by simp [Lib.strCells_length, hss]
            have hfull := (Full.put2 hr.full b (.bld (r.t 72) true (some (H.n, s.length)))).push (AObj.brow (r.t 5) s)
            obtain ⟨f1, f2⟩ := hr.wrote (o' := .bld (r.t 72) true (some (H.n, s.length))) (r' := .brow (r.t 5) s) (gs := none) (N := ⟨g, 0, cap, 1⟩) (w' := w')
              (H' := (H.put b (.bld (r.t 72) true (some (H.n, s.length)))).add (.brow (r.t 5) s)) hb hget rfl (fun _ e => by cases e) rfl hfull
              (fun i => by
                show Tr.get? (Tr.push _ _ _) i = _
                rw [Tr.get?_push _ (Full.put2 hr.full b _)]
                show (if i = H.n then _ else (H.put b _).get i) = _
                rw [AHeap.get_put hget, if_neg (show ¬ (none : Option Nat) = some i by simp)])
              q3 q4 q5 q6 (fun k hk hkb _ => q7 k hk hkb (by simp [Value.ownBlock])) hgn (.inl hgo)
              ⟨h1, h2, _, q1, ⟨g, 0, cap, 1⟩, Ren.upd_same _ _ _, by rw [hlen]⟩
              ⟨rfl, Nat.le_trans hr.low hgo, cur, p1, p4, p3, by rw [hlen] at p2; exact p2, by rw [hlen] at p5; rw [p5, List.nil_append, strCells_bytes]⟩
            exact ⟨_, _, rfl, ⟨_, rfl, _, _, rfl, by rw [hss]; rfl, _, _, rfl, rfl, rfl⟩, f1, f2⟩
        · -- a row
          rename_i T' u g0 n hget
          split at hw
          · rename_i tb' bs hgetg
            cases hT : (Nat.beq T' (r.t 72) && (Nat.beq tb' (r.t 5) && (Nat.beq bs.length n && Nat.ble (Nat.add n s.length) 140737488355328))) with
            | false => rw [hT] at hw; cases hw
            | true =>
              rw [hT] at hw
              simp only [Bool.and_eq_true] at hT
              obtain ⟨t1, t2, t3, t4⟩ := hT
              obtain rfl := Nat.eq_of_beq_eq_true t1
              obtain rfl := Nat.eq_of_beq_eq_true t2
              obtain rfl := Nat.eq_of_beq_eq_true t3
              have t4 : bs.length + s.length ≤ 140737488355328 := Nat.le_of_ble_eq_true t4
              cases hw
              obtain ⟨h1, h2, v', h3, K, k1, k2⟩ := hr.obj b L0 _ hb hget
              subst k2
              obtain ⟨b1, b2, c, b3, b4, b5, b6, b7⟩ := hr.obj g0 K _ k1 hgetg
              have hgb : g0 ≠ b := fun e => by subst e; rw [hget] at hgetg; cases hgetg
              have hKL : K.blk ≠ L0.blk := hr.apart g0 b K L0 _ _ k1 hb hgetg hget rfl rfl hgb
              have hbl : (bs.map fun b => Value.int .u8 b.toNat).length = bs.length := by simp
              rw [h1]
              refine (write_ex L X L0.blk u _ (bs.map fun b => Value.int .u8 b.toNat) ⟨s.toArray⟩ w h3 (.inr ⟨K.blk, K.top, c, by rw [hbl], b3, by rw [hbl]; exact b6, b5, b4, by rw [hbl]; exact b7⟩) (by simp [Value.ownBlock]; exact hKL) (by omega) (by rw [hbl, hss]; exact t4)).mono ?_
              rintro e w' ⟨rfl, v', q1, q2, q3, q4, q5, q6, q7, q8⟩
              have hcs : (bs.map fun b => Value.int .u8 b.toNat) ++ Lib.strCells (⟨s.toArray⟩ : ByteArray) = (bs ++ s).map fun b => Value.int .u8 b.toNat := by rw [strCells_bytes, List.map_append]
              rw [hcs] at q2
              rcases q2 with ⟨_, q2⟩ | ⟨g, cap, cur, rfl, p1, p2, p3, p4, p5⟩
              · exfalso; rw [List.map_eq_nil_iff, List.append_eq_nil_iff] at q2; rw [q2.2] at c2; simp at c2
              have hgn : g < w'.heap.size := (Array.getElem?_eq_some_iff.1 p1).1
              have hlen : ((bs ++ s).map fun b => Value.int .u8 b.toNat).length = bs.length + s.length := by simp
              have hgo : w.heap.size ≤ g ∨ g = K.blk := by
                rcases q8 g rfl with q | q
                · simp [Value.ownBlock] at q; exact .inr q.symm
                · exact .inl q
              have hput : ∀ i, (H.put b (.bld (r.t 72) true (some (H.n, Nat.add bs.length s.length)))).get i = if i = b then some (.bld (r.t 72) true (some (H.n, Nat.add bs.length s.length))) else H.get i := fun i => AHeap.get_put hget i
              have hfull := (Full.put2 (Full.put2 hr.full b (.bld (r.t 72) true (some (H.n, Nat.add bs.length s.length)))) g0 .dead).push (AObj.brow (r.t 5) (bs ++ s))
              obtain ⟨f1, f2⟩ := hr.wrote (o' := .bld (r.t 72) true (some (H.n, Nat.add bs.length s.length))) (r' := .brow (r.t 5) (bs ++ s)) (gs := some g0) (N := ⟨g, 0, cap, 1⟩) (w' := w')
                (H' := ((H.put b (.bld (r.t 72) true (some (H.n, Nat.add bs.length s.length)))).put g0 .dead).add (.brow (r.t 5) (bs ++ s))) hb hget rfl
                (fun g' e => by cases e; exact ⟨K, _, k1, hgetg, rfl, hgb⟩) rfl hfull
                (fun i => by
                  show Tr.get? (Tr.push _ _ _) i = _
                  rw [Tr.get?_push _ (Full.put2 (Full.put2 hr.full b _) g0 _)]
                  show (if i = H.n then _ else ((H.put b _).put g0 .dead).get i) = _
                  rw [AHeap.get_put (x := .brow (r.t 5) bs) (by rw [hput, if_neg hgb]; exact hgetg), hput]
                  by_cases d : i = g0
                  · subst d; simp
                  · rw [if_neg d, if_neg (show ¬ some g0 = some i by simpa using fun c => d c.symm)])
                q3 q4 q5 q6 (fun k hk hkb hkg => q7 k hk hkb (by simp [Value.ownBlock]; exact fun c => hkg g0 K rfl k1 c.symm)) hgn (hgo.imp id fun e => ⟨g0, K, rfl, k1, e⟩)
                ⟨h1, h2, _, q1, ⟨g, 0, cap, 1⟩, Ren.upd_same _ _ _, by rw [hlen]; rfl⟩
                ⟨rfl, by rcases hgo with q | q; exact Nat.le_trans hr.low q; rw [q]; exact b2, cur, p1, p4, p3, by rw [hlen] at p2; simpa using p2, by rw [hlen] at p5; rw [← p5]; simp⟩
              exact ⟨_, _, rfl, ⟨_, rfl, _, _, rfl, by rw [hss]; rfl, _, _, rfl, rfl, rfl⟩, f1, f2⟩
          · cases hw
        · cases hw
  · cases h

/-- The row g of which nobody asks any more, its block alone turned. -/
theorem HR.froze {ρ : Go.Ab.Ren} {H : AHeap} {w w' : World} {g : Nat} {K : Loc} {o : AObj} (h : HR base ρ H w) (hg : ρ g = some K) (ho : H.get g = some o) (hown : o.own = true) (ht : Touch K.blk w w') :
    HR base ρ (H.put g .dead) w' ∧ Ext ρ H w ρ (H.put g .dead) w' := by
  obtain ⟨k1, k2⟩ := h.kill hg ho
  refine ⟨⟨k1.full, by rw [ht.size]; exact k1.low, fun i L e => by rw [ht.size]; exact k1.dom i L e, fun i L x e hx => ?_, k1.apart⟩,
    ⟨Nat.le_refl _, fun _ _ => rfl, k2.quiet, by rw [ht.size]; exact Nat.le_refl _, fun k hk hno => ht.block k fun c => hno ⟨g, K, o, hg, ho, hown, c.symm⟩, fun k hk => .inr ?_, ht.os, ht.tape, ht.output⟩⟩
  · by_cases hl : x.live = true
    · have hi : i ≠ g := fun c => by subst c; rw [AHeap.get_put ho, if_pos rfl] at hx; cases hx; simp [AObj.live] at hl
      have hx' := hx
      rw [AHeap.get_put ho, if_neg hi] at hx'
      exact (k1.obj i L x e hx).mono (Sub.refl _) (ht.block _ fun c => h.apart g i K L o x hg e ho hx' hown hl (fun c => hi c.symm) c.symm)
    · cases x <;> simp [AObj.live] at hl; trivial
  · rcases k2.own k hk with q | q
    · obtain ⟨i, L, x, e, hx, ho', hk'⟩ := hk
      have := (k1.dom i L e).2
      omega
    · exact q

theorem primBS_ok (L : Lays.n169 P r) (X : Builder.Extra P r) (hcb : Callable P (r.f 169)) {args : List AV} {H H' : AHeap} {v : AV} (h : primBS (r.t 5) (r.t 72) args H = some (v, H')) :
    Callable P (r.f 169) ∧ ∀ ρ w args', HR base ρ H w → Gl G ρ → VRs ρ args args' → Calls P (r.f 169) (List.toArray args') w fun e w' => ∃ ρ' v', e = .returned v' ∧ VR ρ' v v' ∧ HR base ρ' H' w' ∧ Ext ρ H w ρ' H' w' := by
  refine ⟨hcb, fun ρ w args' hr _ ha => ?_⟩
  unfold primBS at h
  split at h
  · rename_i b o
    obtain ⟨v0, r0, rfl, hv0, hr0⟩ := ha
    have hr0 : r0 = [] := hr0
    subst hr0
    obtain ⟨L0, hb, rfl⟩ := hv0
    cases hc : Nat.beq o 0 with
    | false => rw [hc] at h; cases h
    | true =>
      rw [hc] at h
      obtain rfl := Nat.eq_of_beq_eq_true hc
      simp only [cond_true] at h
      split at h
      · rename_i T' u hget
        cases hT : Nat.beq T' (r.t 72) with
        | false => rw [hT] at h; cases h
        | true =>
          rw [hT] at h
          obtain rfl := Nat.eq_of_beq_eq_true hT
          cases h
          obtain ⟨h1, h2, v', h3, h4⟩ := hr.obj b L0 _ hb hget
          have h4 : v' = .slice none 0 0 := h4
          subst h4
          rw [h1]
          refine (Any.Builder_String_nil L X w.heap.size L0.blk _ w h3).mono ?_
          rintro e w' ⟨rfl, hbl⟩
          obtain ⟨f1, f2⟩ := hr.below hbl
          exact ⟨ρ, _, rfl, rfl, f1, f2⟩
      · rename_i T' u g n hget
        split at h
        · rename_i tb' bs hgetg
          cases hT : (Nat.beq T' (r.t 72) && (Nat.beq tb' (r.t 5) && (Nat.beq bs.length n && Nat.ble 1 n))) with
          | false => rw [hT] at h; cases h
          | true =>
            rw [hT] at h
            simp only [Bool.and_eq_true] at hT
            obtain ⟨t1, t2, t3, t4⟩ := hT
            obtain rfl := Nat.eq_of_beq_eq_true t1
            obtain rfl := Nat.eq_of_beq_eq_true t2
            obtain rfl := Nat.eq_of_beq_eq_true t3
            have t4 := Nat.le_of_ble_eq_true t4
            cases h
            obtain ⟨h1, h2, v', h3, K, k1, k2⟩ := hr.obj b L0 _ hb hget
            subst k2
            obtain ⟨b1, b2, c, b3, b4, b5, b6, b7⟩ := hr.obj g K _ k1 hgetg
            rw [h1]
            refine (string_ex L X L0.blk K.blk K.top bs _ c w (by rintro rfl; simp at t4) h3 b3 b6 b5 b4 b7).mono ?_
            rintro e w' ⟨rfl, ht⟩
            obtain ⟨f1, f2⟩ := hr.froze k1 hgetg rfl ht
            exact ⟨ρ, _, rfl, rfl, f1, f2⟩
        · cases h
      · cases h
  · cases h
end
end
end Go.Ab
namespace Go.Ab
open Go.Shelf Go.RowKit Go.Proofs
noncomputable section
/-- Sorted keys of whole numbers; strings.Builder's WriteString, String. -/
def prim3 (s1 g1 ws bs tb T : Nat) : Prims := fun f => cond (Nat.beq f s1) (some (primSorted g1)) (cond (Nat.beq f ws) (some (primWS tb T)) (cond (Nat.beq f bs) (some (primBS tb T)) none))

theorem prim3_ok {P : Program} {base : Nat} {G : List Nat} {s1 g1 k1 e1 ws bs tb T : Nat} {r q : Go.Shelf.Ren} (h1 : SortsKeys P s1 g1 k1 e1) (L : LW P r) (X : Builder.Extra P r) (hw : Callable P (r.f 166)) (M : Lays.n169 P q) (Y : Builder.Extra P q) (hb : Callable P (q.f 169))
    (e1' : r.f 166 = ws) (e2 : q.f 169 = bs) (e3 : r.t 5 = tb ∧ q.t 5 = tb) (e4 : r.t 72 = T ∧ q.t 72 = T) : PrimOK P base G (prim3 s1 g1 ws bs tb T) := by
  intro f args H v H' h
  unfold prim3 at h
  dsimp only at h
  cases c1 : Nat.beq f s1 with
  | true =>
    rw [c1] at h
    obtain rfl := Nat.eq_of_beq_eq_true c1
    exact primSorted_ok h1 h
  | false =>
    rw [c1] at h
    cases c2 : Nat.beq f ws with
    | true =>
      rw [c2] at h
      obtain rfl := Nat.eq_of_beq_eq_true c2
      subst e1'
      exact primWS_ok L X hw (by rw [e3.1, e4.1]; exact h)
    | false =>
      rw [c2] at h
      cases c3 : Nat.beq f bs with
      | true =>
        rw [c3] at h
        obtain rfl := Nat.eq_of_beq_eq_true c3
        subst e2
        exact primBS_ok M Y hb (by rw [e3.2, e4.2]; exact h)
      | false => rw [c3] at h; cases h
end
end Go.Ab
