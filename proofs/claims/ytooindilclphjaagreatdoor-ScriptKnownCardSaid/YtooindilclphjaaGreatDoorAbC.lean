/- What loads and stores come to; how the relation goes on. -/
import Derived.Test.YtooindilclphjaaGreatDoorAbB
namespace Go.Ab
noncomputable section

theorem run_bind {α β : Type} (P : Program) (s : Sem α) (f : α → Sem β) : ∀ (w : World), (s >>= f).run P w = match s.run P w with
    | .ok a w' => (f a).run P w'
    | .halt h w' => .halt h w' := by
  show ∀ w, (s.bind f).run P w = _
  induction s with
  | pure a => intro w; rfl
  | load m a k ih =>
    intro w; simp only [Sem.bind, Sem.run]
    cases w.cell? a with
    | some v => exact ih v w
    | none =>
      dsimp only
      cases w.farLoad P a (m == .atomic) with
      | error h => rfl
      | ok r => exact ih r.1 w
  | store m a v k ih =>
    intro w; simp only [Sem.bind]
    cases v
    case agg => rfl
    case tuple => rfl
    all_goals
      simp only [Sem.run]
      cases w.cell? a with
      | some u => dsimp only; split <;> first | rfl | exact ih _
      | none =>
        dsimp only
        split <;> first | exact ih _ | rfl
  | new o k ih => intro w; exact ih _ _
  | shape r k ih => intro w; exact ih _ _
  | freeze a n k ih => intro w; exact ih _
  | frozen a k ih => intro w; exact ih _ _
  | getObj r k ih =>
    intro w; simp only [Sem.bind, Sem.run]
    split <;> first | rfl | exact ih _ _
  | setObj r o k ih =>
    intro w; simp only [Sem.bind, Sem.run]
    split <;> first | rfl | exact ih _
  | choose q k ih => intro w; simp only [Sem.bind, Sem.run]; split <;> exact ih _ _
  | sys c k ih => intro w; exact ih _ _
  | program k ih => intro w; exact ih _ _
  | mark m k ih => intro w; exact ih _
  | halt h => intro w; rfl

theorem run_bind_ok {α β : Type} {P : Program} {s : Sem α} {f : α → Sem β} {w w' : World} {a : α} (h : s.run P w = .ok a w') :
    (s >>= f).run P w = (f a).run P w' := by rw [run_bind, h]

theorem run_pure {α : Type} (P : Program) (a : α) (w : World) : (pure a : Sem α).run P w = .ok a w := rfl

section
variable {P : Program}

theorem run_load {w : World} {k o : Nat} {c : Array Value} {el : TypeId} {fr : Nat × Nat} {v : Value} (hb : w.heap[k]? = some (.cells c el fr)) (hv : c[o]? = some v) (m : Mode) :
    (load ⟨k, o, none⟩ m).run P w = .ok v w := by
  have : w.cell? ⟨k, o, none⟩ = some v := by simp [World.cell?, hb, hv]
  simp [load, Sem.run, this]

theorem addr_add (k o n : Nat) : (⟨k, o, none⟩ : Addr).add n = ⟨k, o + n, none⟩ := by
  unfold Addr.add
  by_cases h : n = 0
  · simp [h]
  · simp [h]

theorem run_loadCellsFrom {w : World} {k o : Nat} {c : Array Value} {el : TypeId} {fr : Nat × Nat} (hb : w.heap[k]? = some (.cells c el fr)) :
    ∀ (l : List Value) (i : Nat) (acc : Array Value), (∀ (j : Nat), j < l.length → c[o + (i + j)]? = l[j]?) →
      (loadCellsFrom ⟨k, o, none⟩ i l.length acc).run P w = .ok (acc ++ l.toArray) w := by
  intro l
  induction l with
  | nil => intro i acc _; simp [loadCellsFrom, run_pure]
  | cons v l ih =>
    intro i acc h
    have h0 := h 0 (by simp)
    simp only [Nat.add_zero, List.getElem?_cons_zero] at h0
    show (load ((⟨k, o, none⟩ : Addr).add i) .plain >>= fun v => loadCellsFrom ⟨k, o, none⟩ (i + 1) l.length (acc.push v)).run P w = _
    rw [addr_add, run_bind_ok (run_load hb h0 _), ih (i + 1) (acc.push v) (fun j hj => by
      have := h (j + 1) (by simpa using hj)
      rw [show i + 1 + j = i + (j + 1) by omega]; simpa using this)]
    congr 1
    simp

theorem run_loadCells {w : World} {k o : Nat} {c : Array Value} {el : TypeId} {fr : Nat × Nat} (hb : w.heap[k]? = some (.cells c el fr)) (l : List Value)
    (h : ∀ (j : Nat), j < l.length → c[o + j]? = l[j]?) : (loadCells ⟨k, o, none⟩ l.length).run P w = .ok l.toArray w := by
  unfold loadCells
  rw [run_loadCellsFrom hb l 0 #[] (fun j hj => by rw [Nat.zero_add]; exact h j hj)]
  simp

def scalar : Value → Bool
  | .agg _ | .tuple _ => false
  | _ => true

def World.setBlk (w : World) (k : Nat) (o : Obj) : World := { w with heap := w.heap.setIfInBounds k o }

def wr (c : Array Value) (o : Nat) : List Value → Array Value
  | [] => c
  | v :: l => wr (c.setIfInBounds o v) (o + 1) l

theorem wr_size : ∀ (l : List Value) (c : Array Value) (o : Nat), (wr c o l).size = c.size
  | [], _, _ => rfl
  | v :: l, c, o => by rw [wr, wr_size l]; simp

theorem wr_get : ∀ (l : List Value) (c : Array Value) (o i : Nat), o + l.length ≤ c.size →
    (wr c o l)[i]? = if o ≤ i ∧ i < o + l.length then l[i - o]? else c[i]?
  | [], c, o, i, _ => by rw [if_neg (by simp only [List.length_nil]; omega)]; rfl
  | v :: l, c, o, i, h => by
    simp only [List.length_cons] at h
    rw [wr, wr_get l _ _ _ (by simp; omega)]
    by_cases c1 : o + 1 ≤ i ∧ i < o + 1 + l.length
    · rw [if_pos c1, if_pos (by simp only [List.length_cons]; omega), show i - o = (i - (o + 1)) + 1 by omega]; rfl
    · rw [if_neg c1]
      by_cases c2 : i = o
      · subst c2; rw [if_pos (by simp only [List.length_cons]; omega), Array.getElem?_setIfInBounds_self_of_lt (by omega), Nat.sub_self]; rfl
      · rw [Array.getElem?_setIfInBounds_ne (by omega), if_neg (by simp only [List.length_cons]; omega)]

theorem run_store1 {w : World} {k o : Nat} {c : Array Value} {el : TypeId} {fr : Nat × Nat} (hb : w.heap[k]? = some (.cells c el fr)) (hfr : OkFr fr c.size) {v : Value} (hs : scalar v = true) (ho : o < c.size) :
    (store ⟨k, o, none⟩ v).run P w = .ok () (World.setBlk w k (.cells (c.setIfInBounds o v) el fr)) := by
  have hc : ∃ u, w.cell? ⟨k, o, none⟩ = some u := ⟨c[o], by simp [World.cell?, hb, ho]⟩
  obtain ⟨u, hu⟩ := hc
  have hf : w.frozen? ⟨k, o, none⟩ = false := by
    obtain ⟨lo, hi⟩ := fr
    rcases hfr with e | e
    · cases e; simp [World.frozen?, hb]
    · have e' : c.size ≤ lo := e
      simp [World.frozen?, hb]; omega
  have hset : w.setCell ⟨k, o, none⟩ v = World.setBlk w k (.cells (c.setIfInBounds o v) el fr) := by
    have hk : k < w.heap.size := by
      rcases Nat.lt_or_ge k w.heap.size with h | h
      · exact h
      · simp [Array.getElem?_eq_none h] at hb
    unfold World.setCell World.setBlk
    congr 1
    apply Array.ext_getElem?
    intro i
    rw [Array.getElem?_modify, Array.getElem?_setIfInBounds]
    by_cases e : k = i
    · subst e; rw [hb, if_pos rfl, if_pos hk]; simp
    · simp [e]
  cases v <;> simp [scalar] at hs <;> simp [store, Sem.run, hu, hf, hset]

theorem setBlk_get {w : World} {k : Nat} {o : Obj} (h : k < w.heap.size) (i : Nat) : (World.setBlk w k o).heap[i]? = if i = k then some o else w.heap[i]? := by
  unfold World.setBlk
  rw [Array.getElem?_setIfInBounds]
  by_cases e : k = i
  · subst e; simp [h]
  · rw [if_neg e, if_neg (fun h => e h.symm)]

theorem setBlk_setBlk (w : World) (k : Nat) (a b : Obj) : World.setBlk (World.setBlk w k a) k b = World.setBlk w k b := by
  unfold World.setBlk
  simp

theorem setBlk_self {w : World} {k : Nat} {o : Obj} (h : w.heap[k]? = some o) : World.setBlk w k o = w := by
  unfold World.setBlk
  have : w.heap.setIfInBounds k o = w.heap := by
    apply Array.ext_getElem?
    intro i
    rw [Array.getElem?_setIfInBounds]
    by_cases e : k = i
    · subst e
      have hk : k < w.heap.size := by
        rcases Nat.lt_or_ge k w.heap.size with h' | h'
        · exact h'
        · simp [Array.getElem?_eq_none h'] at h
      rw [if_pos rfl, if_pos hk, h]
    · simp [e]
  rw [this]

theorem lt_of_get {α : Type} {a : Array α} {k : Nat} {x : α} (h : a[k]? = some x) : k < a.size := by
  rcases Nat.lt_or_ge k a.size with h' | h'
  · exact h'
  · simp [Array.getElem?_eq_none h'] at h

theorem run_storeCells {k o : Nat} {el : TypeId} {fr : Nat × Nat} : ∀ (l : List Value) {w : World} {c : Array Value} (_ : w.heap[k]? = some (.cells c el fr)) (_ : OkFr fr c.size) (i : Nat)
    (_ : ∀ v ∈ l, scalar v = true) (_ : o + i + l.length ≤ c.size),
    (storeCells ⟨k, o, none⟩ l i).run P w = .ok () (World.setBlk w k (.cells (wr c (o + i) l) el fr)) := by
  intro l
  induction l with
  | nil => intro w c hb _ i _ _; rw [wr, setBlk_self hb]; rfl
  | cons v l ih =>
    intro w c hb hfr i hs hl
    simp only [List.length_cons] at hl
    show (store ((⟨k, o, none⟩ : Addr).add i) v .plain >>= fun _ => storeCells ⟨k, o, none⟩ l (i + 1)).run P w = _
    have hk := lt_of_get hb
    rw [addr_add, run_bind_ok (run_store1 hb hfr (hs v (List.mem_cons_self ..)) (by omega)),
      ih (c := c.setIfInBounds (o + i) v) (by rw [setBlk_get hk, if_pos rfl]) (by simpa using hfr) (i + 1) (fun u hu => hs u (List.mem_cons_of_mem _ hu)) (by simp; omega), setBlk_setBlk]
    rfl

end

/-- A renaming with one more block. -/
def Ren.upd (ρ : Ren) (b : Nat) (L : Loc) : Ren := fun i => if i = b then some L else ρ i

theorem Ren.upd_same (ρ : Ren) (b : Nat) (L : Loc) : ρ.upd b L b = some L := by simp [Ren.upd]
theorem Ren.upd_ne (ρ : Ren) {b i : Nat} (L : Loc) (h : i ≠ b) : ρ.upd b L i = ρ i := by simp [Ren.upd, h]
theorem Ren.sub_upd {ρ : Ren} {b : Nat} (L : Loc) (h : ρ b = none) : Sub ρ (ρ.upd b L) := fun i K e => by
  by_cases c : i = b
  · subst c; rw [h] at e; cases e
  · rw [Ren.upd_ne _ _ c]; exact e

theorem OR.mono {base : Nat} {ρ ρ' : Ren} {L : Loc} {o : AObj} {w w' : World} (h : OR base ρ L o w) (hs : Sub ρ ρ') (hb : w'.heap[L.blk]? = w.heap[L.blk]?) : OR base ρ' L o w' := by
  cases o with
  | cells ro esz n t =>
    obtain ⟨h1, h2, h3, h4, c, el, fr, h5, h6, h7, h8⟩ := h
    exact ⟨h1, h2, h3, h4, c, el, fr, by rw [hb]; exact h5, h6, h7, fun i v e => let ⟨v', e1, e2⟩ := h8 i v e; ⟨v', e1, e2.mono hs⟩⟩
  | map es clock =>
    obtain ⟨h1, h2, es', h3, h4⟩ := h
    exact ⟨h1, h2, es', by rw [hb]; exact h3, h4.mono hs⟩
  | dead => trivial
  | bld ty u buf =>
    obtain ⟨h1, h2, v', h3, h4⟩ := h
    refine ⟨h1, h2, v', by rw [hb]; exact h3, ?_⟩
    cases buf with
    | none => exact h4
    | some p => obtain ⟨g, n⟩ := p; obtain ⟨K, e1, e2⟩ := h4; exact ⟨K, hs _ _ e1, e2⟩
  | brow ty bs =>
    obtain ⟨h1, h2, c, h3, h4⟩ := h
    exact ⟨h1, h2, c, by rw [hb]; exact h3, h4⟩
  | tab l =>
    obtain ⟨h1, c, el, fr, h2, h3⟩ := h
    exact ⟨h1, c, el, fr, by rw [hb]; exact h2, h3.mono hs⟩

section
variable {base : Nat} {ρ : Ren} {H : AHeap} {w : World}

theorem HR.none (h : HR base ρ H w) {b : Nat} (hb : H.n ≤ b) : ρ b = none := by
  cases e : ρ b with
  | none => rfl
  | some L => have := (h.dom b L e).1; omega

theorem AHeap.get_add (h : HR base ρ H w) (o : AObj) (b : Nat) : (H.add o).get b = if b = H.n then some o else H.get b := Tr.get?_push _ h.full b
theorem AHeap.get_put {b : Nat} {o x : AObj} (h : H.get b = some x) (i : Nat) : (H.put b o).get i = if i = b then some o else H.get i := by
  by_cases e : i = b
  · subst e; rw [if_pos rfl]; show (H.t.set _ _).get? _ = _; rw [Tr.get?_set_same, show H.t.get? i = some x from h]; rfl
  · rw [if_neg e]; exact Tr.get?_set_ne _ _ _ _ e

/-- An abstract block that nothing of the model's world is yet. -/
theorem HR.add (h : HR base ρ H w) (o : AObj) : HR base ρ (H.add o) w := {
  full := h.full.push _
  low := h.low
  dom b L e := ⟨Nat.lt_succ_of_lt (h.dom b L e).1, (h.dom b L e).2⟩
  obj b L x hb hx := by
    have hlt := (h.dom b L hb).1
    rw [AHeap.get_add h, if_neg (by omega)] at hx
    exact h.obj b L x hb hx
  apart b b' L L' x x' hb hb' hx hx' := by
    have hlt := (h.dom b L hb).1
    have hlt' := (h.dom b' L' hb').1
    rw [AHeap.get_add h, if_neg (by omega)] at hx hx'
    exact h.apart b b' L L' x x' hb hb' hx hx'
  }

theorem Ext.add (h : HR base ρ H w) (o : AObj) : Ext ρ H w ρ (H.add o) w := {
  n := Nat.le_succ _
  old _ _ := rfl
  quiet b hb _ := by rw [AHeap.get_add h, if_neg (by omega)]
  size := Nat.le_refl _
  frame _ _ _ := rfl
  own k := by
    rintro ⟨b, L, x, hb, hx, hr⟩
    have hlt := (h.dom b L hb).1
    rw [AHeap.get_add h, if_neg (by omega)] at hx
    exact .inr ⟨b, L, x, hb, hx, hr⟩
  os := rfl
  tape := rfl
  output := rfl
  }

/-- A new block of the model's world for an abstract block that has none. -/
theorem HR.map {b : Nat} {L : Loc} {o : AObj} {obj : Obj} (h : HR base ρ H w) (hn : b < H.n) (hb : ρ b = .none) (ho : H.get b = some o) (hL : L.blk = w.heap.size)
    (hor : OR base (ρ.upd b L) L o { w with heap := w.heap.push obj }) : HR base (ρ.upd b L) H { w with heap := w.heap.push obj } := {
  full := h.full
  low := by have := h.low; simp; omega
  dom i K e := by
    by_cases c : i = b
    · subst c; rw [Ren.upd_same] at e; cases e; exact ⟨hn, by simp [hL]⟩
    · rw [Ren.upd_ne _ _ c] at e; have := h.dom i K e; exact ⟨this.1, by simp; omega⟩
  obj i K x e hx := by
    by_cases c : i = b
    · subst c; rw [Ren.upd_same] at e; cases e; rw [ho] at hx; cases hx; exact hor
    · rw [Ren.upd_ne _ _ c] at e
      have hlt := (h.dom i K e).2
      exact (h.obj i K x e hx).mono (Ren.sub_upd L hb) (by show (w.heap.push obj)[K.blk]? = _; rw [Array.getElem?_push, if_neg (by omega)])
  apart i j K K' x x' e e' hx hx' ho1 ho2 hne := by
    by_cases c : i = b <;> by_cases c' : j = b
    · omega
    · subst c; rw [Ren.upd_same] at e; cases e; rw [Ren.upd_ne _ _ c'] at e'; have := (h.dom j K' e').2; omega
    · subst c'; rw [Ren.upd_same] at e'; cases e'; rw [Ren.upd_ne _ _ c] at e; have := (h.dom i K e).2; omega
    · rw [Ren.upd_ne _ _ c] at e; rw [Ren.upd_ne _ _ c'] at e'; exact h.apart i j K K' x x' e e' hx hx' ho1 ho2 hne
  }

/-- Seen from an earlier state. -/
theorem Ext.map {ρ₀ : Ren} {H₀ : AHeap} {w₀ : World} {b : Nat} {L : Loc} {obj : Obj} (h : Ext ρ₀ H₀ w₀ ρ H w) (hn : H₀.n ≤ b) (hL : L.blk = w.heap.size) :
    Ext ρ₀ H₀ w₀ (ρ.upd b L) H { w with heap := w.heap.push obj } := {
  n := h.n
  old i hi := by rw [Ren.upd_ne _ _ (by omega)]; exact h.old i hi
  quiet := h.quiet
  size := by have := h.size; simp; omega
  frame k hk ho := by
    have hs := h.size
    show (w.heap.push obj)[k]? = _
    rw [Array.getElem?_push, if_neg (by omega)]; exact h.frame k hk ho
  own k := by
    rintro ⟨i, K, x, e, hx, ho, hk⟩
    by_cases c : i = b
    · subst c; rw [Ren.upd_same] at e; cases e; have := h.size; exact .inl (by omega)
    · rw [Ren.upd_ne _ _ c] at e; exact h.own k ⟨i, K, x, e, hx, ho, hk⟩
  os := h.os
  tape := h.tape
  output := h.output
  }

/-- A new block. -/
theorem HR.new {L : Loc} {o : AObj} {obj : Obj} (h : HR base ρ H w) (hL : L.blk = w.heap.size)
    (hor : OR base (ρ.upd H.n L) L o { w with heap := w.heap.push obj }) :
    HR base (ρ.upd H.n L) (H.add o) { w with heap := w.heap.push obj } ∧ Ext ρ H w (ρ.upd H.n L) (H.add o) { w with heap := w.heap.push obj } :=
  ⟨(h.add o).map (Nat.lt_succ_self _) (h.none (Nat.le_refl _)) (by rw [AHeap.get_add h, if_pos rfl]) hL hor, (Ext.add h o).map (Nat.le_refl _) hL⟩

/-- A block that is owned turns. -/
theorem HR.turn {b : Nat} {L : Loc} {o o' : AObj} {obj : Obj} (h : HR base ρ H w) (hb : ρ b = some L) (ho : H.get b = some o) (hown : o.own = true)
    (hor : OR base ρ L o' (World.setBlk w L.blk obj)) :
    HR base ρ (H.put b o') (World.setBlk w L.blk obj) ∧ Ext ρ H w ρ (H.put b o') (World.setBlk w L.blk obj) := by
  have hk := (h.dom b L hb).2
  have hlive : o.live = true := by cases o <;> simp [AObj.own, AObj.live] at hown ⊢
  have hsz : (World.setBlk w L.blk obj).heap.size = w.heap.size := by simp [World.setBlk]
  refine ⟨⟨h.full.set _ _, by rw [hsz]; exact h.low, fun i K e => by rw [hsz]; exact h.dom i K e, fun i K x e hx => ?_, fun i j K K' x x' e e' hx hx' h1 h2 hne => ?_⟩,
    ⟨Nat.le_refl _, fun _ _ => rfl, fun i hi e => ?_, by rw [hsz]; exact Nat.le_refl _, fun k hk' hn => ?_, fun k => ?_, rfl, rfl, rfl⟩⟩
  · rw [AHeap.get_put ho] at hx
    by_cases c : i = b
    · subst c; rw [if_pos rfl] at hx; cases hx; rw [hb] at e; cases e; exact hor
    · rw [if_neg c] at hx
      by_cases hl : x.live = true
      · have := h.apart b i L K o x hb e ho hx hown hl (fun e => c e.symm)
        exact (h.obj i K x e hx).mono (Sub.refl _) (by rw [setBlk_get hk, if_neg (fun e => this e.symm)])
      · cases x <;> simp [AObj.live] at hl; trivial
  · rw [AHeap.get_put ho] at hx hx'
    by_cases c : i = b <;> by_cases c' : j = b
    · omega
    · subst c; rw [if_neg c'] at hx'; exact h.apart i j K K' o x' e e' ho hx' hown h2 hne
    · subst c'; rw [if_neg c] at hx
      exact h.apart i j K K' x o e e' hx ho h1 hlive hne
    · rw [if_neg c] at hx; rw [if_neg c'] at hx'; exact h.apart i j K K' x x' e e' hx hx' h1 h2 hne
  · rw [AHeap.get_put ho, if_neg (fun c => by subst c; rw [hb] at e; cases e)]
  · rw [setBlk_get hk, if_neg (fun c => hn ⟨b, L, o, hb, ho, hown, c.symm⟩)]
  · rintro ⟨i, K, x, e, hx, h1, h2⟩
    rw [AHeap.get_put ho] at hx
    by_cases c : i = b
    · subst c; rw [hb] at e; cases e; exact .inr ⟨i, L, o, hb, ho, hown, h2⟩
    · rw [if_neg c] at hx; exact .inr ⟨i, K, x, e, hx, h1, h2⟩

/-- A block that is owned goes over to a new abstract block. -/
theorem HR.move {b : Nat} {L L' : Loc} {o o' : AObj} {obj : Obj} (h : HR base ρ H w) (hb : ρ b = some L) (ho : H.get b = some o) (hown : o.own = true) (hL : L'.blk = L.blk)
    (hor : OR base (ρ.upd H.n L') L' o' (World.setBlk w L.blk obj)) :
    HR base (ρ.upd H.n L') ((H.put b .dead).add o') (World.setBlk w L.blk obj) ∧ Ext ρ H w (ρ.upd H.n L') ((H.put b .dead).add o') (World.setBlk w L.blk obj) := by
  have hk := (h.dom b L hb).2
  have hnb := (h.dom b L hb).1
  have hlive : o.live = true := by cases o <;> simp [AObj.own, AObj.live] at hown ⊢
  have hsz : (World.setBlk w L.blk obj).heap.size = w.heap.size := by simp [World.setBlk]
  have hn := h.none (Nat.le_refl _)
  have get : ∀ i, ((H.put b .dead).add o').get i = if i = H.n then some o' else if i = b then some .dead else H.get i := fun i => by
    have : ((H.put b .dead).add o').get i = if i = H.n then some o' else (H.put b .dead).get i := Tr.get?_push _ (h.full.set _ _) i
    rw [this, AHeap.get_put ho]
  refine ⟨⟨(h.full.set _ _).push _, by rw [hsz]; exact h.low, fun i K e => ?_, fun i K x e hx => ?_, fun i j K K' x x' e e' hx hx' h1 h2 hne => ?_⟩,
    ⟨Nat.le_succ _, fun i hi => Ren.upd_ne _ _ (by omega), fun i hi e => ?_, by rw [hsz]; exact Nat.le_refl _, fun k hk' hno => ?_, fun k => ?_, rfl, rfl, rfl⟩⟩
  · show i < H.n + 1 ∧ _
    rw [hsz]
    by_cases c : i = H.n
    · subst c; rw [Ren.upd_same] at e; cases e; exact ⟨by omega, by omega⟩
    · rw [Ren.upd_ne _ _ c] at e; have := h.dom i K e; exact ⟨by omega, this.2⟩
  · rw [get] at hx
    by_cases c : i = H.n
    · subst c; rw [if_pos rfl] at hx; cases hx; rw [Ren.upd_same] at e; cases e; exact hor
    · rw [if_neg c] at hx; rw [Ren.upd_ne _ _ c] at e
      by_cases c2 : i = b
      · rw [if_pos c2] at hx; cases hx; trivial
      · rw [if_neg c2] at hx
        by_cases hl : x.live = true
        · have := h.apart b i L K o x hb e ho hx hown hl (fun e => c2 e.symm)
          exact (h.obj i K x e hx).mono (Ren.sub_upd _ hn) (by rw [setBlk_get hk, if_neg (fun e => this e.symm)])
        · cases x <;> simp [AObj.live] at hl; trivial
  · rw [get] at hx hx'
    by_cases c : i = H.n <;> by_cases c' : j = H.n
    · omega
    · subst c; rw [Ren.upd_same] at e; cases e; rw [if_neg c'] at hx'; rw [Ren.upd_ne _ _ c'] at e'
      by_cases c2 : j = b
      · rw [if_pos c2] at hx'; cases hx'; simp [AObj.live] at h2
      · rw [if_neg c2] at hx'; have := h.apart b j L K' o x' hb e' ho hx' hown h2 (fun e => c2 e.symm); omega
    · subst c'; rw [Ren.upd_same] at e'; cases e'; rw [if_neg c] at hx; rw [Ren.upd_ne _ _ c] at e
      by_cases c2 : i = b
      · rw [if_pos c2] at hx; cases hx; simp [AObj.own] at h1
      · rw [if_neg c2] at hx
        have hl : x.live = true := by cases x <;> simp [AObj.own, AObj.live] at h1 ⊢
        have := h.apart b i L K o x hb e ho hx hown hl (fun e => c2 e.symm); omega
    · rw [if_neg c] at hx; rw [if_neg c'] at hx'; rw [Ren.upd_ne _ _ c] at e; rw [Ren.upd_ne _ _ c'] at e'
      by_cases c2 : i = b
      · rw [if_pos c2] at hx; cases hx; simp [AObj.own] at h1
      · by_cases c3 : j = b
        · rw [if_pos c3] at hx'; cases hx'; simp [AObj.live] at h2
        · rw [if_neg c2] at hx; rw [if_neg c3] at hx'
          exact h.apart i j K K' x x' e e' hx hx' h1 h2 hne
  · rw [get, if_neg (by omega), if_neg (fun c => by subst c; rw [hb] at e; cases e)]
  · rw [setBlk_get hk, if_neg (fun c => hno ⟨b, L, o, hb, ho, hown, c.symm⟩)]
  · rintro ⟨i, K, x, e, hx, h1, h2⟩
    rw [get] at hx
    by_cases c : i = H.n
    · subst c; rw [Ren.upd_same] at e; cases e; exact .inr ⟨b, L, o, hb, ho, hown, by omega⟩
    · rw [if_neg c] at hx; rw [Ren.upd_ne _ _ c] at e
      by_cases c2 : i = b
      · rw [if_pos c2] at hx; cases hx; simp [AObj.own] at h1
      · rw [if_neg c2] at hx; exact .inr ⟨i, K, x, e, hx, h1, h2⟩

end
end
end Go.Ab
