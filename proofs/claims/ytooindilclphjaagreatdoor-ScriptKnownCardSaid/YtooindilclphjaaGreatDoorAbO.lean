/- One operation in a region; regions in the text's order. -/
import Derived.Test.YtooindilclphjaaGreatDoorAbN
namespace Go.Ab
noncomputable section

structure QI where
  dst : Option Nat
  g : Option (Nat × Bool)
  k : KOp

abbrev CallFn := Nat → List AV → AHeap → Option (AV × AHeap)

def getU (tm : Tr AV) (t : Nat) : AV := match tm.get? t with
  | some v => v
  | none => .undef
def putK (tm : Tr AV) (dst : Option Nat) (v : AV) : Tr AV := match dst with
  | some d => tm.set d v
  | none => tm
def isB (v : AV) (b : Bool) : Bool := match v with
  | .bool c => bbeq c b
  | _ => false
def wantK (g : Option (Nat × Bool)) (tm : Tr AV) : Bool := match g with
  | none => true
  | some (t, b) => isB (getU tm t) b

/-- What an operation gives: a value and a heap. -/
def opK (P : Program) (call : CallFn) (k : KOp) (ev : Opnd → AV) (H : AHeap) : Option (AV × AHeap) := match k with
  | .r k => match rdK k ev H with
    | some v => some (v, H)
    | none => none
  | .n k => match nwK k ev with
    | some (o, m) => some (m.val H.n, H.add o)
    | none => none
  | .w k => wrK k ev H
  | .c k => match clK P k ev with
    | some (f, args) => call f args H
    | none => none
  | .x => none

def itemsK (P : Program) (call : CallFn) : List QI → Tr AV → AHeap → Option (Tr AV × AHeap)
  | [], tm, H => some (tm, H)
  | q :: r, tm, H => cond (wantK q.g tm) (match opK P call q.k (Opnd.ev tm) H with
      | some (v, H') => itemsK P call r (putK tm q.dst v) H'
      | none => none) (itemsK P call r (putK tm q.dst .undef) H)

def guardOf (ops : Array Oper) : Option (Nat × Bool) → Option (Option (Nat × Bool))
  | none => some none
  | some (j, b) => match (ops[j]?).bind (·.dst) with
    | some t => some (some (t, b))
    | none => none

def compQ (P : Program) (G : List Nat) (ops : Array Oper) (o : Oper) : Option QI := do
  let g ← guardOf ops o.guard
  let k ← comp P G o.op
  some ⟨o.dst, g, k⟩

/-- A call's promise. -/
def CallOK (P : Program) (base : Nat) (G : List Nat) (call : CallFn) : Prop := ∀ f args H v H', call f args H = some (v, H') → Callable P f ∧
  ∀ ρ w args', HR base ρ H w → Gl G ρ → VRs ρ args args' → Calls P f (List.toArray args') w fun e w' => ∃ ρ' v', e = .returned v' ∧ VR ρ' v v' ∧ HR base ρ' H' w' ∧ Ext ρ H w ρ' H' w'

section
variable {P : Program} {base : Nat} {ρ : Ren} {H : AHeap} {w : World} {G : List Nat} {ev : Opnd → AV} {a : Act} {K : Act → World → Prop} {Q : Exit → Act → World → Prop}

theorem TR.put {tm : Tr AV} {dst : Option Nat} {v : AV} {v' : Value} (h : TR ρ tm a) (hv : VR ρ v v') : TR ρ (putK tm dst v) (a.put dst v') := by
  cases dst with
  | none => exact h
  | some d =>
    refine ⟨?_, fun t u hu => ?_⟩
    · show (tm.set d v).Full (a.tmps.setIfInBounds d v').size
      rw [Array.size_setIfInBounds]; exact h.1.set _ _
    · show ∃ u', (a.tmps.setIfInBounds d v')[t]? = some u' ∧ _
      have hu' : (tm.set d v).get? t = some u := hu
      by_cases e : t = d
      · subst e
        rw [Tr.get?_set_same] at hu'
        cases hg : tm.get? t with
        | none => rw [hg] at hu'; cases hu'
        | some x =>
          rw [hg] at hu'; cases hu'
          have : t < a.tmps.size := (h.1 t).1 (by rw [hg]; rfl)
          exact ⟨v', by rw [Array.getElem?_setIfInBounds_self_of_lt this], hv⟩
      · rw [Tr.get?_set_ne _ _ _ _ e] at hu'
        obtain ⟨u', e1, e2⟩ := h.2 t u hu'
        exact ⟨u', by rw [Array.getElem?_setIfInBounds_ne (fun q => e q.symm)]; exact e1, e2⟩

theorem undef_VR : VR ρ AV.undef undef := ⟨[], rfl, rfl⟩

theorem read_wp {o : Oper} {k : KR} {v : AV} (hr : HR base ρ H w) (he : ∀ x ∈ o.op.operands, EvR ρ ev a.eval G x) (hc : compR P G o.op = some k) (h : rdK k ev H = some v)
    (hK : ∀ v', VR ρ v v' → K (a.put o.dst v') w) : o.wp P a w K Q := by
  obtain ⟨v', e1, e2⟩ := rd_sound hr he hc h
  unfold Oper.wp
  rw [e1]
  exact hK v' e2

theorem new_wp {o : Oper} {k : KN} {ob : AObj} {m : Mk} (hlow : base ≤ w.heap.size) (he : ∀ x ∈ o.op.operands, EvR ρ ev a.eval G x) (hc : compN P G o.op = some k) (h : nwK k ev = some (ob, m))
    (hK : ∀ obj v', (∀ b, ρ b = none → ∃ L, L.blk = w.heap.size ∧ OR base (ρ.upd b L) L ob { w with heap := w.heap.push obj } ∧ VR (ρ.upd b L) (m.val b) v') → K (a.put o.dst v') { w with heap := w.heap.push obj }) : o.wp P a w K Q := by
  obtain ⟨s, e1, obj, v', e2, e3⟩ := nw_sound (P := P) hlow he hc h
  unfold Oper.wp
  rw [e1, run_bind_ok e2]
  exact hK obj v' e3

theorem write_wp {o : Oper} {k : KW} {v : AV} {H' : AHeap} (hr : HR base ρ H w) (he : ∀ x ∈ o.op.operands, EvR ρ ev a.eval G x) (hc : compW P G o.op = some k) (h : wrK k ev H = some (v, H'))
    (hK : ∀ ρ' v' w', VR ρ' v v' → HR base ρ' H' w' → Ext ρ H w ρ' H' w' → K (a.put o.dst v') w') : o.wp P a w K Q := by
  obtain ⟨r, w', ρ', e1, e2, e3, e4⟩ := wr_sound (P := P) hr he hc h
  unfold Oper.wp
  rw [e1]
  cases r <;> try exact e2.elim
  · exact hK ρ' _ w' e2 e3 e4
  · have : v = .undef := e2
    subst this
    exact hK ρ' undef w' undef_VR e3 e4

theorem call_wp {call : CallFn} {o : Oper} {k : KC} {f : Nat} {args : List AV} {v : AV} {H' : AHeap} (hcall : CallOK P base G call) (hr : HR base ρ H w) (hg : Gl G ρ) (he : ∀ x ∈ o.op.operands, EvR ρ ev a.eval G x)
    (hc : compC G o.op = some k) (h : clK P k ev = some (f, args)) (h2 : call f args H = some (v, H'))
    (hK : ∀ ρ' v' w', VR ρ' v v' → HR base ρ' H' w' → Ext ρ H w ρ' H' w' → K (a.put o.dst v') w') : o.wp P a w K Q := by
  obtain ⟨hcb, hcs⟩ := hcall f args H v H' h2
  obtain ⟨args', e1, e2⟩ := cl_sound (P := P) (w := w) (ea := a.eval) (fun f => rfl) he hc h hcb
  unfold Oper.wp
  rw [e1]
  refine (hcs ρ w args' hr hg e2).mono ?_
  rintro e w' ⟨ρ', v', rfl, q1, q2, q3⟩
  exact hK ρ' v' w' q1 q2 q3

theorem comp_cases {op : Op} {k : KOp} (h : comp P G op = some k) :
    (∃ r, k = .r r ∧ compR P G op = some r) ∨ (∃ r, k = .n r ∧ compN P G op = some r) ∨ (∃ r, k = .w r ∧ compW P G op = some r) ∨ (∃ r, k = .c r ∧ compC G op = some r) ∨ k = .x := by
  unfold comp at h
  rw [compRf_eq, compNf_eq, compWf_eq, compCf_eq] at h
  cases h1 : compR P G op with
  | some r => rw [h1] at h; cases h; exact .inl ⟨r, rfl, rfl⟩
  | none =>
    rw [h1] at h
    cases h2 : compN P G op with
    | some r => rw [h2] at h; cases h; exact .inr (.inl ⟨r, rfl, rfl⟩)
    | none =>
      rw [h2] at h
      cases h3 : compW P G op with
      | some r => rw [h3] at h; cases h; exact .inr (.inr (.inl ⟨r, rfl, rfl⟩))
      | none =>
        rw [h3] at h
        cases h4 : compC G op with
        | some r => rw [h4] at h; cases h; exact .inr (.inr (.inr (.inl ⟨r, rfl, rfl⟩)))
        | none => rw [h4] at h; cases h; exact .inr (.inr (.inr (.inr rfl)))

/-- One operation, whatever its kind. -/
theorem op_wp {call : CallFn} {o : Oper} {k : KOp} {v : AV} {H' : AHeap} (hcall : CallOK P base G call) (hr : HR base ρ H w) (hg : Gl G ρ) (he : ∀ x ∈ o.op.operands, EvR ρ ev a.eval G x)
    (hc : comp P G o.op = some k) (h : opK P call k ev H = some (v, H'))
    (hK : ∀ ρ' v' w', VR ρ' v v' → HR base ρ' H' w' → Ext ρ H w ρ' H' w' → K (a.put o.dst v') w') : o.wp P a w K Q := by
  rcases comp_cases hc with ⟨r, rfl, h1⟩ | ⟨r, rfl, h1⟩ | ⟨r, rfl, h1⟩ | ⟨r, rfl, h1⟩ | rfl
  · simp only [opK] at h
    cases hv : rdK r ev H with
    | none => rw [hv] at h; cases h
    | some u => rw [hv] at h; cases h; exact read_wp hr he h1 hv fun v' q => hK ρ v' w q hr (Ext.refl _ _ _)
  · simp only [opK] at h
    cases hv : nwK r ev with
    | none => rw [hv] at h; cases h
    | some x =>
      obtain ⟨ob, m⟩ := x
      rw [hv] at h; cases h
      refine new_wp hr.low he h1 hv fun obj v' q => ?_
      obtain ⟨L, q1, q2, q3⟩ := q H.n (hr.none (Nat.le_refl _))
      obtain ⟨f1, f2⟩ := hr.new q1 q2
      exact hK _ v' _ q3 f1 f2
  · exact write_wp hr he h1 h hK
  · simp only [opK] at h
    cases hv : clK P r ev with
    | none => rw [hv] at h; cases h
    | some x =>
      obtain ⟨f, args⟩ := x
      rw [hv] at h
      exact call_wp hcall hr hg he h1 hv h hK
  · cases h

/-- A state, seen from where the code began. -/
structure SR (P : Program) (base : Nat) (G : List Nat) (ρ₀ : Ren) (H₀ : AHeap) (w₀ : World) (d : List Deferred) (ρ : Ren) (tm : Tr AV) (H : AHeap) (a : Act) (w : World) : Prop where
  tr : TR ρ tm a
  hr : HR base ρ H w
  gl : Gl G ρ
  ext : Ext ρ₀ H₀ w₀ ρ H w
  defers : a.defers = d

theorem put_defers' (a : Act) (x : Option Tmp) (v : Value) : (a.put x v).defers = a.defers := by cases x <;> rfl

theorem SR.step {ρ₀ : Ren} {H₀ : AHeap} {w₀ : World} {d : List Deferred} {tm : Tr AV} {dst : Option Nat} {ρ' : Ren} {v : AV} {v' : Value} {H' : AHeap} {w' : World} (h : SR P base G ρ₀ H₀ w₀ d ρ tm H a w) (hv : VR ρ' v v') (hr : HR base ρ' H' w') (he : Ext ρ H w ρ' H' w') :
    SR P base G ρ₀ H₀ w₀ d ρ' (putK tm dst v) H' (a.put dst v') w' :=
  have hs := h.hr.sub he
  ⟨(h.tr.mono hs).put hv, hr, h.gl.mono hs, h.ext.trans he, by rw [put_defers']; exact h.defers⟩

theorem guardOf_sound {ops : Array Oper} {_g0 : Option (Nat × Bool)} {g : Option (Nat × Bool)} {o : Oper} {tm : Tr AV} (hg : guardOf ops o.guard = some g) (htr : TR ρ tm a) : Region.wanted o (yielded ops a.tmps) = wantK g tm := by
  unfold Region.wanted
  cases hgo : o.guard with
  | none => rw [hgo] at hg; cases hg; rfl
  | some jb =>
    obtain ⟨j, b⟩ := jb
    rw [hgo] at hg
    simp only [guardOf] at hg
    cases ht : (ops[j]?).bind (·.dst) with
    | none => rw [ht] at hg; cases hg
    | some t =>
      rw [ht] at hg; cases hg
      simp only [yielded, ht, Option.bind_some, wantK, getU]
      cases hv : tm.get? t with
      | none =>
        have : a.tmps[t]? = none := by
          apply Array.getElem?_eq_none
          rcases Nat.lt_or_ge t a.tmps.size with c | c
          · have := (htr.1 t).2 c; rw [hv] at this; cases this
          · exact c
        rw [this]; rfl
      | some v =>
        obtain ⟨v', e1, e2⟩ := htr.2 t v hv
        rw [e1]
        cases v
        case bool c =>
          have : v' = .bool c := e2
          subst this
          simp only [isB]
          rw [bbeq_eq]
          cases c <;> cases b <;> rfl
        all_goals
          simp only [isB]
          first
            | (have e3 : v' = _ := e2; subst e3; rfl)
            | (obtain ⟨_, _, rfl⟩ := e2; rfl)
            | (obtain ⟨_, _, _, _, rfl, _⟩ := e2; rfl)
            | (obtain ⟨_, _, rfl, _⟩ := e2; rfl)
            | (obtain ⟨_, rfl, _⟩ := e2; rfl)

/-- A region in the text's order. -/
theorem items_wp {call : CallFn} {ops : Array Oper} (hcall : CallOK P base G call) {ρ₀ : Ren} {H₀ : AHeap} {w₀ : World} {d : List Deferred} {tm' : Tr AV} {H' : AHeap} :
    ∀ (l : List Oper) (qs : List QI) (is : List Nat), l.length = is.length → (∀ (j i : Nat) (o : Oper), is[j]? = some i → l[j]? = some o → ops[i]? = some o) → allM (compQ P G ops) l = some qs →
      ∀ {tm : Tr AV} {H : AHeap} {ρ : Ren} {a : Act} {w : World}, SR P base G ρ₀ H₀ w₀ d ρ tm H a w → itemsK P call qs tm H = some (tm', H') →
        (∀ ρ' a' w', SR P base G ρ₀ H₀ w₀ d ρ' tm' H' a' w' → Q .normal a' w') → wpOps P ops Q is a w := by
  intro l
  induction l with
  | nil =>
    intro qs is hl _ hq tm H ρ a w hs h hQ
    cases hq; cases h
    cases is with
    | nil => exact hQ ρ a w hs
    | cons => simp at hl
  | cons o l ih =>
    intro qs is hl hops hq tm H ρ a w hs h hQ
    cases is with
    | nil => simp at hl
    | cons i is =>
      simp only [allM] at hq
      cases hq1 : compQ P G ops o with
      | none => rw [hq1] at hq; cases hq
      | some q =>
        rw [hq1] at hq
        cases hq2 : allM (compQ P G ops) l with
        | none => rw [hq2] at hq; cases hq
        | some qs' =>
          rw [hq2] at hq; cases hq
          simp only [compQ, bind, Option.bind_eq_some_iff] at hq1
          obtain ⟨g, hg, k, hk, hqe⟩ := hq1
          cases hqe
          have hoi : ops[i]? = some o := hops 0 i o rfl rfl
          have hl' : l.length = is.length := by simpa using hl
          have hops' : ∀ (j i' : Nat) (o' : Oper), is[j]? = some i' → l[j]? = some o' → ops[i']? = some o' := fun j i' o' h1 h2 => hops (j + 1) i' o' (by simpa using h1) (by simpa using h2)
          rw [wpOps_cons]
          unfold wpOp
          simp only [hoi]
          rw [guardOf_sound (_g0 := o.guard) hg hs.tr]
          simp only [itemsK] at h
          cases hw : wantK g tm with
          | false =>
            rw [hw] at h
            simp only [Bool.false_eq_true, if_false]
            exact ih qs' is hl' hops' hq2 (hs.step undef_VR hs.hr (Ext.refl _ _ _)) h hQ
          | true =>
            rw [hw] at h
            simp only [cond_true] at h
            simp only [if_true]
            cases hop : opK P call k (Opnd.ev tm) H with
            | none => rw [hop] at h; cases h
            | some x =>
              obtain ⟨v, H1⟩ := x
              rw [hop] at h
              refine .inl (op_wp hcall hs.hr hs.gl (fun x _ => EvR.of_TR hs.tr hs.gl x) hk hop fun ρ' v' w' q1 q2 q3 => ?_)
              exact ih qs' is hl' hops' hq2 (hs.step q1 q2 q3) h hQ

end
end
end Go.Ab
