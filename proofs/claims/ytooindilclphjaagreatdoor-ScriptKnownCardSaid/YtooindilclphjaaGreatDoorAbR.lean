/- Regions whose order is open: every order comes to what the one order comes to. -/
import Derived.Test.YtooindilclphjaaGreatDoorAbQ
namespace Go.Ab
noncomputable section

section
variable {P : Program} {base : Nat} {G : List Nat} {ops : Array Oper} {l : List DI} {L : List DE} {call : CallFn} {tm0 tmF : Tr AV}
variable {ρ₀ : Ren} {H₀ : AHeap} {w₀ : World} {d0 : List Deferred} {HF : AHeap}

def PendOK (tm0 tmF : Tr AV) (n₀ : Nat) (d : DI) (H : AHeap) (ρ : Ren) (β : Nat → Option Nat) : Prop := ∃ ev v, EnvOK tm0 tmF d ev ∧ Res tm0 tmF d v ∧
  ((wantD d.g ev = false ∧ v = .undef) ∨ (wantD d.g ev = true ∧ ∃ k, d.k = .r k ∧ rdK k ev H = some v) ∨
   (wantD d.g ev = true ∧ ∃ k ob m b, d.k = .n k ∧ nwK k ev = some (ob, m) ∧ β d.idx = some b ∧ v = m.val b ∧ H.get b = some ob ∧ ρ b = none ∧ n₀ ≤ b))

structure DInv (P : Program) (base : Nat) (G : List Nat) (l : List DI) (call : CallFn) (tm0 tmF : Tr AV) (ρ₀ : Ren) (H₀ : AHeap) (w₀ : World) (d0 : List Deferred) (HF : AHeap)
    (listed : Array Bool) (pre r : List DE) (H : AHeap) (ρ : Ren) (a : Act) (w : World) (β : Nat → Option Nat) : Prop where
  size : listed.size = l.length
  closed : Closed l listed
  inpre : ∀ d ∈ l, listed.getD d.idx false = true → ∃ x ∈ pre, x.it = d
  louds : ∀ d c, DE.l d c ∈ pre → listed.getD d.idx false = true
  hr : HR base ρ H w
  gl : Gl G ρ
  ext : Ext ρ₀ H₀ w₀ ρ H w
  defers : a.defers = d0
  full : tmF.Full a.tmps.size
  same : ∀ t, (tmF.get? t).isSome = (tm0.get? t).isSome
  tmps : ∀ t, (∃ p ∈ l, dstIs p t = true ∧ listed.getD p.idx false = false) → VR ρ (getU tm0 t) (a.tmps.getD t undef)
  tmps' : ∀ t, (∀ p ∈ l, dstIs p t = true → listed.getD p.idx false = true) → VR ρ (getU tmF t) (a.tmps.getD t undef)
  pend : ∀ d, DE.q d ∈ pre → listed.getD d.idx false = false → PendOK tm0 tmF H₀.n d H ρ β
  bnd : ∀ i b, β i = some b → b < H.n
  inj : ∀ i i' b, β i = some b → β i' = some b → i = i'
  trace : TrP P call tm0 tmF r H HF

variable {listed : Array Bool} {pre r : List DE} {H : AHeap} {ρ : Ren} {a : Act} {w : World} {β : Nat → Option Nat}

theorem env_VR (S : Stat P G ops l L) (hunw : ∀ t, (∀ x ∈ L, dstIs x.it t = false) → tmF.get? t = tm0.get? t)
    (I : DInv P base G l call tm0 tmF ρ₀ H₀ w₀ d0 HF listed pre r H ρ a w β) {d : DI} (hd : d ∈ l) (hun : listed.getD d.idx false = false) (hdeps : ∀ e ∈ d.deps, listed.getD e false = true)
    {ev : Opnd → AV} (he : EnvOK tm0 tmF d ev) {t : Nat} (ht : t ∈ d.looks) : VR ρ (ev (.tmp t)) (a.tmps.getD t undef) := by
  rw [he.tmp t ht]
  cases hm : memN t d.olds with
  | true =>
    simp only [cond_true]
    by_cases hx : ∃ p ∈ l, dstIs p t = true ∧ listed.getD p.idx false = false
    · exact I.tmps t hx
    · have hall : ∀ p ∈ l, dstIs p t = true → listed.getD p.idx false = true := fun p hp hpt => by
        cases h : listed.getD p.idx false with
        | true => rfl
        | false => exact (hx ⟨p, hp, hpt, h⟩).elim
      have hno : ∀ p ∈ l, dstIs p t = false := fun p hp => by
        cases h : dstIs p t with
        | false => rfl
        | true =>
          have h1 := S.looks hd hp ht (dstIs_iff.1 h)
          rw [if_pos hm] at h1
          have h2 := hall p hp h
          rcases h1 with h1 | h1
          · rw [h1, hun] at h2; cases h2
          · have := S.anc I.closed _ rfl hp (I.closed p hp h2) h1
            rw [hun] at this; cases this
      have := I.tmps' t hall
      rwa [getU_congr (hunw t fun x hx => hno _ (S.mem x hx))] at this
  | false =>
    simp only [cond_false]
    refine I.tmps' t fun p hp hpt => ?_
    have h1 := S.looks hd hp ht (dstIs_iff.1 hpt)
    rw [if_neg (by rw [hm]; simp)] at h1
    exact S.anc I.closed _ rfl hd hdeps h1

theorem evR_of {d : DI} {o : Oper} (hi : ItemAt P G ops d o) {ev : Opnd → AV} (he : EnvOK tm0 tmF d ev) (hg : Gl G ρ) (hv : ∀ t ∈ d.looks, VR ρ (ev (.tmp t)) (a.tmps.getD t undef)) :
    ∀ x ∈ o.op.operands, EvR ρ ev a.eval G x := by
  intro x hx k hk
  cases x with
  | tmp t =>
    cases hk
    refine hv t ?_
    rw [hi.looks]
    exact List.mem_append_left _ (List.mem_filterMap.2 ⟨.tmp t, by simpa using hx, rfl⟩)
  | const v =>
    simp only [opnd, Option.map_eq_some_iff] at hk
    obtain ⟨a', h1, rfl⟩ := hk
    rw [he.con]
    exact ofVal_sound h1 ρ
  | global g =>
    simp only [opnd] at hk
    split at hk
    · rename_i c
      cases hk
      obtain ⟨L, e, r1, r2⟩ := hg g c
      rw [he.glob]
      exact ⟨L, e, by rw [r1, r2]; rfl⟩
    · cases hk
  | func f => cases hk; rw [he.fn]; exact ⟨[], [], rfl, rfl, rfl⟩

theorem want_of {d : DI} {o : Oper} (hi : ItemAt P G ops d o) {ev : Opnd → AV} (hv : ∀ t ∈ d.looks, VR ρ (ev (.tmp t)) (a.tmps.getD t undef)) :
    Region.wanted o (yielded ops a.tmps) = wantD d.g ev := by
  have hg := hi.g
  unfold Region.wanted
  cases hgo : o.guard with
  | none => rw [hgo] at hg; simp only [guardOf, Option.some.injEq] at hg; rw [← hg]; rfl
  | some jb =>
    obtain ⟨j, b⟩ := jb
    rw [hgo] at hg
    simp only [guardOf] at hg
    cases ht : (ops[j]?).bind (·.dst) with
    | none => rw [ht] at hg; cases hg
    | some t =>
      rw [ht] at hg
      simp only [Option.some.injEq] at hg
      rw [← hg]
      have hl : t ∈ d.looks := by
        rw [hi.looks]
        exact List.mem_append_right _ (by rw [hgo]; simp [ht])
      have h1 := hv t hl
      simp only [yielded, ht, Option.bind_some, wantD]
      rw [Array.getD_eq_getD_getElem?] at h1
      cases hx : a.tmps[t]? with
      | none =>
        rw [hx] at h1
        simp only [Option.getD_none] at h1
        cases hev : ev (.tmp t) <;> rw [hev] at h1 <;> simp only [isB] <;> first | rfl | (cases h1; done)
      | some v' =>
        rw [hx] at h1
        simp only [Option.getD_some] at h1
        cases hev : ev (.tmp t) <;> rw [hev] at h1 <;> simp only [isB]
        case bool c =>
          have : v' = .bool c := h1
          subst this
          rw [bbeq_eq]
          cases c <;> cases b <;> rfl
        all_goals
          first
            | (have e3 : v' = _ := h1; subst e3; rfl)
            | (obtain ⟨_, _, rfl⟩ := h1; rfl)
            | (obtain ⟨_, _, _, _, rfl, _⟩ := h1; rfl)
            | (obtain ⟨_, _, rfl, _⟩ := h1; rfl)
            | (obtain ⟨_, rfl, _⟩ := h1; rfl)

theorem getD_set {i j : Nat} (h : i < listed.size) : (listed.setIfInBounds i true).getD j false = if j = i then true else listed.getD j false := by
  by_cases e : j = i
  · subst e; simp [h]
  · rw [if_neg e]; exact getD_set_ne false (fun c => e c.symm)

theorem getD_both {listed : Array Bool} {i : Nat} (h : listed.getD i true = false) : listed.getD i false = false := by
  rcases Nat.lt_or_ge i listed.size with h' | h'
  · simp [h'] at h ⊢; exact h
  · simp [Array.getElem?_eq_none h'] at h
theorem getD_in {listed : Array Bool} {i : Nat} (hi : i < listed.size) (h : listed.getD i false = false) : listed.getD i true = false := by
  simp [hi] at h ⊢; exact h
theorem getD_replicate_false' (m j : Nat) : (Array.replicate m false).getD j false = false := by
  rcases Nat.lt_or_ge j m with h | h
  · simp [h]
  · simp [h]

/-- The temporaries once one more operation has run. -/
theorem tmps_put (S : Stat P G ops l L) (I : DInv P base G l call tm0 tmF ρ₀ H₀ w₀ d0 HF listed pre r H ρ a w β) {d : DI} (hd : d ∈ l) {ρ' : Ren} (hs : Sub ρ ρ') {v : AV} {v' : Value} (hv : VR ρ' v v') (hres : Res tm0 tmF d v) :
    (∀ t, (∃ p ∈ l, dstIs p t = true ∧ (listed.setIfInBounds d.idx true).getD p.idx false = false) → VR ρ' (getU tm0 t) ((a.put d.dst v').tmps.getD t undef)) ∧
    (∀ t, (∀ p ∈ l, dstIs p t = true → (listed.setIfInBounds d.idx true).getD p.idx false = true) → VR ρ' (getU tmF t) ((a.put d.dst v').tmps.getD t undef)) := by
  have hlt : d.idx < listed.size := by rw [I.size, S.len]; exact (S.idx hd).2
  have hne : ∀ t, dstIs d t = false → (a.put d.dst v').tmps.getD t undef = a.tmps.getD t undef := fun t ht => by
    cases e : d.dst with
    | none => rfl
    | some u =>
      have : u ≠ t := fun c => by subst c; rw [dstIs_iff.2 e] at ht; cases ht
      show (a.tmps.setIfInBounds u v').getD t undef = _
      rw [Array.getD_eq_getD_getElem?, Array.getD_eq_getD_getElem?, Array.getElem?_setIfInBounds_ne this]
  have heq : ∀ t, dstIs d t = true → VR ρ' (getU tmF t) ((a.put d.dst v').tmps.getD t undef) := fun t ht => by
    have e := dstIs_iff.1 ht
    have h1 := hres t e
    rw [e]
    show VR ρ' _ ((a.tmps.setIfInBounds t v').getD t undef)
    rw [Array.getD_eq_getD_getElem?]
    unfold getU
    rcases Nat.lt_or_ge t a.tmps.size with c | c
    · have h2 : (tmF.get? t).isSome = true := (I.full t).2 c
      rw [Array.getElem?_setIfInBounds_self_of_lt c]
      cases h3 : tm0.get? t with
      | none => rw [h1, h3] at h2; cases h2
      | some z => rw [h1, h3]; exact hv
    · rw [I.full.none c, Array.getElem?_eq_none (by simpa using c)]
      exact undef_VR
  refine ⟨fun t ⟨p, hp, hpt, hpu⟩ => ?_, fun t hall => ?_⟩
  · rw [getD_set hlt] at hpu
    by_cases e : p.idx = d.idx
    · rw [if_pos e] at hpu; cases hpu
    · rw [if_neg e] at hpu
      have : dstIs d t = false := by
        cases h : dstIs d t with
        | false => rfl
        | true => exact (e (by rw [S.single hp hd (dstIs_iff.1 hpt) (dstIs_iff.1 h)])).elim
      rw [hne t this]
      exact (I.tmps t ⟨p, hp, hpt, hpu⟩).mono hs
  · cases h : dstIs d t with
    | true => exact heq t h
    | false =>
      rw [hne t h]
      refine (I.tmps' t fun p hp hpt => ?_).mono hs
      have := hall p hp hpt
      rw [getD_set hlt] at this
      by_cases e : p.idx = d.idx
      · rw [S.uniq hp hd e, h] at hpt; cases hpt
      · rw [if_neg e] at this; exact this

theorem wantD_env {d : DI} {o : Oper} (hi : ItemAt P G ops d o) {ev ev' : Opnd → AV} (h : EnvOK tm0 tmF d ev) (h' : EnvOK tm0 tmF d ev') : wantD d.g ev = wantD d.g ev' := by
  have hg := hi.g
  cases hgo : o.guard with
  | none => rw [hgo] at hg; simp only [guardOf, Option.some.injEq] at hg; rw [← hg]; rfl
  | some jb =>
    obtain ⟨j, b⟩ := jb
    rw [hgo] at hg
    simp only [guardOf] at hg
    cases ht : (ops[j]?).bind (·.dst) with
    | none => rw [ht] at hg; cases hg
    | some t =>
      rw [ht] at hg
      simp only [Option.some.injEq] at hg
      rw [← hg]
      have hl : t ∈ d.looks := by
        rw [hi.looks]
        exact List.mem_append_right _ (by rw [hgo]; simp [ht])
      simp only [wantD]
      rw [h.tmp t hl, h'.tmp t hl]

/-- What is quiet is reckoned before it runs. -/
theorem consume (S : Stat P G ops l L) : ∀ (r pre : List DE) (H : AHeap) (β : Nat → Option Nat), L = pre ++ r → DInv P base G l call tm0 tmF ρ₀ H₀ w₀ d0 HF listed pre r H ρ a w β →
    ∃ pre' r' H' β', L = pre' ++ r' ∧ DInv P base G l call tm0 tmF ρ₀ H₀ w₀ d0 HF listed pre' r' H' ρ a w β' ∧ ∀ d r'', r' ≠ .q d :: r'' := by
  intro r
  induction r with
  | nil => intro pre H β hL I; exact ⟨pre, [], H, β, hL, I, fun _ _ h => by cases h⟩
  | cons x r ih =>
    intro pre H β hL I
    cases x with
    | l d c => exact ⟨pre, _, H, β, hL, I, fun _ _ h => by cases h⟩
    | q d =>
      obtain ⟨ev, v, H', henv, hst, hres, htr⟩ := I.trace
      have hL' : L = (pre ++ [.q d]) ++ r := by rw [hL]; simp
      have hdl : d ∈ l := S.mem (.q d) (by rw [hL]; simp)
      have hq : isQ d.k = true := (S.after hL).2.2 d rfl
      have hnew : d.idx ∉ pre.map (·.it.idx) := fun h => by
        obtain ⟨x, hx, e⟩ := List.mem_map.1 h
        exact (S.apart hL hx (y := .q d) List.mem_cons_self).1 e.symm
      have hun : listed.getD d.idx false = false := by
        cases h : listed.getD d.idx false with
        | false => rfl
        | true =>
          obtain ⟨x, hx, e⟩ := I.inpre d hdl h
          exact (hnew (List.mem_map.2 ⟨x, hx, by rw [e]⟩)).elim
      have hpre : ∀ d' ∈ l, listed.getD d'.idx false = true → ∃ x ∈ pre ++ [.q d], x.it = d' := fun d' h1 h2 => let ⟨x, hx, e⟩ := I.inpre d' h1 h2; ⟨x, List.mem_append_left _ hx, e⟩
      have hlo : ∀ d' c, DE.l d' c ∈ pre ++ [.q d] → listed.getD d'.idx false = true := fun d' c h => by
        rcases List.mem_append.1 h with h | h
        · exact I.louds d' c h
        · simp at h
      unfold stepV at hst
      cases hw : wantD d.g ev with
      | false =>
        rw [hw] at hst
        cases hst
        refine ih (pre ++ [.q d]) H β hL' ⟨I.size, I.closed, hpre, hlo, I.hr, I.gl, I.ext, I.defers, I.full, I.same, I.tmps, I.tmps', fun d' h1 h2 => ?_, I.bnd, I.inj, htr⟩
        rcases List.mem_append.1 h1 with h1 | h1
        · exact I.pend d' h1 h2
        · simp only [List.mem_singleton, DE.q.injEq] at h1
          subst h1
          exact ⟨ev, _, henv, hres, .inl ⟨hw, rfl⟩⟩
      | true =>
        rw [hw] at hst
        simp only [cond_true] at hst
        cases hk : d.k with
        | w k => rw [hk] at hq; cases hq
        | c k => rw [hk] at hq; cases hq
        | x => rw [hk] at hq; cases hq
        | r k =>
          rw [hk] at hst
          simp only [opK] at hst
          cases hrd : rdK k ev H with
          | none => rw [hrd] at hst; cases hst
          | some u =>
            rw [hrd] at hst; cases hst
            refine ih (pre ++ [.q d]) H β hL' ⟨I.size, I.closed, hpre, hlo, I.hr, I.gl, I.ext, I.defers, I.full, I.same, I.tmps, I.tmps', fun d' h1 h2 => ?_, I.bnd, I.inj, htr⟩
            rcases List.mem_append.1 h1 with h1 | h1
            · exact I.pend d' h1 h2
            · simp only [List.mem_singleton, DE.q.injEq] at h1
              subst h1
              exact ⟨ev, _, henv, hres, .inr (.inl ⟨hw, k, hk, hrd⟩)⟩
        | n k =>
          rw [hk] at hst
          simp only [opK] at hst
          cases hnw : nwK k ev with
          | none => rw [hnw] at hst; cases hst
          | some om =>
            obtain ⟨ob, m⟩ := om
            rw [hnw] at hst; cases hst
            have hget : ∀ b, (H.add ob).get b = if b = H.n then some ob else H.get b := AHeap.get_add I.hr ob
            have hmono : ∀ b o, H.get b = some o → (H.add ob).get b = some o := fun b o hb => by
              rw [hget, if_neg]
              · exact hb
              · intro e
                subst e
                have := I.hr.full.none (Nat.le_refl H.n)
                rw [show H.get H.n = none from this] at hb; cases hb
            refine ih (pre ++ [.q d]) (H.add ob) (fun i => if i = d.idx then some H.n else β i) hL' ⟨I.size, I.closed, hpre, hlo, I.hr.add ob, I.gl, I.ext.trans (Ext.add I.hr ob), I.defers, I.full, I.same, I.tmps, I.tmps', fun d' h1 h2 => ?_, fun i b hb => ?_, fun i i' b h1 h2 => ?_, htr⟩
            · rcases List.mem_append.1 h1 with h1 | h1
              · have hne : d'.idx ≠ d.idx := fun e => hnew (List.mem_map.2 ⟨.q d', h1, e⟩)
                obtain ⟨ev', v', q1, q2, q3⟩ := I.pend d' h1 h2
                refine ⟨ev', v', q1, q2, ?_⟩
                rcases q3 with q3 | ⟨q3, k', q4, q5⟩ | ⟨q3, k', ob', m', b, q4, q5, q6, q7, q8, q9, q10⟩
                · exact .inl q3
                · exact .inr (.inl ⟨q3, k', q4, rdK_mono hmono q5⟩)
                · exact .inr (.inr ⟨q3, k', ob', m', b, q4, q5, (if_neg hne).trans q6, q7, hmono _ _ q8, q9, q10⟩)
              · simp only [List.mem_singleton, DE.q.injEq] at h1
                subst h1
                exact ⟨ev, _, henv, hres, .inr (.inr ⟨hw, k, ob, m, H.n, hk, hnw, if_pos rfl, rfl, by rw [hget, if_pos rfl], I.hr.none (Nat.le_refl _), I.ext.n⟩)⟩
            · show b < H.n + 1
              have hb : (if i = d.idx then some H.n else β i) = some b := hb
              split at hb
              · cases hb; exact Nat.lt_succ_self _
              · exact Nat.lt_succ_of_lt (I.bnd i b hb)
            · have h1 : (if i = d.idx then some H.n else β i) = some b := h1
              have h2 : (if i' = d.idx then some H.n else β i') = some b := h2
              split at h1 <;> split at h2
              · rename_i e1 e2; rw [e1, e2]
              · cases h1; have := I.bnd i' _ h2; omega
              · cases h2; have := I.bnd i _ h1; omega
              · exact I.inj i i' b h1 h2

theorem drawn_any (S : Stat P G ops l L) (hcall : CallOK P base G call) (hunw : ∀ t, (∀ x ∈ L, dstIs x.it t = false) → tmF.get? t = tm0.get? t) {Q : Exit → Act → World → Prop}
    (hQ : ∀ ρ' a' w', SR P base G ρ₀ H₀ w₀ d0 ρ' tmF HF a' w' → Q .normal a' w') :
    ∀ (fuel : Nat) (listed : Array Bool) (pre r : List DE) (H : AHeap) (ρ : Ren) (a : Act) (w : World) (β : Nat → Option Nat) (un : List Nat), L = pre ++ r → DInv P base G l call tm0 tmF ρ₀ H₀ w₀ d0 HF listed pre r H ρ a w β →
      un.length ≤ fuel → (∀ i, i < ops.size → listed.getD i false = false → i ∈ un) → wpAny P .any ops Q fuel listed a w := by
  have hready : ∀ {listed : Array Bool} {j : Nat}, j ∈ Region.ready .any ops listed → listed.size = l.length → listed.getD j false = false ∧ ∃ d ∈ l, d.idx = j ∧ ∀ e ∈ d.deps, listed.getD e false = true := by
    intro listed j hj hsz
    obtain ⟨h1, o, h2, h3⟩ := mem_ready.1 hj
    have hj' := lt_of_get h2
    obtain ⟨d, hd, hi⟩ := S.get hj'
    obtain ⟨o', hit⟩ := S.item hd
    have : o' = o := Option.some.inj ((by rw [← hi]; exact hit.pos.symm : some o' = ops[j]?).trans h2)
    subst this
    refine ⟨getD_both h1, d, hd, hi, fun e he => ?_⟩
    rw [hit.deps] at he
    simp only [depsOf, List.mem_map, List.mem_filter] at he
    obtain ⟨ed, ⟨h4, h5⟩, rfl⟩ := he
    exact h3 ed (by simpa using h4) h5
  have hdone : ∀ (listed : Array Bool) (pre r : List DE) (H : AHeap) (ρ : Ren) (a : Act) (w : World) (β : Nat → Option Nat), L = pre ++ r → DInv P base G l call tm0 tmF ρ₀ H₀ w₀ d0 HF listed pre r H ρ a w β →
      Region.ready .any ops listed = [] → Q .normal a w := by
    intro listed pre r H ρ a w β hL I hr
    have hall : ∀ (n i : Nat), i = n → i < ops.size → listed.getD i false = true := by
      intro n
      induction n using Nat.strongRecOn with
      | _ n ih =>
        intro i hn hi
        cases hx : listed.getD i false with
        | true => rfl
        | false =>
          obtain ⟨d, hd, hdi⟩ := S.get hi
          obtain ⟨o, hit⟩ := S.item hd
          have : i ∈ Region.ready .any ops listed := mem_ready.2 ⟨getD_in (by rw [I.size, S.len]; exact hi) hx, o, by rw [← hdi]; exact hit.pos, fun e he hb => by
            have hin : e.on ∈ d.deps := by
              rw [hit.deps]
              exact List.mem_map.2 ⟨e, List.mem_filter.2 ⟨by simpa using he, hb⟩, rfl⟩
            have := S.back hd hin
            exact ih e.on (by omega) e.on rfl (by omega)⟩
          rw [hr] at this; cases this
    obtain ⟨pre', r', H', β', hL', I', hnq⟩ := consume S r pre H β hL I
    have hr' : r' = [] := by
      cases r' with
      | nil => rfl
      | cons x r'' =>
        have hxl : x.it ∈ l := S.mem x (by rw [hL']; simp)
        obtain ⟨y, hy, e⟩ := I'.inpre x.it hxl (hall _ _ rfl (S.idx hxl).2)
        exact ((S.apart hL' hy (y := x) List.mem_cons_self).1 (by rw [e])).elim
    subst hr'
    have hHF : H' = HF := I'.trace
    subst hHF
    refine hQ ρ a w ⟨⟨I'.full, fun t v hv => ?_⟩, I'.hr, I'.gl, I'.ext, I'.defers⟩
    have h1 := I'.tmps' t fun p hp _ => hall _ _ rfl (S.idx hp).2
    have hlt : t < a.tmps.size := (I'.full t).1 (by rw [hv]; rfl)
    unfold getU at h1
    rw [hv, Array.getD_eq_getD_getElem?, Array.getElem?_eq_getElem hlt] at h1
    exact ⟨_, Array.getElem?_eq_getElem hlt, h1⟩
  intro fuel
  induction fuel with
  | zero =>
    intro listed pre r H ρ a w β un hL I hf hun
    have hr : Region.ready .any ops listed = [] := by
      cases h : Region.ready .any ops listed with
      | nil => rfl
      | cons j s =>
        obtain ⟨h1, d, hd, hi, _⟩ := hready (j := j) (by rw [h]; exact List.mem_cons_self) I.size
        have := hun j (by rw [← hi]; exact (S.idx hd).2) h1
        cases un with
        | nil => cases this
        | cons => simp at hf
    exact ⟨hr, hdone listed pre r H ρ a w β hL I hr⟩
  | succ fuel ih =>
    intro listed pre r H ρ a w β un hL I hf hun
    refine ⟨fun hr => hdone listed pre r H ρ a w β hL I hr, fun j hj => ?_⟩
    obtain ⟨pre, r, H, β, hL, I, hnq⟩ := consume S r pre H β hL I
    obtain ⟨hju, d, hd, rfl, hdeps⟩ := hready hj I.size
    obtain ⟨o, hit⟩ := S.item hd
    have hlt : d.idx < listed.size := by rw [I.size, S.len]; exact (S.idx hd).2
    have hset : ∀ j, (listed.setIfInBounds d.idx true).getD j false = if j = d.idx then true else listed.getD j false := fun j => getD_set hlt
    have hset_mono : ∀ j, listed.getD j false = true → (listed.setIfInBounds d.idx true).getD j false = true := fun j h => by rw [hset]; split <;> simp_all
    have hset_un : ∀ j, (listed.setIfInBounds d.idx true).getD j false = false → j ≠ d.idx ∧ listed.getD j false = false := fun j h => by
      rw [hset] at h
      by_cases e : j = d.idx
      · rw [if_pos e] at h; cases h
      · rw [if_neg e] at h; exact ⟨e, h⟩
    have hclosed : Closed l (listed.setIfInBounds d.idx true) := fun p hp h e he => by
      rw [hset] at h
      by_cases c : p.idx = d.idx
      · rw [S.uniq hp hd c] at he; exact hset_mono e (hdeps e he)
      · rw [if_neg c] at h; exact hset_mono e (I.closed p hp h e he)
    have hin : d.idx ∈ un := hun _ (S.idx hd).2 hju
    have hf' : (un.erase d.idx).length ≤ fuel := by rw [List.length_erase_of_mem hin]; omega
    have hun' : ∀ i, i < ops.size → (listed.setIfInBounds d.idx true).getD i false = false → i ∈ un.erase d.idx := fun i hi h => by
      obtain ⟨h1, h2⟩ := hset_un i h
      exact (List.mem_erase_of_ne h1).2 (hun i hi h2)
    have hsz : (listed.setIfInBounds d.idx true).size = l.length := by rw [Array.size_setIfInBounds]; exact I.size
    have hputsz : ∀ v', (a.put d.dst v').tmps.size = a.tmps.size := fun v' => by cases d.dst <;> simp [Act.put]
    -- whatever runs, runs so
    have hgo : ∀ (pre₂ r₂ : List DE) (H₂ : AHeap) (ρ₂ : Ren) (w₂ : World) (v : AV) (v' : Value), L = pre₂ ++ r₂ → (∀ x ∈ pre, x ∈ pre₂) → (∃ x ∈ pre₂, x.it = d) → (∀ d' c, DE.l d' c ∈ pre₂ → (listed.setIfInBounds d.idx true).getD d'.idx false = true) →
        HR base ρ₂ H₂ w₂ → Sub ρ ρ₂ → Ext ρ₀ H₀ w₀ ρ₂ H₂ w₂ → VR ρ₂ v v' → Res tm0 tmF d v → (∀ d', DE.q d' ∈ pre₂ → d'.idx ≠ d.idx → listed.getD d'.idx false = false → PendOK tm0 tmF H₀.n d' H₂ ρ₂ β) → H.n ≤ H₂.n → TrP P call tm0 tmF r₂ H₂ HF →
        wpAny P .any ops Q fuel (listed.setIfInBounds d.idx true) (a.put d.dst v') w₂ := by
      intro pre₂ r₂ H₂ ρ₂ w₂ v v' e1 e2 e3 e4 e5 e6 e7 e8 e9 e10 e11 e12
      obtain ⟨t1, t2⟩ := tmps_put S I hd e6 e8 e9
      refine ih _ pre₂ r₂ H₂ ρ₂ _ w₂ β (un.erase d.idx) e1 ⟨hsz, hclosed, fun p hp h => ?_, e4, e5, I.gl.mono e6, e7, by rw [put_defers']; exact I.defers, by rw [hputsz]; exact I.full, I.same, t1, t2, fun d' h1 h2 => ?_, fun i b hb => Nat.lt_of_lt_of_le (I.bnd i b hb) e11, I.inj, e12⟩ hf' hun'
      · rw [hset] at h
        by_cases c : p.idx = d.idx
        · rw [S.uniq hp hd c]; exact e3
        · rw [if_neg c] at h
          obtain ⟨x, hx, e⟩ := I.inpre p hp h
          exact ⟨x, e2 x hx, e⟩
      · obtain ⟨h3, h4⟩ := hset_un _ h2
        exact e10 d' h1 h3 h4
    unfold wpOp
    simp only [hit.pos]
    obtain ⟨x, hxL, hxd⟩ := S.cover hd
    rw [hL] at hxL
    rcases List.mem_append.1 hxL with hx | hx
    · -- what was reckoned already
      cases x with
      | l d' c =>
        have : d' = d := hxd
        subst this
        have := I.louds _ _ hx
        rw [hju] at this; cases this
      | q d' =>
        have : d' = d := hxd
        subst this
        obtain ⟨ev, v, henv, hres, hcase⟩ := I.pend d' hx hju
        have hv : ∀ t ∈ d'.looks, VR ρ (ev (.tmp t)) (a.tmps.getD t undef) := fun t ht => env_VR S hunw I hd hju hdeps henv ht
        have hlo : ∀ d'' c, DE.l d'' c ∈ pre → (listed.setIfInBounds d'.idx true).getD d''.idx false = true := fun d'' c h => hset_mono _ (I.louds d'' c h)
        rw [want_of hit hv]
        rcases hcase with ⟨hw, rfl⟩ | ⟨hw, k, hk, hrd⟩ | ⟨hw, k, ob, m, b, hk, hnw, hb, rfl, hob, hρ, hn₀⟩
        · rw [hw]
          simp only [Bool.false_eq_true, if_false]
          rw [← hit.dst]
          exact hgo pre r H ρ w .undef undef hL (fun _ h => h) ⟨_, hx, rfl⟩ hlo I.hr (Sub.refl _) I.ext undef_VR hres (fun d'' h1 _ h2 => I.pend d'' h1 h2) (Nat.le_refl _) I.trace
        · rw [hw]
          simp only [if_true]
          have hc := hit.k
          rw [hk] at hc
          have hc' : compR P G o.op = some k := by
            rcases comp_cases hc with ⟨r, e, h1⟩ | ⟨r, e, h1⟩ | ⟨r, e, h1⟩ | ⟨r, e, h1⟩ | e <;> cases e; exact h1
          refine .inl (read_wp I.hr (evR_of hit henv I.gl hv) hc' hrd fun v' hv' => ?_)
          rw [← hit.dst]
          exact hgo pre r H ρ w v v' hL (fun _ h => h) ⟨_, hx, rfl⟩ hlo I.hr (Sub.refl _) I.ext hv' hres (fun d'' h1 _ h2 => I.pend d'' h1 h2) (Nat.le_refl _) I.trace
        · rw [hw]
          simp only [if_true]
          have hc := hit.k
          rw [hk] at hc
          have hc' : compN P G o.op = some k := by
            rcases comp_cases hc with ⟨r, e, h1⟩ | ⟨r, e, h1⟩ | ⟨r, e, h1⟩ | ⟨r, e, h1⟩ | e <;> cases e; exact h1
          refine .inl (new_wp I.hr.low (evR_of hit henv I.gl hv) hc' hnw fun obj v' hobj => ?_)
          obtain ⟨K, q1, q2, q3⟩ := hobj b hρ
          rw [← hit.dst]
          refine hgo pre r H (ρ.upd b K) _ _ v' hL (fun _ h => h) ⟨_, hx, rfl⟩ hlo (I.hr.map (I.bnd _ _ hb) hρ hob q1 q2) (Ren.sub_upd K hρ) (I.ext.map hn₀ q1) q3 hres (fun d'' h1 h3 h2 => ?_) (Nat.le_refl _) I.trace
          obtain ⟨ev', v'', p1, p2, p3⟩ := I.pend d'' h1 h2
          refine ⟨ev', v'', p1, p2, ?_⟩
          rcases p3 with p3 | p3 | ⟨p3, k', ob', m', b', p4, p5, p6, p7, p8, p9, p10⟩
          · exact .inl p3
          · exact .inr (.inl p3)
          · refine .inr (.inr ⟨p3, k', ob', m', b', p4, p5, p6, p7, p8, ?_, p10⟩)
            rw [Ren.upd_ne _ _ (fun e => h3 (I.inj _ _ b' p6 (by rw [e]; exact hb)))]
            exact p9
    · -- the loud one whose turn it is
      cases r with
      | nil => cases hx
      | cons y r =>
        cases y with
        | q d' => exact (hnq d' r rfl).elim
        | l d' chks =>
          have hdl : d' ∈ l := S.mem (.l d' chks) (by rw [hL]; simp)
          have hd'u : listed.getD d'.idx false = false := by
            cases h : listed.getD d'.idx false with
            | false => rfl
            | true =>
              obtain ⟨z, hz, e⟩ := I.inpre d' hdl h
              exact ((S.apart hL hz (y := .l d' chks) List.mem_cons_self).1 (by rw [e]; rfl)).elim
          have hdd : d' = d := by
            rcases List.mem_cons.1 hx with h | h
            · rw [h] at hxd; exact hxd
            · have h1 := (S.loud hL).1 x h
              rw [hxd] at h1
              have := S.anc I.closed _ rfl hd hdeps h1
              rw [hd'u] at this; cases this
          subst hdd
          obtain ⟨ev, v, H', henv, hst, hres, hchk, htr⟩ := I.trace
          have hv : ∀ t ∈ d'.looks, VR ρ (ev (.tmp t)) (a.tmps.getD t undef) := fun t ht => env_VR S hunw I hd hju hdeps henv ht
          have hL' : L = (pre ++ [.l d' chks]) ++ r := by rw [hL]; simp
          have hlo : ∀ d'' c, DE.l d'' c ∈ pre ++ [.l d' chks] → (listed.setIfInBounds d'.idx true).getD d''.idx false = true := fun d'' c h => by
            rcases List.mem_append.1 h with h | h
            · exact hset_mono _ (I.louds d'' c h)
            · simp only [List.mem_singleton, DE.l.injEq] at h
              rw [h.1, hset, if_pos rfl]
          have hpq : ∀ d'', DE.q d'' ∈ pre ++ [.l d' chks] → DE.q d'' ∈ pre := fun d'' h => by
            rcases List.mem_append.1 h with h | h
            · exact h
            · simp at h
          have hpend : ∀ (ρ' : Ren) (w' : World), HR base ρ' H' w' → Ext ρ H w ρ' H' w' → ∀ d'', DE.q d'' ∈ pre ++ [.l d' chks] → d''.idx ≠ d'.idx → listed.getD d''.idx false = false → PendOK tm0 tmF H₀.n d'' H' ρ' β := by
            intro ρ' w' hr' he' d'' h1 h2 h3
            have h1 := hpq d'' h1
            have hd'' : d'' ∈ l := S.mem (.q d'') (by rw [hL]; exact List.mem_append_left _ h1)
            obtain ⟨o'', hit''⟩ := S.item hd''
            obtain ⟨ev', v', p1, p2, p3⟩ := I.pend d'' h1 h3
            rcases p3 with p3 | ⟨p3, k, p4, p5⟩ | ⟨p3, k', ob', m', b', p4, p5, p6, p7, p8, p9, p10⟩
            · exact ⟨ev', v', p1, p2, .inl p3⟩
            · rcases (S.loud hL).2.1 d'' h1 with h4 | h4 | h4
              · rw [p4] at h4
                exact ⟨ev', v', p1, p2, .inr (.inl ⟨p3, k, p4, by rw [rdK_pure h4 ev' H' H]; exact p5⟩)⟩
              · have := S.anc I.closed _ rfl hd hdeps h4
                rw [h3] at this; cases this
              · obtain ⟨ev'', q1, q2⟩ := hchk d'' h4
                have hw'' : wantD d''.g ev'' = true := by rw [wantD_env hit'' q1 p1]; exact p3
                obtain ⟨k', u, q3, q4, q5⟩ := q2 hw''
                exact ⟨ev'', u, q1, q5, .inr (.inl ⟨hw'', k', q3, q4⟩)⟩
            · have hlt' := I.bnd _ _ p6
              exact ⟨ev', v', p1, p2, .inr (.inr ⟨p3, k', ob', m', b', p4, p5, p6, p7, by rw [he'.quiet b' hlt' p9]; exact p8, by rw [he'.old b' hlt']; exact p9, p10⟩)⟩
          rw [want_of hit hv]
          unfold stepV at hst
          cases hw : wantD d'.g ev with
          | false =>
            rw [hw] at hst
            cases hst
            simp only [Bool.false_eq_true, if_false]
            rw [← hit.dst]
            exact hgo (pre ++ [.l d' chks]) r H ρ w .undef undef hL' (fun x hx => List.mem_append_left _ hx) ⟨.l d' chks, by simp, rfl⟩ hlo I.hr (Sub.refl _) I.ext undef_VR hres (hpend ρ w I.hr (Ext.refl _ _ _)) (Nat.le_refl _) htr
          | true =>
            rw [hw] at hst
            simp only [cond_true] at hst
            simp only [if_true]
            refine .inl (op_wp hcall I.hr I.gl (evR_of hit henv I.gl hv) hit.k hst fun ρ' v' w' q1 q2 q3 => ?_)
            rw [← hit.dst]
            exact hgo (pre ++ [.l d' chks]) r H' ρ' w' v v' hL' (fun x hx => List.mem_append_left _ hx) ⟨.l d' chks, by simp, rfl⟩ hlo q2 (I.hr.sub q3) (I.ext.trans q3) q1 hres (hpend ρ' w' q2 q3) q3.n htr

theorem evD_some : ∀ (r : List DE) {tm : Tr AV} {H HF : AHeap}, evD P call tm0 r tm H = some (tmF, HF) → ∀ t, (tmF.get? t).isSome = (tm.get? t).isSome
  | [], tm, H, HF, h, t => by cases h; rfl
  | .q d :: r, tm, H, HF, h, t => by
    simp only [evD] at h
    split at h
    · rw [evD_some r h t, putK_some]
    · cases h
  | .l d c :: r, tm, H, HF, h, t => by
    simp only [evD] at h
    split at h
    · rename_i v H' _
      cases hk : chksV tm0 (putK tm d.dst v) H' c with
      | false => rw [hk] at h; cases h
      | true => rw [hk] at h; rw [evD_some r h t, putK_some]
    · cases h

/-- A region whose order is open. -/
theorem drawn_wp {id : Nat} {_ds : Bool} {tm : Tr AV} (hm : P.follows .mixedOrders = true) (hc : compD P G ops = some L) (hcall : CallOK P base G call) {Q : Exit → Act → World → Prop} (hs : SR P base G ρ₀ H₀ w₀ d0 ρ tm H a w)
    (h : evD P call tm L tm H = some (tmF, HF)) (hQ : ∀ ρ' a' w', SR P base G ρ₀ H₀ w₀ d0 ρ' tmF HF a' w' → Q .normal a' w') : (Code.region id ops true).wp P Q a w := by
  obtain ⟨l, S⟩ := compD_stat hc
  refine wp_region_any hm ?_
  have htr := evD_trace S L [] (by rfl) (fun _ => rfl) h
  have hkeep := evD_keep L h
  have hsame := evD_some L h
  have hrep : ∀ j, (Array.replicate ops.size false).getD j false = false := fun j => getD_replicate_false' _ _
  refine drawn_any S hcall (fun t ht => hkeep t ht) hQ ops.size _ [] L H ρ a _ (fun _ => none) (List.range ops.size) rfl
    ⟨by simp [S.len], fun d _ h => (by rw [hrep] at h; cases h), fun d _ h => (by rw [hrep] at h; cases h), fun _ _ h => (by cases h), hs.hr.of_heap rfl, hs.gl, hs.ext.trans (Ext.of_heap rfl rfl rfl rfl), hs.defers, ?_, hsame, fun t _ => ?_, fun t ht => ?_, fun _ h => (by cases h), fun _ _ h => (by cases h), fun _ _ _ h => (by cases h), htr⟩ (by simp) (fun i hi _ => List.mem_range.2 hi)
  · intro t
    rw [hsame t]; exact hs.tr.1 t
  · exact EvR.of_TR hs.tr hs.gl (.tmp t) _ rfl
  · have hno : ∀ x ∈ L, dstIs x.it t = false := fun x hx => by
      cases h1 : dstIs x.it t with
      | false => rfl
      | true =>
        have := ht _ (S.mem x hx) h1
        rw [hrep] at this; cases this
    rw [getU_congr (hkeep t hno)]
    exact EvR.of_TR hs.tr hs.gl (.tmp t) _ rfl

end
end
end Go.Ab
