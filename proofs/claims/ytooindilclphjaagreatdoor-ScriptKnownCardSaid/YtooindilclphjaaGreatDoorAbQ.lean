/- Regions whose order is open: what the checks say; the run as a trace. -/
import Derived.Test.YtooindilclphjaaGreatDoorAbP
namespace Go.Ab
noncomputable section

section
variable {P : Program} {G : List Nat} {ops : Array Oper}

structure ItemAt (P : Program) (G : List Nat) (ops : Array Oper) (d : DI) (o : Oper) : Prop where
  pos : ops[d.idx]? = some o
  dst : d.dst = o.dst
  g : guardOf ops o.guard = some d.g
  k : comp P G o.op = some d.k
  looks : d.looks = o.looksAt ops
  deps : d.deps = depsOf o

structure Stat (P : Program) (G : List Nat) (ops : Array Oper) (l : List DI) (L : List DE) : Prop where
  len : l.length = ops.size
  pos : ∀ (j : Nat) (d : DI), l[j]? = some d → d.idx = j ∧ ∃ o, ItemAt P G ops d o
  mem : ∀ x ∈ L, x.it ∈ l
  chk : ∀ d chks, DE.l d chks ∈ L → ∀ c ∈ chks, c ∈ l
  ok : okD ops.size l L = true

theorem mkDIs_at : ∀ {r : List Oper} {i : Nat} {T : List Nat} {l : List DI}, mkDIs P G ops i r T = some l → (∀ (j : Nat), r[j]? = ops[i + j]?) →
    l.length = r.length ∧ ∀ (j : Nat) (d : DI), l[j]? = some d → d.idx = i + j ∧ ∃ o, ItemAt P G ops d o := by
  intro r
  induction r with
  | nil => intro i T l h _; cases h; exact ⟨rfl, fun j d hd => by simp at hd⟩
  | cons o r ih =>
    intro i T l h hr
    simp only [mkDIs] at h
    cases hg : guardOf ops o.guard with
    | none => rw [hg] at h; cases h
    | some g =>
      cases hk : comp P G o.op with
      | none => rw [hg, hk] at h; cases h
      | some k =>
        rw [hg, hk] at h
        simp only at h
        cases hm : mkDIs P G ops (i + 1) r (T ++ [anc1 T (depsOf o)]) with
        | none => rw [hm] at h; cases h
        | some l' =>
          rw [hm] at h; cases h
          obtain ⟨e1, e2⟩ := ih hm (fun j => by have := hr (j + 1); simpa [Nat.add_assoc, Nat.add_comm 1 j] using this)
          refine ⟨by simp [e1], fun j d hd => ?_⟩
          cases j with
          | zero =>
            simp at hd; subst hd
            exact ⟨rfl, o, ⟨by have := hr 0; simpa using this.symm, rfl, hg, hk, rfl, rfl⟩⟩
          | succ j =>
            obtain ⟨f1, f2⟩ := e2 j d (by simpa using hd)
            exact ⟨by rw [f1]; omega, f2⟩

theorem canon_mem {l : List DI} : ∀ (f seen : Nat) (rd : List DI), (∀ c ∈ rd, c ∈ l) → ∀ x ∈ canon l f seen rd, x.it ∈ l ∧ ∀ d chks, x = DE.l d chks → ∀ c ∈ chks, c ∈ l := by
  intro f
  induction f with
  | zero => intro _ _ _ x hx; simp [canon] at hx
  | succ f ih =>
    intro seen rd hrd x hx
    simp only [canon] at hx
    split at hx
    · rename_i d hd
      rcases List.mem_cons.1 hx with rfl | hx
      · exact ⟨List.mem_of_find?_eq_some hd, fun _ _ e => by cases e⟩
      · refine ih _ _ (fun c hc => ?_) x hx
        cases hp : isP d.k <;> rw [hp] at hc
        · simp only [cond_false, List.mem_append, List.mem_singleton] at hc
          rcases hc with hc | rfl
          · exact hrd c hc
          · exact List.mem_of_find?_eq_some hd
        · exact hrd c hc
    · split at hx
      · rename_i d hd
        rcases List.mem_cons.1 hx with rfl | hx
        · exact ⟨List.mem_of_find?_eq_some hd, fun d' chks e c hc => by cases e; exact hrd c ((List.mem_filter.1 hc).1)⟩
        · exact ih _ _ hrd x hx
      · cases hx

theorem compD_stat {L : List DE} (h : compD P G ops = some L) : ∃ l, Stat P G ops l L := by
  unfold compD at h
  split at h
  · cases h
  · rename_i l0 hl
    simp only at h
    cases hc : (okD ops.size (withOlds l0) (canon (withOlds l0) ops.size 0 []) && Region.noSelect ops) with
    | false => rw [hc] at h; cases h
    | true =>
      rw [hc] at h; cases h
      simp only [Bool.and_eq_true] at hc
      obtain ⟨e1, e2⟩ := mkDIs_at hl (fun j => by simp)
      refine ⟨withOlds l0, ⟨by simp [withOlds, e1], fun j d hd => ?_, fun x hx => (canon_mem _ _ _ (fun _ h => by cases h) x hx).1, fun d chks hx c hcc => (canon_mem _ _ _ (fun _ h => by cases h) _ hx).2 d chks rfl c hcc, hc.1⟩⟩
      simp only [withOlds, List.getElem?_map, Option.map_eq_some_iff] at hd
      obtain ⟨d0, hd0, rfl⟩ := hd
      obtain ⟨f1, o, f2⟩ := e2 j d0 hd0
      exact ⟨by simpa using f1, o, ⟨f2.pos, f2.dst, f2.g, f2.k, f2.looks, f2.deps⟩⟩

variable {l : List DI} {L : List DE}

theorem Stat.idx (S : Stat P G ops l L) {d : DI} (h : d ∈ l) : l[d.idx]? = some d ∧ d.idx < ops.size := by
  obtain ⟨j, hj⟩ := List.getElem?_of_mem h
  have := (S.pos j d hj).1
  refine ⟨by rw [this]; exact hj, ?_⟩
  rw [this, ← S.len]
  rcases Nat.lt_or_ge j l.length with c | c
  · exact c
  · rw [List.getElem?_eq_none c] at hj; cases hj

theorem Stat.uniq (S : Stat P G ops l L) {d d' : DI} (h : d ∈ l) (h' : d' ∈ l) (e : d.idx = d'.idx) : d = d' := by
  have h1 := (S.idx h).1
  have h2 := (S.idx h').1
  rw [e] at h1
  exact Option.some.inj (h1.symm.trans h2)

theorem Stat.item (S : Stat P G ops l L) {d : DI} (h : d ∈ l) : ∃ o, ItemAt P G ops d o := by
  obtain ⟨j, hj⟩ := List.getElem?_of_mem h
  exact (S.pos j d hj).2

theorem Stat.get (S : Stat P G ops l L) {i : Nat} (h : i < ops.size) : ∃ d, d ∈ l ∧ d.idx = i := by
  have hi : i < l.length := by rw [S.len]; exact h
  exact ⟨l[i], List.getElem_mem hi, (S.pos i _ (List.getElem?_eq_getElem hi)).1⟩

theorem Stat.oks (S : Stat P G ops l L) : okAnc (l.map (·.anc)) l = true ∧ okCover L ops.size = true ∧ okSingle l = true ∧ okLooks l = true ∧ okRun [] L = true := by
  have := S.ok
  simp only [okD, Bool.and_eq_true] at this
  exact this

theorem Stat.cover (S : Stat P G ops l L) {d : DI} (h : d ∈ l) : ∃ x ∈ L, x.it = d := by
  have h1 := S.oks.2.1
  simp only [okCover, List.all_eq_true, List.mem_range, List.any_eq_true] at h1
  obtain ⟨x, hx, e⟩ := h1 d.idx (S.idx h).2
  exact ⟨x, hx, S.uniq (S.mem x hx) h (Nat.eq_of_beq_eq_true e)⟩

theorem Stat.back (S : Stat P G ops l L) {d : DI} (h : d ∈ l) {e : Nat} (he : e ∈ d.deps) : e < d.idx := by
  have h1 := S.oks.1
  simp only [okAnc, List.all_eq_true, Bool.and_eq_true] at h1
  exact Nat.le_of_ble_eq_true ((h1 d h).1 e he)

theorem anc1_bit {T : List Nat} {j : Nat} : ∀ {deps : List Nat}, bitN (anc1 T deps) j = true → ∃ e ∈ deps, e = j ∨ bitN (T.getD e 0) j = true
  | [], h => by simp [anc1, bitN_eq] at h
  | e :: r, h => by
    rw [bitN_eq] at h
    simp only [anc1] at h
    rw [show ∀ a b : Nat, Nat.lor a b = a ||| b from fun _ _ => rfl, Nat.testBit_or, show ∀ a b : Nat, Nat.lor a b = a ||| b from fun _ _ => rfl, Nat.testBit_or, show Nat.pow 2 e = 2 ^ e from rfl, Nat.testBit_two_pow] at h
    simp only [Bool.or_eq_true, decide_eq_true_eq] at h
    rcases h with (h | h) | h
    · exact ⟨e, List.mem_cons_self, .inl h⟩
    · exact ⟨e, List.mem_cons_self, .inr (by rw [bitN_eq]; exact h)⟩
    · obtain ⟨e', h1, h2⟩ := anc1_bit (deps := r) (by rw [bitN_eq]; exact h)
      exact ⟨e', List.mem_cons_of_mem _ h1, h2⟩

def Closed (l : List DI) (listed : Array Bool) : Prop := ∀ d ∈ l, listed.getD d.idx false = true → ∀ e ∈ d.deps, listed.getD e false = true

theorem Stat.anc (S : Stat P G ops l L) {listed : Array Bool} (hc : Closed l listed) : ∀ (n : Nat) {d : DI}, d.idx = n → d ∈ l → (∀ e ∈ d.deps, listed.getD e false = true) → ∀ {j : Nat}, bitN d.anc j = true → listed.getD j false = true := by
  intro n
  induction n using Nat.strongRecOn with
  | _ n ih =>
    intro d hn hd hdeps j hj
    have h1 := S.oks.1
    simp only [okAnc, List.all_eq_true, Bool.and_eq_true] at h1
    rw [Nat.eq_of_beq_eq_true (h1 d hd).2] at hj
    obtain ⟨e, he, h2⟩ := anc1_bit hj
    rcases h2 with rfl | h2
    · exact hdeps _ he
    · have hlt := S.back hd he
      obtain ⟨d', hd', hi⟩ := S.get (Nat.lt_trans hlt (S.idx hd).2)
      have hT : (l.map (·.anc)).getD e 0 = d'.anc := by
        have := (S.idx hd').1
        rw [hi] at this
        simp [this]
      rw [hT] at h2
      exact ih e (by omega) hi hd' (hc d' hd' (by rw [hi]; exact hdeps e he)) h2

theorem dstIs_iff {d : DI} {t : Nat} : dstIs d t = true ↔ d.dst = some t := by
  unfold dstIs
  cases d.dst with
  | none => simp
  | some u =>
    cases h : Nat.beq u t with
    | true => simp [Nat.eq_of_beq_eq_true h]
    | false => simp [Nat.ne_of_beq_eq_false h]

theorem single_spec : ∀ {l : List DI}, okSingle l = true → ∀ (i j : Nat) (p q : DI) (t : Nat), l[i]? = some p → l[j]? = some q → p.dst = some t → q.dst = some t → i = j
  | [], _, i, j, p, q, t, hp, _, _, _ => by simp at hp
  | d :: r, h, i, j, p, q, t, hp, hq, hpt, hqt => by
    simp only [okSingle, Bool.and_eq_true] at h
    have hno : ∀ {x : DI} (k : Nat), r[k]? = some x → d.dst = some t → x.dst = some t → False := fun {x} k hx hd hxt => by
      have h1 := h.1
      rw [hd] at h1
      simp only [List.all_eq_true] at h1
      have := h1 x (List.mem_of_getElem? hx)
      rw [dstIs_iff.2 hxt] at this
      cases this
    cases i with
    | zero =>
      simp at hp; subst hp
      cases j with
      | zero => rfl
      | succ j => exact (hno j (by simpa using hq) hpt hqt).elim
    | succ i =>
      cases j with
      | zero => simp at hq; subst hq; exact (hno i (by simpa using hp) hqt hpt).elim
      | succ j => rw [single_spec h.2 i j p q t (by simpa using hp) (by simpa using hq) hpt hqt]

theorem Stat.single (S : Stat P G ops l L) {p q : DI} {t : Nat} (hp : p ∈ l) (hq : q ∈ l) (h1 : p.dst = some t) (h2 : q.dst = some t) : p = q :=
  S.uniq hp hq (single_spec S.oks.2.2.1 _ _ p q t (S.idx hp).1 (S.idx hq).1 h1 h2)

theorem Stat.looks (S : Stat P G ops l L) {d p : DI} {t : Nat} (hd : d ∈ l) (hp : p ∈ l) (ht : t ∈ d.looks) (h : p.dst = some t) :
    if memN t d.olds = true then (p.idx = d.idx ∨ bitN p.anc d.idx = true) else bitN d.anc p.idx = true := by
  have h1 := S.oks.2.2.2.1
  simp only [okLooks, List.all_eq_true, Bool.or_eq_true] at h1
  have := h1 d hd t ht p hp
  rw [dstIs_iff.2 h] at this
  simp only [Bool.not_true, Bool.false_eq_true, false_or] at this
  cases hm : memN t d.olds with
  | true =>
    rw [hm] at this
    simp only [cond_true, Bool.or_eq_true] at this
    simp only [if_true]
    exact this.imp Nat.eq_of_beq_eq_true id
  | false => rw [hm] at this; simpa using this

theorem okRun_drop : ∀ (a : List DE) {pre r : List DE}, okRun pre (a ++ r) = true → okRun (pre ++ a) r = true
  | [], pre, r, h => by simpa using h
  | .q d :: a, pre, r, h => by
    simp only [List.cons_append, okRun, Bool.and_eq_true] at h
    have := okRun_drop a h.2
    simpa using this
  | .l d c :: a, pre, r, h => by
    simp only [List.cons_append, okRun, Bool.and_eq_true] at h
    have := okRun_drop a h.2
    simpa using this

theorem Stat.run (S : Stat P G ops l L) {pre r : List DE} (h : L = pre ++ r) : okRun pre r = true := by
  have := S.oks.2.2.2.2
  rw [h] at this
  simpa using okRun_drop pre this

theorem run_mem {_d : DI} : ∀ {a b : List DE}, okRun a b = true → ∀ (p r : List DE) (x : DE), b = p ++ x :: r → (∀ y ∈ r, y.it.idx ≠ x.it.idx) ∧ (∀ t ∈ x.it.looks, memN t x.it.olds = false → dstIs x.it t = false ∧ ∀ y ∈ r, dstIs y.it t = false) ∧ (∀ d, x = .q d → isQ d.k = true) := by
  intro a b
  induction b generalizing a with
  | nil => intro _ p r x e; simp at e
  | cons z b ih =>
    intro h p r x e
    cases p with
    | cons z' p =>
      simp only [List.cons_append, List.cons.injEq] at e
      obtain ⟨rfl, e⟩ := e
      cases z <;> simp only [okRun, Bool.and_eq_true] at h <;> exact ih h.2 p r x e
    | nil =>
      simp only [List.nil_append, List.cons.injEq] at e
      obtain ⟨rfl, rfl⟩ := e
      cases z with
      | q d =>
        simp only [okRun, Bool.and_eq_true, List.all_eq_true] at h
        obtain ⟨⟨⟨h1, h2⟩, h3⟩, _⟩ := h
        refine ⟨fun y hy e => ?_, fun t ht hm => ?_, fun d' e => by cases e; exact h1⟩
        · have := h2 y hy
          rw [show Nat.beq y.it.idx d.idx = true from by rw [show y.it.idx = d.idx from e]; exact Nat.beq_refl _] at this
          cases this
        · have := h3 t ht
          rw [show memN t d.olds = false from hm] at this
          simp only [Bool.false_or, Bool.and_eq_true, Bool.not_eq_true', List.all_eq_true] at this
          exact this
      | l d c =>
        simp only [okRun, Bool.and_eq_true, List.all_eq_true] at h
        obtain ⟨⟨⟨⟨h2, h3⟩, _⟩, _⟩, _⟩ := h
        refine ⟨fun y hy e => ?_, fun t ht hm => ?_, fun d' e => by cases e⟩
        · have := (h2 y hy).1
          rw [show Nat.beq y.it.idx d.idx = true from by rw [show y.it.idx = d.idx from e]; exact Nat.beq_refl _] at this
          cases this
        · have := h3 t ht
          rw [show memN t d.olds = false from hm] at this
          simp only [Bool.false_or, Bool.and_eq_true, Bool.not_eq_true', List.all_eq_true] at this
          exact this

theorem Stat.after (S : Stat P G ops l L) {p r : List DE} {x : DE} (h : L = p ++ x :: r) :
    (∀ y ∈ r, y.it.idx ≠ x.it.idx) ∧ (∀ t ∈ x.it.looks, memN t x.it.olds = false → dstIs x.it t = false ∧ ∀ y ∈ r, dstIs y.it t = false) ∧ (∀ d, x = .q d → isQ d.k = true) :=
  run_mem (_d := x.it) S.oks.2.2.2.2 p r x h

theorem Stat.apart (S : Stat P G ops l L) {pre r : List DE} (h : L = pre ++ r) {x y : DE} (hx : x ∈ pre) (hy : y ∈ r) : y.it.idx ≠ x.it.idx ∧ (∀ t ∈ x.it.looks, memN t x.it.olds = false → dstIs y.it t = false) := by
  obtain ⟨a, b, rfl⟩ := List.append_of_mem hx
  have := S.after (p := a) (r := b ++ r) (x := x) (by rw [h]; simp)
  exact ⟨this.1 y (List.mem_append_right _ hy), fun t ht hm => (this.2.1 t ht hm).2 y (List.mem_append_right _ hy)⟩

theorem Stat.loud (S : Stat P G ops l L) {pre r : List DE} {d : DI} {chks : List DI} (h : L = pre ++ .l d chks :: r) :
    (∀ x ∈ r, bitN x.it.anc d.idx = true) ∧ (∀ q, DE.q q ∈ pre → isP q.k = true ∨ bitN d.anc q.idx = true ∨ q ∈ chks) ∧ (∀ c ∈ chks, DE.q c ∈ pre) := by
  have h1 := S.run h
  simp only [okRun, Bool.and_eq_true, List.all_eq_true] at h1
  obtain ⟨⟨⟨⟨h2, _⟩, h3⟩, h4⟩, _⟩ := h1
  have hcl : ∀ c ∈ chks, c ∈ l := S.chk d chks (by rw [h]; simp)
  have hpl : ∀ q, DE.q q ∈ pre → q ∈ l := fun q hq => S.mem (.q q) (by rw [h]; exact List.mem_append_left _ hq)
  refine ⟨fun x hx => (h2 x hx).2, fun q hq => ?_, fun c hc => ?_⟩
  · have := h3 _ hq
    simp only [Bool.or_eq_true, hasIdx, List.any_eq_true] at this
    rcases this with (h5 | h5) | ⟨c, hc, h5⟩
    · exact .inl h5
    · exact .inr (.inl h5)
    · refine .inr (.inr ?_)
      rw [S.uniq (hpl q hq) (hcl c hc) (Nat.eq_of_beq_eq_true h5).symm]; exact hc
  · have := (h4 c hc).2
    simp only [List.any_eq_true] at this
    obtain ⟨x, hx, h5⟩ := this
    cases x with
    | l _ _ => cases h5
    | q q => rw [S.uniq (hcl c hc) (hpl q hx) (Nat.eq_of_beq_eq_true h5).symm]; exact hx

/-! ### The trace -/

structure EnvOK (tm0 tmF : Tr AV) (d : DI) (ev : Opnd → AV) : Prop where
  tmp : ∀ t ∈ d.looks, ev (.tmp t) = cond (memN t d.olds) (getU tm0 t) (getU tmF t)
  con : ∀ v, ev (.con v) = v
  glob : ∀ g, ev (.glob g) = .ptr g 0
  fn : ∀ f, ev (.fn f) = .fn f [] []

def Res (tm0 tmF : Tr AV) (d : DI) (v : AV) : Prop := ∀ t, d.dst = some t → tmF.get? t = (tm0.get? t).map fun _ => v

def TrP (P : Program) (call : CallFn) (tm0 tmF : Tr AV) : List DE → AHeap → AHeap → Prop
  | [], H, HF => H = HF
  | .q d :: r, H, HF => ∃ ev v H', EnvOK tm0 tmF d ev ∧ stepV P call d ev H = some (v, H') ∧ Res tm0 tmF d v ∧ TrP P call tm0 tmF r H' HF
  | .l d chks :: r, H, HF => ∃ ev v H', EnvOK tm0 tmF d ev ∧ stepV P call d ev H = some (v, H') ∧ Res tm0 tmF d v ∧
      (∀ c ∈ chks, ∃ ev, EnvOK tm0 tmF c ev ∧ (wantD c.g ev = true → ∃ k u, c.k = .r k ∧ rdK k ev H' = some u ∧ Res tm0 tmF c u)) ∧ TrP P call tm0 tmF r H' HF

theorem putK_ne {tm : Tr AV} {d : DI} {v : AV} {t : Nat} (h : dstIs d t = false) : (putK tm d.dst v).get? t = tm.get? t := by
  cases e : d.dst with
  | none => rfl
  | some u =>
    refine Tr.get?_set_ne _ _ _ _ fun c => ?_
    subst c
    rw [dstIs_iff.2 e] at h
    cases h

theorem putK_some (tm : Tr AV) (d : DI) (v : AV) (t : Nat) : ((putK tm d.dst v).get? t).isSome = (tm.get? t).isSome := by
  cases e : d.dst with
  | none => rfl
  | some u =>
    show ((tm.set u v).get? t).isSome = _
    by_cases c : t = u
    · subst c; rw [Tr.get?_set_same]; simp
    · rw [Tr.get?_set_ne _ _ _ _ c]

variable {call : CallFn} {tm0 tmF : Tr AV}

theorem evD_keep : ∀ (r : List DE) {tm : Tr AV} {H HF : AHeap}, evD P call tm0 r tm H = some (tmF, HF) → ∀ t, (∀ x ∈ r, dstIs x.it t = false) → tmF.get? t = tm.get? t
  | [], tm, H, HF, h, t, _ => by cases h; rfl
  | .q d :: r, tm, H, HF, h, t, ht => by
    simp only [evD] at h
    split at h
    · rename_i v H' _
      rw [evD_keep r h t fun x hx => ht x (List.mem_cons_of_mem _ hx)]
      exact putK_ne (ht _ List.mem_cons_self)
    · cases h
  | .l d c :: r, tm, H, HF, h, t, ht => by
    simp only [evD] at h
    split at h
    · rename_i v H' _
      cases hk : chksV tm0 (putK tm d.dst v) H' c with
      | false => rw [hk] at h; cases h
      | true =>
        rw [hk] at h
        rw [evD_keep r h t fun x hx => ht x (List.mem_cons_of_mem _ hx)]
        exact putK_ne (ht (.l d c) List.mem_cons_self)
    · cases h

theorem getU_congr {tm tm' : Tr AV} {t : Nat} (h : tm.get? t = tm'.get? t) : getU tm t = getU tm' t := by unfold getU; rw [h]

theorem env_of {d : DI} {tm : Tr AV} (h : ∀ t ∈ d.looks, memN t d.olds = false → tmF.get? t = tm.get? t) : EnvOK tm0 tmF d (ev2 d.olds tm0 tm) := {
  tmp t ht := by
    simp only [ev2]
    cases hm : memN t d.olds with
    | true => rfl
    | false => exact getU_congr (h t ht hm).symm
  con _ := rfl
  glob _ := rfl
  fn _ := rfl
  }

theorem chksV_spec {tm : Tr AV} {H : AHeap} : ∀ {cs : List DI}, chksV tm0 tm H cs = true → ∀ c ∈ cs, chkV c (ev2 c.olds tm0 tm) tm H = true
  | [], _, c, hc => by cases hc
  | d :: r, h, c, hc => by
    simp only [chksV] at h
    cases hd : chkV d (ev2 d.olds tm0 tm) tm H with
    | false => rw [hd] at h; cases h
    | true =>
      rw [hd] at h
      rcases List.mem_cons.1 hc with rfl | hc
      · exact hd
      · exact chksV_spec h c hc

theorem evD_trace (S : Stat P G ops l L) : ∀ (r pre : List DE) {tm : Tr AV} {H HF : AHeap}, L = pre ++ r → (∀ t, (tm.get? t).isSome = (tm0.get? t).isSome) →
    evD P call tm0 r tm H = some (tmF, HF) → TrP P call tm0 tmF r H HF := by
  intro r
  induction r with
  | nil => intro pre tm H HF _ _ h; cases h; rfl
  | cons x r ih =>
    intro pre tm H HF hL hsh h
    have haf := S.after hL
    have hxl : x.it ∈ l := S.mem x (by rw [hL]; simp)
    have hrl : ∀ y ∈ r, y.it ∈ l := fun y hy => S.mem y (by rw [hL]; simp [hy])
    have hkeep := evD_keep (x :: r) h
    have henv : EnvOK tm0 tmF x.it (ev2 x.it.olds tm0 tm) := env_of fun t ht hm => hkeep t fun y hy => by
      rcases List.mem_cons.1 hy with rfl | hy
      · exact (haf.2.1 t ht hm).1
      · exact (haf.2.1 t ht hm).2 y hy
    have hlast : ∀ (z : DI) (t : Nat), z ∈ l → z.dst = some t → (∀ y ∈ r, y.it.idx ≠ z.idx) → ∀ y ∈ r, dstIs y.it t = false := fun z t hz hzt hne y hy => by
      cases hd : dstIs y.it t with
      | false => rfl
      | true => exact (hne y hy (by rw [S.single (hrl y hy) hz (dstIs_iff.1 hd) hzt])).elim
    have hres : ∀ v H', evD P call tm0 r (putK tm x.it.dst v) H' = some (tmF, HF) → Res tm0 tmF x.it v := fun v H' he t ht => by
      rw [evD_keep r he t (hlast _ t hxl ht haf.1), ht]
      show (tm.set t v).get? t = _
      rw [Tr.get?_set_same]
      have := hsh t
      cases h1 : tm.get? t <;> cases h2 : tm0.get? t <;> rw [h1, h2] at this <;> simp at this ⊢
    have hsh' : ∀ v, ∀ t, ((putK tm x.it.dst v).get? t).isSome = (tm0.get? t).isSome := fun v t => by rw [putK_some]; exact hsh t
    have hL' : L = (pre ++ [x]) ++ r := by rw [hL]; simp
    cases x with
    | q d =>
      simp only [evD] at h
      split at h
      · rename_i v H' hst
        exact ⟨_, v, H', henv, hst, hres v H' h, ih (pre ++ [.q d]) hL' (hsh' v) h⟩
      · cases h
    | l d chks =>
      simp only [evD] at h
      split at h
      · rename_i v H' hst
        cases hk : chksV tm0 (putK tm d.dst v) H' chks with
        | false => rw [hk] at h; cases h
        | true =>
          rw [hk] at h
          simp only [cond_true] at h
          refine ⟨_, v, H', henv, hst, hres v H' h, fun c hc => ?_, ih (pre ++ [.l d chks]) hL' (hsh' v) h⟩
          have hcp := (S.loud hL).2.2 c hc
          have hcl : c ∈ l := S.chk d chks (by rw [hL]; simp) c hc
          refine ⟨ev2 c.olds tm0 (putK tm d.dst v), env_of fun t ht hm => evD_keep r h t fun y hy => (S.apart hL hcp (List.mem_cons_of_mem _ hy)).2 t ht hm, fun hw => ?_⟩
          have hv := chksV_spec hk c hc
          unfold chkV at hv
          rw [hw] at hv
          simp only [cond_true] at hv
          cases hck : c.k with
          | r k =>
            rw [hck] at hv
            simp only at hv
            cases hrd : rdK k (ev2 c.olds tm0 (putK tm d.dst v)) H' with
            | none => rw [hrd] at hv; cases hv
            | some u =>
              rw [hrd] at hv
              refine ⟨k, u, rfl, hrd, fun t ht => ?_⟩
              simp only [sameD, ht] at hv
              have hu := AV.beq_eq hv
              rw [evD_keep r h t (hlast c t hcl ht fun y hy => (S.apart hL hcp (List.mem_cons_of_mem _ hy)).1)]
              have := hsh' v t
              simp only [DE.it] at this
              unfold getU at hu
              cases h1 : (putK tm d.dst v).get? t with
              | none => rw [h1] at this; cases h2 : tm0.get? t with
                | none => rfl
                | some _ => rw [h2] at this; cases this
              | some z =>
                rw [h1] at this hu
                cases h2 : tm0.get? t with
                | none => rw [h2] at this; cases this
                | some _ => rw [hu]; rfl
          | n k => rw [hck] at hv; cases hv
          | w k => rw [hck] at hv; cases hv
          | c k => rw [hck] at hv; cases hv
          | x => rw [hck] at hv; cases hv
      · cases h

end
end
end Go.Ab
