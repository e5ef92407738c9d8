/- Bodies as closures over 400 temporaries; a table of functions whose regions are checked once for all; the quick evaluator, sound. -/
import Derived.Test.YtooindilclphjaaGreatDoorAdB
namespace Go.Ab
noncomputable section

/-! ### Made ready without the checks -/

def compDU (P : Program) (G : List Nat) (ops : Array Oper) : Option (List DE) := match mkDIs P G ops 0 ops.toList [] with
  | none => none
  | some l0 => some (canon (withOlds l0) ops.size 0 [])

def compKU (P : Program) (G : List Nat) : Code → Option KCode
  | .skip => some .skip
  | .seq a b => match compKU P G a with
    | some x => match compKU P G b with
      | some y => some (.seq x y)
      | none => none
    | none => none
  | .cond c a b => match opnd G c with
    | some c => match compKU P G a with
      | some x => match compKU P G b with
        | some y => some (.cnd c x y)
        | none => none
      | none => none
    | none => none
  | .block id c => match compKU P G c with
    | some x => some (.block id x)
    | none => none
  | .loop c => match compKU P G c with
    | some x => some (.loop x)
    | none => none
  | .exit id => some (.exit id)
  | .ret => some .ret
  | .region _ ops false => match allM (compQ P G ops) ops.toList with
    | some qs => some (.reg qs)
    | none => none
  | .region _ ops true => match compDU P G ops with
    | some L => some (.dreg L)
    | none => none
  | _ => some .bad

def compFU0 (P : Program) (G : List Nat) (f : Nat) : Option KFun := match P.funcs[f]? with
  | none => none
  | some fn => match fn.body with
    | none => none
    | some c => match compKU P G c with
      | some k => match allM (compRes P) fn.results.toList with
        | some rs => some ⟨fn.ntmps, rs, k⟩
        | none => none
      | none => none

def compFDU (P : Program) (G : List Nat) (f : Nat) : Option KFun := match P.funcs[f]? with
  | none => none
  | some fn => match fn.body with
    | none => none
    | some c => match compSW P G (compKU P G) (compFU0 P G) c with
      | some k => match allM (compRes P) fn.results.toList with
        | some rs => some ⟨fn.ntmps, rs, k⟩
        | none => none
      | none => none

def compFU (P : Program) (G : List Nat) (f : Nat) : Option KFun := cond (bodyD P G f) (compFDU P G f) (compFU0 P G f)

theorem compDU_of {P : Program} {G : List Nat} {ops : Array Oper} {L : List DE} (h : compD P G ops = some L) : compDU P G ops = some L := by
  unfold compD at h
  unfold compDU
  cases hm : mkDIs P G ops 0 ops.toList [] with
  | none => rw [hm] at h; cases h
  | some l0 =>
    rw [hm] at h
    simp only at h ⊢
    cases hc : (okD ops.size (withOlds l0) (canon (withOlds l0) ops.size 0 []) && Region.noSelect ops) with
    | false => rw [hc] at h; cases h
    | true => rw [hc] at h; exact h

theorem compKU_of {P : Program} {G : List Nat} : ∀ (c : Code) {k : KCode}, compK P G c = some k → compKU P G c = some k := by
  intro c
  induction c with
  | region id ops d =>
    intro k h
    cases d with
    | false => exact h
    | true =>
      simp only [compK] at h
      cases hd : compD P G ops with
      | none => rw [hd] at h; cases h
      | some L => rw [hd] at h; simp only [compKU, compDU_of hd]; exact h
  | seq a b iha ihb =>
    intro k h
    simp only [compK] at h
    cases ha : compK P G a with
    | none => rw [ha] at h; cases h
    | some x =>
      cases hb : compK P G b with
      | none => rw [ha, hb] at h; cases h
      | some y => rw [ha, hb] at h; simp only [compKU, iha ha, ihb hb]; exact h
  | cond c a b iha ihb =>
    intro k h
    simp only [compK] at h
    cases hc : opnd G c with
    | none => rw [hc] at h; cases h
    | some kc =>
      cases ha : compK P G a with
      | none => rw [hc, ha] at h; cases h
      | some x =>
        cases hb : compK P G b with
        | none => rw [hc, ha, hb] at h; cases h
        | some y => rw [hc, ha, hb] at h; simp only [compKU, hc, iha ha, ihb hb]; exact h
  | block id a ih =>
    intro k h
    simp only [compK] at h
    cases ha : compK P G a with
    | none => rw [ha] at h; cases h
    | some x => rw [ha] at h; simp only [compKU, ih ha]; exact h
  | loop a ih =>
    intro k h
    simp only [compK] at h
    cases ha : compK P G a with
    | none => rw [ha] at h; cases h
    | some x => rw [ha] at h; simp only [compKU, ih ha]; exact h
  | _ => intro k h; exact h

def okFun (P : Program) (G : List Nat) (f : Nat) : Bool := (compF P G f).isSome

theorem compFU0_of {P : Program} {G : List Nat} {f : Nat} {kf : KFun} (hk : compF0 P G f = some kf) : compFU0 P G f = some kf := by
  unfold compF0 at hk
  unfold compFU0
  cases hfn : P.funcs[f]? with
  | none => rw [hfn] at hk; cases hk
  | some fn =>
    rw [hfn] at hk
    simp only at hk ⊢
    cases hb : fn.body with
    | none => rw [hb] at hk; cases hk
    | some c =>
      rw [hb] at hk
      simp only at hk ⊢
      cases hnm : (fn.name == "runtime.NumGoroutine") with
      | true => rw [hnm] at hk; cases hk
      | false =>
        rw [hnm] at hk
        simp only [cond_false] at hk
        cases hck : compK P G c with
        | none => rw [hck] at hk; cases hk
        | some k =>
          rw [hck] at hk
          rw [compKU_of c hck]
          exact hk

theorem compSW_of {P : Program} {G : List Nat} : ∀ (c : Code) {k : KCode}, compSW P G (compK P G) (compF0 P G) c = some k → compSW P G (compKU P G) (compFU0 P G) c = some k := by
  intro c
  induction c with
  | seq x y _ ihy =>
    intro k h
    simp only [compSW] at h ⊢
    cases hd : dfrLast G x with
    | none =>
      rw [hd] at h
      simp only at h ⊢
      cases hy : compSW P G (compK P G) (compF0 P G) y with
      | none => rw [hy] at h; cases h
      | some ky =>
        rw [hy] at h
        rw [ihy hy]
        simp only at h ⊢
        cases hx : compK P G x with
        | none => rw [hx] at h; cases h
        | some kx => rw [hx] at h; rw [compKU_of x hx]; exact h
    | some fl =>
      obtain ⟨f, l⟩ := fl
      rw [hd] at h
      simp only at h ⊢
      cases hq : dfrQs P G x with
      | none => rw [hq] at h; cases h
      | some qs =>
        rw [hq] at h
        simp only at h ⊢
        cases hf : compF0 P G f with
        | none => rw [hf] at h; cases h
        | some kf =>
          rw [hf] at h
          rw [compFU0_of hf]
          simp only at h ⊢
          cases hr : kf.res with
          | cons => rw [hr] at h; cases h
          | nil =>
            rw [hr] at h
            simp only at h ⊢
            cases hb : compK P G y with
            | none => rw [hb] at h; cases h
            | some kb => rw [hb] at h; rw [compKU_of y hb]; exact h
  | _ => intro k h; cases h

theorem compFDU_of {P : Program} {G : List Nat} {f : Nat} {kf : KFun} (hk : compFD P G f = some kf) : compFDU P G f = some kf := by
  unfold compFD at hk
  unfold compFDU
  cases hfn : P.funcs[f]? with
  | none => rw [hfn] at hk; cases hk
  | some fn =>
    rw [hfn] at hk
    simp only at hk ⊢
    cases hb : fn.body with
    | none => rw [hb] at hk; cases hk
    | some c =>
      rw [hb] at hk
      simp only at hk ⊢
      cases hnm : (fn.name == "runtime.NumGoroutine") with
      | true => rw [hnm] at hk; cases hk
      | false =>
        rw [hnm] at hk
        simp only [cond_false] at hk
        cases hck : compSW P G (compK P G) (compF0 P G) c with
        | none => rw [hck] at hk; cases hk
        | some k =>
          rw [hck] at hk
          rw [compSW_of c hck]
          exact hk

theorem compFU_of {P : Program} {G : List Nat} {f : Nat} {s : KFun} (h : compFU P G f = some s) (hok : okFun P G f = true) : compF P G f = some s := by
  unfold okFun at hok
  obtain ⟨kf, hk⟩ := Option.isSome_iff_exists.1 hok
  refine hk.trans ?_
  rw [← h]
  unfold compF at hk
  unfold compFU
  cases hd : bodyD P G f with
  | true => rw [hd] at hk; exact (compFDU_of hk).symm
  | false => rw [hd] at hk; exact (compFU0_of hk).symm

def okAll (P : Program) (G : List Nat) (mask lo : Nat) : Nat → Bool
  | 0 => true
  | n + 1 => cond (bitN mask (Nat.add lo n)) (cond (okFun P G (Nat.add lo n)) (okAll P G mask lo n) false) (okAll P G mask lo n)

theorem okAll_spec {P : Program} {G : List Nat} {mask lo : Nat} : ∀ {n : Nat}, okAll P G mask lo n = true → ∀ f, lo ≤ f → f < lo + n → bitN mask f = true → okFun P G f = true
  | 0, _, f, h1, h2, _ => by omega
  | n + 1, h, f, h1, h2, hb => by
    simp only [okAll] at h
    by_cases e : f = lo + n
    · subst e
      rw [show bitN mask (Nat.add lo n) = true from hb] at h
      simp only [cond_true] at h
      cases hc : okFun P G (Nat.add lo n) with
      | true => rfl
      | false => rw [hc] at h; cases h
    · refine okAll_spec (n := n) ?_ f h1 (by omega) hb
      cases hc : bitN mask (Nat.add lo n) with
      | false => rw [hc] at h; exact h
      | true =>
        rw [hc] at h
        simp only [cond_true] at h
        cases hc2 : okFun P G (Nat.add lo n) with
        | false => rw [hc2] at h; cases h
        | true => rw [hc2] at h; exact h

/-- The functions below M that are checked: those whose bit stands. -/
def tabK (P : Program) (G : List Nat) (M mask : Nat) (f : Nat) : Option KFun := cond (Nat.ble M f) none (cond (bitN mask f) (compFU P G f) none)

def TabKOK (P : Program) (G : List Nat) (tab : Nat → Option KFun) : Prop := ∀ f s, tab f = some s → compF P G f = some s

theorem tabK_ok {P : Program} {G : List Nat} {M mask : Nat} (h : ∀ f, f < M → bitN mask f = true → okFun P G f = true) : TabKOK P G (tabK P G M mask) := by
  intro f s hs
  unfold tabK at hs
  cases hc : Nat.ble M f with
  | true => rw [hc] at hs; cases hs
  | false =>
    rw [hc] at hs
    simp only [cond_false] at hs
    cases hb : bitN mask f with
    | false => rw [hb] at hs; cases hs
    | true =>
      rw [hb] at hs
      have hlt : f < M := by
        rcases Nat.lt_or_ge f M with c | c
        · exact c
        · have := Nat.ble_eq_true_of_le c; rw [hc] at this; cases this
      exact compFU_of hs (h f hlt hb)

/-! ### Frames -/

/-- A frame stands for temporaries. -/
structure ER' (nt : Nat) (e : E) (tm : Tr AV) : Prop where
  full : tm.Full nt
  le : nt ≤ 400
  get : ∀ t, t < nt → getE t e = getU tm t

def opA (nt : Nat) (x : Opnd) : Acc E := Opnd.rec (motive := fun _ => Acc E)
  (fun t => Bool.rec (motive := fun _ => Acc E) ⟨fun _ => .undef⟩ (accE t) (Nat.ble (Nat.succ t) nt)) (fun v => ⟨fun _ => v⟩) (fun g => ⟨fun _ => .ptr g 0⟩) (fun f => ⟨fun _ => .fn f [] []⟩) x

theorem getU_none {tm : Tr AV} {nt t : Nat} (h : tm.Full nt) (ht : ¬ t < nt) : getU tm t = .undef := by
  unfold getU; rw [h.none (by omega)]

theorem opA_run {nt : Nat} {e : E} {tm : Tr AV} (h : ER' nt e tm) (x : Opnd) : (opA nt x).run e = Opnd.ev tm x := by
  cases x with
  | tmp t =>
    show (Bool.rec (motive := fun _ => Acc E) ⟨fun _ => AV.undef⟩ (accE t) (Nat.ble (Nat.succ t) nt) : Acc E).run e = getU tm t
    by_cases ht : t < nt
    · rw [ble_true ht, ← h.get t ht]
      exact accE_run t (Nat.lt_of_lt_of_le ht h.le) e
    · rw [ble_false (by omega), getU_none h.full ht]
  | _ => rfl

theorem opA_ev {nt : Nat} {e : E} {tm : Tr AV} (h : ER' nt e tm) : (fun x => (opA nt x).run e) = Opnd.ev tm := funext (opA_run h)

def putA (nt : Nat) (dst : Option Nat) : Stt := Option.rec (motive := fun _ => Stt) ⟨fun _ e => e⟩
  (fun d => Bool.rec (motive := fun _ => Stt) ⟨fun _ e => e⟩ (sttE d) (Nat.ble (Nat.succ d) nt)) dst

theorem putA_run {nt : Nat} {e : E} {tm : Tr AV} (h : ER' nt e tm) (dst : Option Nat) (v : AV) : ER' nt ((putA nt dst).run v e) (putK tm dst v) := by
  cases dst with
  | none => exact h
  | some d =>
    show ER' nt ((Bool.rec (motive := fun _ => Stt) ⟨fun _ e => e⟩ (sttE d) (Nat.ble (Nat.succ d) nt) : Stt).run v e) (tm.set d v)
    by_cases hd : d < nt
    · rw [ble_true hd]
      have hd4 := Nat.lt_of_lt_of_le hd h.le
      show ER' nt ((sttE d).run v e) _
      rw [sttE_run d hd4]
      refine ⟨h.full.set _ _, h.le, fun t ht => ?_⟩
      rw [getE_updE t d v e (Nat.lt_of_lt_of_le ht h.le) hd4]
      unfold getU
      by_cases c : t = d
      · rw [if_pos c, c, Tr.get?_set_same]
        have := (h.full d).2 hd
        cases hg : tm.get? d with
        | none => rw [hg] at this; cases this
        | some u => rfl
      · rw [if_neg c, Tr.get?_set_ne _ _ _ _ c]; exact h.get t ht
    · rw [ble_false (by omega)]
      refine ⟨h.full.set _ _, h.le, fun t ht => ?_⟩
      unfold getU
      rw [Tr.get?_set_ne _ _ _ _ (by omega)]; exact h.get t ht

/-! ### Regions in the text's order -/

abbrev Kn := E → AHeap → R

structure Cl where
  run : CallFn → Kn → Kn

def guardA (v : AV) (b : Bool) (x y : R) : R := Bool.rec (motive := fun _ => R) y x (isB v b)

def itemsA (P : Program) (nt : Nat) (qs : List QI) : Cl := List.rec (motive := fun _ => Cl) ⟨fun _ k => k⟩
  (fun q _ ih => Option.rec (motive := fun _ => Cl)
    ⟨fun call k e H => (mkF P (opA nt) q.k).run call e H fun v H' => ih.run call k ((putA nt q.dst).run v e) H'⟩
    (fun g => ⟨fun call k e H => guardA ((opA nt (.tmp g.1)).run e) g.2 ((mkF P (opA nt) q.k).run call e H fun v H' => ih.run call k ((putA nt q.dst).run v e) H') (ih.run call k ((putA nt q.dst).run .undef e) H)⟩) q.g) qs

theorem itemsA_sim {P : Program} {nt : Nat} {call : CallFn} {r : AV × AHeap} {k : Kn} : ∀ (qs : List QI) {e : E} {tm : Tr AV} {H : AHeap}, ER' nt e tm → (itemsA P nt qs).run call k e H = some r →
    ∃ tm' H' e', itemsK P call qs tm H = some (tm', H') ∧ ER' nt e' tm' ∧ k e' H' = some r
  | [], e, tm, H, hr, h => ⟨tm, H, e, rfl, hr, h⟩
  | q :: l, e, tm, H, hr, h => by
    have hop : ∀ {c : Kv}, (mkF P (opA nt) q.k).run call e H c = some r → ∃ v H', opK P call q.k (Opnd.ev tm) H = some (v, H') ∧ c v H' = some r := fun {c} h => by
      rw [mkF_eq, opA_ev hr] at h
      cases ho : opK P call q.k (Opnd.ev tm) H with
      | none => rw [ho] at h; cases h
      | some p => rw [ho] at h; exact ⟨p.1, p.2, rfl, h⟩
    have hgo : (mkF P (opA nt) q.k).run call e H (fun v H' => (itemsA P nt l).run call k ((putA nt q.dst).run v e) H') = some r → wantK q.g tm = true → ∃ tm' H' e', itemsK P call (q :: l) tm H = some (tm', H') ∧ ER' nt e' tm' ∧ k e' H' = some r := fun h hw => by
      obtain ⟨v, H', ho, h⟩ := hop h
      obtain ⟨tm', H2, e', h1, h2, h3⟩ := itemsA_sim l (putA_run hr q.dst v) h
      refine ⟨tm', H2, e', ?_, h2, h3⟩
      simp only [itemsK, hw, cond_true, ho]
      exact h1
    cases hg : q.g with
    | none =>
      refine hgo ?_ (by rw [hg]; rfl)
      have : (itemsA P nt (q :: l)).run call k e H = (Option.rec (motive := fun _ => Cl)
        ⟨fun call k e H => (mkF P (opA nt) q.k).run call e H fun v H' => (itemsA P nt l).run call k ((putA nt q.dst).run v e) H'⟩
        (fun g => ⟨fun call k e H => guardA ((opA nt (.tmp g.1)).run e) g.2 ((mkF P (opA nt) q.k).run call e H fun v H' => (itemsA P nt l).run call k ((putA nt q.dst).run v e) H') ((itemsA P nt l).run call k ((putA nt q.dst).run .undef e) H)⟩) q.g : Cl).run call k e H := rfl
      rw [this, hg] at h
      exact h
    | some g =>
      have : (itemsA P nt (q :: l)).run call k e H = (Option.rec (motive := fun _ => Cl)
        ⟨fun call k e H => (mkF P (opA nt) q.k).run call e H fun v H' => (itemsA P nt l).run call k ((putA nt q.dst).run v e) H'⟩
        (fun g => ⟨fun call k e H => guardA ((opA nt (.tmp g.1)).run e) g.2 ((mkF P (opA nt) q.k).run call e H fun v H' => (itemsA P nt l).run call k ((putA nt q.dst).run v e) H') ((itemsA P nt l).run call k ((putA nt q.dst).run .undef e) H)⟩) q.g : Cl).run call k e H := rfl
      rw [this, hg] at h
      have h : guardA ((opA nt (.tmp g.1)).run e) g.2 ((mkF P (opA nt) q.k).run call e H fun v H' => (itemsA P nt l).run call k ((putA nt q.dst).run v e) H') ((itemsA P nt l).run call k ((putA nt q.dst).run .undef e) H) = some r := h
      rw [opA_run hr] at h
      have hw : wantK q.g tm = isB (getU tm g.1) g.2 := by rw [hg]; rfl
      have hev : Opnd.ev tm (.tmp g.1) = getU tm g.1 := rfl
      rw [hev] at h
      unfold guardA at h
      cases hb : isB (getU tm g.1) g.2 with
      | true => rw [hb] at h; exact hgo h (hw.trans hb)
      | false =>
        rw [hb] at h
        obtain ⟨tm', H2, e', h1, h2, h3⟩ := itemsA_sim l (putA_run hr q.dst .undef) h
        refine ⟨tm', H2, e', ?_, h2, h3⟩
        simp only [itemsK, hw, hb, cond_false]
        exact h1

/-! ### Regions whose order is open -/

structure E2 where
  a : E
  b : E

def opD (nt : Nat) (olds : List Nat) (x : Opnd) : Acc E2 := Opnd.rec (motive := fun _ => Acc E2)
  (fun t => Bool.rec (motive := fun _ => Acc E2)
    (Acc.rec (motive := fun _ => Acc E2) (fun f => ⟨fun p => f p.b⟩) (opA nt (.tmp t)))
    (Acc.rec (motive := fun _ => Acc E2) (fun f => ⟨fun p => f p.a⟩) (opA nt (.tmp t))) (memN t olds)) (fun v => ⟨fun _ => v⟩) (fun g => ⟨fun _ => .ptr g 0⟩) (fun f => ⟨fun _ => .fn f [] []⟩) x

theorem opD_run {nt : Nat} {e0 e : E} {tm0 tm : Tr AV} (h0 : ER' nt e0 tm0) (h : ER' nt e tm) (olds : List Nat) (x : Opnd) : (opD nt olds x).run ⟨e0, e⟩ = ev2 olds tm0 tm x := by
  cases x with
  | tmp t =>
    have h1 := opA_run h0 (.tmp t)
    have h2 := opA_run h (.tmp t)
    show (Bool.rec (motive := fun _ => Acc E2)
      (Acc.rec (motive := fun _ => Acc E2) (fun f => ⟨fun p => f p.b⟩) (opA nt (.tmp t)))
      (Acc.rec (motive := fun _ => Acc E2) (fun f => ⟨fun p => f p.a⟩) (opA nt (.tmp t))) (memN t olds) : Acc E2).run ⟨e0, e⟩ = cond (memN t olds) (getU tm0 t) (getU tm t)
    cases memN t olds with
    | true => exact h1
    | false => exact h2
  | _ => rfl

theorem opD_ev {nt : Nat} {e0 e : E} {tm0 tm : Tr AV} (h0 : ER' nt e0 tm0) (h : ER' nt e tm) (olds : List Nat) : (fun x => (opD nt olds x).run ⟨e0, e⟩) = ev2 olds tm0 tm := funext (opD_run h0 h olds)

/-- One step: its value and heap go on. -/
structure Sd where
  run : CallFn → E2 → AHeap → Kv → R

def stepA (P : Program) (nt : Nat) (d : DI) : Sd := Option.rec (motive := fun _ => Sd)
  ⟨(mkF P (opD nt d.olds) d.k).run⟩
  (fun g => ⟨fun call p H c => guardA ((opD nt d.olds (.tmp g.1)).run p) g.2 ((mkF P (opD nt d.olds) d.k).run call p H c) (c .undef H)⟩) d.g

theorem stepA_eq {P : Program} {nt : Nat} {e0 e : E} {tm0 tm : Tr AV} (h0 : ER' nt e0 tm0) (h : ER' nt e tm) (d : DI) (call : CallFn) (H : AHeap) (c : Kv) :
    (stepA P nt d).run call ⟨e0, e⟩ H c = ob2 (stepV P call d (ev2 d.olds tm0 tm) H) c := by
  have hop : (mkF P (opD nt d.olds) d.k).run call ⟨e0, e⟩ H c = ob2 (opK P call d.k (ev2 d.olds tm0 tm) H) c := by rw [mkF_eq, opD_ev h0 h]
  unfold stepA stepV
  cases d.g with
  | none => exact hop
  | some g =>
    show guardA ((opD nt d.olds (.tmp g.1)).run ⟨e0, e⟩) g.2 ((mkF P (opD nt d.olds) d.k).run call ⟨e0, e⟩ H c) (c .undef H) = ob2 (cond (isB (ev2 d.olds tm0 tm (.tmp g.1)) g.2) (opK P call d.k (ev2 d.olds tm0 tm) H) (some (.undef, H))) c
    rw [opD_run h0 h, hop]
    unfold guardA
    cases isB (ev2 d.olds tm0 tm (.tmp g.1)) g.2 <;> rfl

/-- A look again at what was read. -/
structure Ck where
  run : E2 → AHeap → Bool

def sameA (nt : Nat) (dst : Option Nat) (e : E) (v : AV) : Bool := Option.rec (motive := fun _ => Bool) true (fun t => AV.beq v ((opA nt (.tmp t)).run e)) dst

def chkA (nt : Nat) (d : DI) : Ck := Option.rec (motive := fun _ => Ck)
  (KOp.rec (motive := fun _ => Ck) (fun k => ⟨fun p H => Option.rec (motive := fun _ => Bool) false (fun v => sameA nt d.dst p.b v) (rdK k (fun x => (opD nt d.olds x).run p) H)⟩) (fun _ => ⟨fun _ _ => false⟩) (fun _ => ⟨fun _ _ => false⟩) (fun _ => ⟨fun _ _ => false⟩) ⟨fun _ _ => false⟩ d.k)
  (fun g => ⟨fun p H => Bool.rec (motive := fun _ => Bool) true (KOp.rec (motive := fun _ => Bool) (fun k => Option.rec (motive := fun _ => Bool) false (fun v => sameA nt d.dst p.b v) (rdK k (fun x => (opD nt d.olds x).run p) H)) (fun _ => false) (fun _ => false) (fun _ => false) false d.k) (isB ((opD nt d.olds (.tmp g.1)).run p) g.2)⟩) d.g

theorem sameA_eq {nt : Nat} {e : E} {tm : Tr AV} (h : ER' nt e tm) (dst : Option Nat) (v : AV) : sameA nt dst e v = sameD dst tm v := by
  cases dst with
  | none => rfl
  | some t =>
    show AV.beq v ((opA nt (.tmp t)).run e) = AV.beq v (getU tm t)
    rw [opA_run h]; rfl

theorem chkA_eq {nt : Nat} {e0 e : E} {tm0 tm : Tr AV} (h0 : ER' nt e0 tm0) (h : ER' nt e tm) (d : DI) (H : AHeap) : (chkA nt d).run ⟨e0, e⟩ H = chkV d (ev2 d.olds tm0 tm) tm H := by
  have key : ∀ k : KR, (Option.rec (motive := fun _ => Bool) false (fun v => sameA nt d.dst e v) (rdK k (fun x => (opD nt d.olds x).run ⟨e0, e⟩) H) : Bool) = (match rdK k (ev2 d.olds tm0 tm) H with
    | some v => sameD d.dst tm v
    | none => false) := fun k => by
    rw [opD_ev h0 h]
    cases rdK k (ev2 d.olds tm0 tm) H with
    | none => rfl
    | some v => exact sameA_eq h d.dst v
  unfold chkA chkV
  cases d.g with
  | none =>
    show (KOp.rec (motive := fun _ => Ck) _ _ _ _ _ d.k : Ck).run ⟨e0, e⟩ H = _
    cases d.k with
    | r k => exact key k
    | _ => rfl
  | some g =>
    show (Bool.rec (motive := fun _ => Bool) true (KOp.rec (motive := fun _ => Bool) (fun k => Option.rec (motive := fun _ => Bool) false (fun v => sameA nt d.dst e v) (rdK k (fun x => (opD nt d.olds x).run ⟨e0, e⟩) H)) (fun _ => false) (fun _ => false) (fun _ => false) false d.k) (isB ((opD nt d.olds (.tmp g.1)).run ⟨e0, e⟩) g.2) : Bool) = cond (isB (ev2 d.olds tm0 tm (.tmp g.1)) g.2) _ true
    rw [opD_run h0 h]
    cases isB (ev2 d.olds tm0 tm (.tmp g.1)) g.2 with
    | false => rfl
    | true =>
      cases d.k with
      | r k => exact key k
      | _ => rfl

def chksA (nt : Nat) (l : List DI) : Ck := List.rec (motive := fun _ => Ck) ⟨fun _ _ => true⟩ (fun d _ ih => ⟨fun p H => Bool.rec (motive := fun _ => Bool) false (ih.run p H) ((chkA nt d).run p H)⟩) l

theorem chksA_eq {nt : Nat} {e0 e : E} {tm0 tm : Tr AV} (h0 : ER' nt e0 tm0) (h : ER' nt e tm) (H : AHeap) : ∀ l : List DI, (chksA nt l).run ⟨e0, e⟩ H = chksV tm0 tm H l
  | [] => rfl
  | d :: r => by
    show (Bool.rec (motive := fun _ => Bool) false ((chksA nt r).run ⟨e0, e⟩ H) ((chkA nt d).run ⟨e0, e⟩ H) : Bool) = cond (chkV d (ev2 d.olds tm0 tm) tm H) (chksV tm0 tm H r) false
    rw [chkA_eq h0 h, chksA_eq h0 h H r]
    cases chkV d (ev2 d.olds tm0 tm) tm H <;> rfl

structure Dl where
  run : CallFn → E → Kn → Kn

def drawnA (P : Program) (nt : Nat) (L : List DE) : Dl := List.rec (motive := fun _ => Dl) ⟨fun _ _ k => k⟩
  (fun x _ ih => DE.rec (motive := fun _ => Dl)
    (fun d => ⟨fun call e0 k e H => (stepA P nt d).run call ⟨e0, e⟩ H fun v H' => ih.run call e0 k ((putA nt d.dst).run v e) H'⟩)
    (fun d chks => List.rec (motive := fun _ => Dl)
      ⟨fun call e0 k e H => (stepA P nt d).run call ⟨e0, e⟩ H fun v H' => ih.run call e0 k ((putA nt d.dst).run v e) H'⟩
      (fun c cs _ => ⟨fun call e0 k e H => (stepA P nt d).run call ⟨e0, e⟩ H fun v H' =>
        Bool.rec (motive := fun _ => R) none (ih.run call e0 k ((putA nt d.dst).run v e) H') ((chksA nt (c :: cs)).run ⟨e0, (putA nt d.dst).run v e⟩ H')⟩) chks) x) L

theorem drawnA_sim {P : Program} {nt : Nat} {call : CallFn} {r : AV × AHeap} {k : Kn} {e0 : E} {tm0 : Tr AV} (h0 : ER' nt e0 tm0) : ∀ (L : List DE) {e : E} {tm : Tr AV} {H : AHeap}, ER' nt e tm → (drawnA P nt L).run call e0 k e H = some r →
    ∃ tm' H' e', evD P call tm0 L tm H = some (tm', H') ∧ ER' nt e' tm' ∧ k e' H' = some r
  | [], e, tm, H, hr, h => ⟨tm, H, e, rfl, hr, h⟩
  | .q d :: l, e, tm, H, hr, h => by
    have h : (stepA P nt d).run call ⟨e0, e⟩ H (fun v H' => (drawnA P nt l).run call e0 k ((putA nt d.dst).run v e) H') = some r := h
    rw [stepA_eq h0 hr] at h
    simp only [evD]
    cases hs : stepV P call d (ev2 d.olds tm0 tm) H with
    | none => rw [hs] at h; cases h
    | some p =>
      rw [hs] at h
      exact drawnA_sim h0 l (putA_run hr d.dst p.1) h
  | .l d chks :: l, e, tm, H, hr, h => by
    have h : (stepA P nt d).run call ⟨e0, e⟩ H (fun v H' => Bool.rec (motive := fun _ => R) none ((drawnA P nt l).run call e0 k ((putA nt d.dst).run v e) H') ((chksA nt chks).run ⟨e0, (putA nt d.dst).run v e⟩ H')) = some r := by
      cases chks <;> exact h
    rw [stepA_eq h0 hr] at h
    simp only [evD]
    cases hs : stepV P call d (ev2 d.olds tm0 tm) H with
    | none => rw [hs] at h; cases h
    | some p =>
      rw [hs] at h
      have h : (Bool.rec (motive := fun _ => R) none ((drawnA P nt l).run call e0 k ((putA nt d.dst).run p.1 e) p.2) ((chksA nt chks).run ⟨e0, (putA nt d.dst).run p.1 e⟩ p.2) : R) = some r := h
      rw [chksA_eq h0 (putA_run hr d.dst p.1)] at h
      simp only
      cases hc : chksV tm0 (putK tm d.dst p.1) p.2 chks with
      | false => rw [hc] at h; cases h
      | true =>
        rw [hc] at h
        exact drawnA_sim h0 l (putA_run hr d.dst p.1) h

/-! ### Bodies -/

def setArgsA (l : List AV) (e : E) (i : Nat) : E := List.rec (motive := fun _ => E → Nat → E) (fun e _ => e) (fun v _ ih e i => ih ((sttE i).run v e) (Nat.succ i)) l e i

theorem setArgsA_get : ∀ (l : List AV) (e : E) (i t : Nat), i + l.length ≤ 400 → t < 400 → getE t (setArgsA l e i) = if i ≤ t ∧ t < i + l.length then (l[t - i]?).getD .undef else getE t e
  | [], e, i, t, _, _ => by
    rw [if_neg (by simp only [List.length_nil]; omega)]; rfl
  | v :: l, e, i, t, hl, ht => by
    show getE t (setArgsA l ((sttE i).run v e) (i + 1)) = _
    simp only [List.length_cons] at hl ⊢
    rw [setArgsA_get l _ _ _ (by omega) ht, sttE_run i (by omega), getE_updE t i v e ht (by omega)]
    by_cases c : t = i
    · subst c
      rw [if_neg (by omega), if_pos rfl, if_pos (by omega), Nat.sub_self]; rfl
    · rw [if_neg c]
      by_cases c2 : i + 1 ≤ t ∧ t < i + 1 + l.length
      · rw [if_pos c2, if_pos (by omega)]
        have : t - i = (t - (i + 1)) + 1 := by omega
        rw [this, List.getElem?_cons_succ]
      · rw [if_neg c2, if_neg (by omega)]

theorem args_ER {nt : Nat} {args : List AV} (ha : args.length ≤ nt) (hn : nt ≤ 400) : ER' nt (setArgsA args E0 0) (setArgs (Tr.rep nt .undef) 0 args) := by
  have hget : ∀ j, (setArgs (Tr.rep nt .undef) 0 args).get? j = if j < args.length then args[j]? else if j < nt then some .undef else none := fun j => by
    rw [setArgs_get, Tr.get?_rep]
    by_cases c : j < args.length
    · rw [if_pos (by omega), if_pos c, if_pos (by omega)]; rfl
    · rw [if_neg (by omega), if_neg c]
  refine ⟨fun j => ?_, hn, fun t ht => ?_⟩
  · rw [hget]
    by_cases c : j < args.length
    · rw [if_pos c, List.getElem?_eq_getElem c]; simp; omega
    · rw [if_neg c]
      by_cases c2 : j < nt <;> simp [c2]
  · rw [setArgsA_get _ _ _ _ (by omega) (by omega)]
    unfold getU
    rw [hget]
    by_cases c : t < args.length
    · rw [if_pos (by omega), if_pos c, List.getElem?_eq_getElem (by omega : t - 0 < args.length), List.getElem?_eq_getElem c]; rfl
    · rw [if_neg (by omega), if_neg c, if_pos ht, getE_E0 t (by omega)]

structure Kb where
  run : CallFn → (Nat → Kn) → Kn → Kn → Kn

def loopA (call : CallFn) (b : Kb) (ks : Nat → Kn) (kr : Kn) (N : Nat) : Kn := Nat.rec (motive := fun _ => Kn) (fun _ _ => none) (fun _ ih e H => b.run call ks kr ih e H) N

/-- Behind the rest of a body: the deferred body, in a frame of its own. -/
def dfrA (nt2 n : Nat) (cd : Kb) (call : CallFn) (vs : List AV) (kr : Kn) : Kn := fun e H =>
  Bool.rec (motive := fun _ => R) none (Bool.rec (motive := fun _ => R) none (cd.run call (fun _ _ _ => none) (fun _ H3 => kr e H3) (fun _ H3 => kr e H3) (setArgsA vs E0 0) H) (Nat.ble n nt2)) (Nat.ble nt2 400)

def bodyA (P : Program) (nt N : Nat) (c : KCode) : Kb := KCode.rec (motive := fun _ => Nat → Kb)
  (fun _ => ⟨fun _ _ _ k => k⟩)
  (fun _ _ a b nt => ⟨fun call ks kr k e H => (a nt).run call ks kr (fun e H => (b nt).run call ks kr k e H) e H⟩)
  (fun c _ _ a b nt => ⟨fun call ks kr k e H => onBool ((opA nt c).run e) ((a nt).run call ks kr k e H) ((b nt).run call ks kr k e H)⟩)
  (fun id _ c nt => ⟨fun call ks kr k e H => (c nt).run call (fun i e H => Bool.rec (motive := fun _ => R) (ks i e H) (k e H) (Nat.beq i id)) kr k e H⟩)
  (fun _ c nt => ⟨fun call ks kr _ e H => loopA call (c nt) ks kr N e H⟩)
  (fun id _ => ⟨fun _ ks _ _ e H => ks id e H⟩)
  (fun _ => ⟨fun _ _ kr _ e H => kr e H⟩)
  (fun qs nt => ⟨fun call _ _ k e H => (itemsA P nt qs).run call k e H⟩)
  (fun L nt => ⟨fun call _ _ k e H => (drawnA P nt L).run call e k e H⟩)
  (fun _ => ⟨fun _ _ _ _ _ _ => none⟩)
  (fun nt2 args _ _ cd b nt => ⟨fun call _ kr _ e H => (b nt).run call (fun _ _ _ => none) (dfrA nt2 args.length (cd nt2) call (evsA (accs (opA nt) args) e) kr) (dfrA nt2 args.length (cd nt2) call (evsA (accs (opA nt) args) e) kr) e H⟩) c nt

def contA (ks : Nat → Kn) (kr k : Kn) : Ex → Kn
  | .nrm => k
  | .exit i => ks i
  | .ret => kr

theorem bodyA_sim {P : Program} {N : Nat} {call : CallFn} {r : AV × AHeap} : ∀ (c : KCode) {nt : Nat} {ks : Nat → Kn} {kr k : Kn} {e : E} {tm : Tr AV} {H : AHeap}, ER' nt e tm → (bodyA P nt N c).run call ks kr k e H = some r →
    ∃ x tm' H' e', evK P call N c tm H = some (x, tm', H') ∧ ER' nt e' tm' ∧ contA ks kr k x e' H' = some r := by
  intro c
  induction c with
  | skip => intro nt ks kr k e tm H hr h; exact ⟨.nrm, tm, H, e, rfl, hr, h⟩
  | exit id => intro nt ks kr k e tm H hr h; exact ⟨.exit id, tm, H, e, rfl, hr, h⟩
  | ret => intro nt ks kr k e tm H hr h; exact ⟨.ret, tm, H, e, rfl, hr, h⟩
  | bad => intro nt ks kr k e tm H hr h; cases h
  | reg qs =>
    intro nt ks kr k e tm H hr h
    obtain ⟨tm', H', e', h1, h2, h3⟩ := itemsA_sim qs hr h
    exact ⟨.nrm, tm', H', e', by simp only [evK, h1], h2, h3⟩
  | dreg L =>
    intro nt ks kr k e tm H hr h
    obtain ⟨tm', H', e', h1, h2, h3⟩ := drawnA_sim hr L hr h
    exact ⟨.nrm, tm', H', e', by simp only [evK, h1], h2, h3⟩
  | seq a b iha ihb =>
    intro nt ks kr k e tm H hr h
    obtain ⟨x, tm', H', e', h1, h2, h3⟩ := iha hr (show (bodyA P nt N a).run call ks kr (fun e H => (bodyA P nt N b).run call ks kr k e H) e H = some r from h)
    cases x with
    | nrm =>
      obtain ⟨x2, tm2, H2, e2, g1, g2, g3⟩ := ihb h2 (show (bodyA P nt N b).run call ks kr k e' H' = some r from h3)
      exact ⟨x2, tm2, H2, e2, by simp only [evK, h1, g1], g2, g3⟩
    | exit i => exact ⟨.exit i, tm', H', e', by simp only [evK, h1], h2, h3⟩
    | ret => exact ⟨.ret, tm', H', e', by simp only [evK, h1], h2, h3⟩
  | cnd c a b iha ihb =>
    intro nt ks kr k e tm H hr h
    have h : onBool ((opA nt c).run e) ((bodyA P nt N a).run call ks kr k e H) ((bodyA P nt N b).run call ks kr k e H) = some r := h
    rw [opA_run hr, onBool_eq] at h
    simp only [evK]
    cases hv : Opnd.ev tm c <;> rw [hv] at h <;> (try cases h; done)
    rename_i t
    cases t with
    | true => exact iha hr h
    | false => exact ihb hr h
  | block id c ih =>
    intro nt ks kr k e tm H hr h
    obtain ⟨x, tm', H', e', h1, h2, h3⟩ := ih hr (show (bodyA P nt N c).run call (fun i e H => Bool.rec (motive := fun _ => R) (ks i e H) (k e H) (Nat.beq i id)) kr k e H = some r from h)
    cases x with
    | nrm => exact ⟨.nrm, tm', H', e', by simp only [evK, h1], h2, h3⟩
    | ret => exact ⟨.ret, tm', H', e', by simp only [evK, h1], h2, h3⟩
    | exit i =>
      have h3 : (Bool.rec (motive := fun _ => R) (ks i e' H') (k e' H') (Nat.beq i id) : R) = some r := h3
      cases hb : Nat.beq i id with
      | true => rw [hb] at h3; exact ⟨.nrm, tm', H', e', by simp only [evK, h1, hb, cond_true], h2, h3⟩
      | false => rw [hb] at h3; exact ⟨.exit i, tm', H', e', by simp only [evK, h1, hb, cond_false], h2, h3⟩
  | loop c ih =>
    intro nt ks kr k e tm H hr h
    have key : ∀ (n : Nat) (e : E) (tm : Tr AV) (H : AHeap), ER' nt e tm → loopA call (bodyA P nt N c) ks kr n e H = some r → ∃ x tm' H' e', loopK (evK P call N c) n tm H = some (x, tm', H') ∧ ER' nt e' tm' ∧ contA ks kr k x e' H' = some r := by
      intro n
      induction n with
      | zero => intro e tm H _ h; cases h
      | succ n ihn =>
        intro e tm H hr h
        obtain ⟨x, tm', H', e', h1, h2, h3⟩ := ih hr (show (bodyA P nt N c).run call ks kr (loopA call (bodyA P nt N c) ks kr n) e H = some r from h)
        cases x with
        | nrm =>
          obtain ⟨x2, tm2, H2, e2, g1, g2, g3⟩ := ihn e' tm' H' h2 h3
          exact ⟨x2, tm2, H2, e2, by simp only [loopK, h1, g1], g2, g3⟩
        | exit i => exact ⟨.exit i, tm', H', e', by simp only [loopK, h1], h2, h3⟩
        | ret => exact ⟨.ret, tm', H', e', by simp only [loopK, h1], h2, h3⟩
    obtain ⟨x, tm', H', e', h1, h2, h3⟩ := key N e tm H hr h
    exact ⟨x, tm', H', e', by simp only [evK]; exact h1, h2, h3⟩
  | dfr nt2 args cd b ihcd ihb =>
    intro nt ks kr k e tm H hr h
    have h : (bodyA P nt N b).run call (fun _ _ _ => none) (dfrA nt2 args.length (bodyA P nt2 N cd) call (evsA (accs (opA nt) args) e) kr) (dfrA nt2 args.length (bodyA P nt2 N cd) call (evsA (accs (opA nt) args) e) kr) e H = some r := h
    obtain ⟨x, tm', H', e', h1, h2, h3⟩ := ihb hr h
    have hd : isDone x = true ∧ dfrA nt2 args.length (bodyA P nt2 N cd) call (evsA (accs (opA nt) args) e) kr e' H' = some r := by
      cases x with
      | nrm => exact ⟨rfl, h3⟩
      | ret => exact ⟨rfl, h3⟩
      | exit i => cases h3
    obtain ⟨hx, hk⟩ := hd
    have hvs : evsA (accs (opA nt) args) e = evs (Opnd.ev tm) args := by
      rw [evsA_eq]
      congr 1
      exact funext (opA_run hr)
    rw [hvs] at hk
    unfold dfrA at hk
    cases hn : Nat.ble nt2 400 with
    | false => rw [hn] at hk; cases hk
    | true =>
      cases ha : Nat.ble args.length nt2 with
      | false => rw [hn, ha] at hk; cases hk
      | true =>
        rw [hn, ha] at hk
        have hk : (bodyA P nt2 N cd).run call (fun _ _ _ => none) (fun _ H3 => kr e' H3) (fun _ H3 => kr e' H3) (setArgsA (evs (Opnd.ev tm) args) E0 0) H' = some r := hk
        obtain ⟨x2, tm2, H2, e2, g1, g2, g3⟩ := ihcd (args_ER (by rw [evs_length]; exact Nat.le_of_ble_eq_true ha) (Nat.le_of_ble_eq_true hn)) hk
        cases x2 with
        | exit i => cases g3
        | nrm => exact ⟨.ret, tm', H2, e', by simp only [evK, h1]; rw [hx]; simp only [cond_true, g1]; rfl, h2, g3⟩
        | ret => exact ⟨.ret, tm', H2, e', by simp only [evK, h1]; rw [hx]; simp only [cond_true, g1]; rfl, h2, g3⟩

/-! ### Functions -/

structure Ff where
  run : CallFn → List AV → AHeap → R

def resA (nt : Nat) (r : KRes) (e : E) (H : AHeap) : Option AV := KRes.rec (motive := fun _ => Option AV) (fun t => some ((opA nt (.tmp t)).run e)) (fun sz t => aLoad sz H ((opA nt (.tmp t)).run e)) r

def finA (nt : Nat) (res : List KRes) : Kn := fun e H => ob (allM (fun r => resA nt r e H) res) fun vs => some (resV vs, H)

def mkFf (P : Program) (N : Nat) (kf : KFun) : Ff :=
  ⟨fun call args H => Bool.rec (motive := fun _ => R)
    (cond (Nat.ble args.length kf.nt) (finK kf.res (evK P call N kf.code (setArgs (Tr.rep kf.nt .undef) 0 args) H)) none)
    (Bool.rec (motive := fun _ => R) none ((bodyA P kf.nt N kf.code).run call (fun _ _ _ => none) (finA kf.nt kf.res) (finA kf.nt kf.res) (setArgsA args E0 0) H) (Nat.ble args.length kf.nt)) (Nat.ble kf.nt 400)⟩

theorem resA_eq {nt : Nat} {e : E} {tm : Tr AV} (h : ER' nt e tm) (H : AHeap) (r : KRes) : resA nt r e H = resK tm H r := by
  cases r with
  | tmp t => show some ((opA nt (.tmp t)).run e) = some (getU tm t); rw [opA_run h]; rfl
  | cell sz t => show aLoad sz H ((opA nt (.tmp t)).run e) = aLoad sz H (getU tm t); rw [opA_run h]; rfl

theorem mkFf_sim {P : Program} {N : Nat} {kf : KFun} {call : CallFn} {args : List AV} {H : AHeap} {r : AV × AHeap} (h : (mkFf P N kf).run call args H = some r) :
    Nat.ble args.length kf.nt = true ∧ finK kf.res (evK P call N kf.code (setArgs (Tr.rep kf.nt .undef) 0 args) H) = some r := by
  unfold mkFf at h
  simp only at h
  cases hn : Nat.ble kf.nt 400 with
  | false =>
    rw [hn] at h
    have h : cond (Nat.ble args.length kf.nt) (finK kf.res (evK P call N kf.code (setArgs (Tr.rep kf.nt .undef) 0 args) H)) none = some r := h
    cases ha : Nat.ble args.length kf.nt with
    | false => rw [ha] at h; cases h
    | true => rw [ha] at h; exact ⟨rfl, h⟩
  | true =>
    rw [hn] at h
    cases ha : Nat.ble args.length kf.nt with
    | false => rw [ha] at h; cases h
    | true =>
      rw [ha] at h
      refine ⟨rfl, ?_⟩
      have h : (bodyA P kf.nt N kf.code).run call (fun _ _ _ => none) (finA kf.nt kf.res) (finA kf.nt kf.res) (setArgsA args E0 0) H = some r := h
      have hn := Nat.le_of_ble_eq_true hn
      have ha := Nat.le_of_ble_eq_true ha
      have hget : ∀ j, (setArgs (Tr.rep kf.nt .undef) 0 args).get? j = if j < args.length then args[j]? else if j < kf.nt then some .undef else none := fun j => by
        rw [setArgs_get, Tr.get?_rep]
        by_cases c : j < args.length
        · rw [if_pos (by omega), if_pos c, if_pos (by omega)]; rfl
        · rw [if_neg (by omega), if_neg c]
      have hr : ER' kf.nt (setArgsA args E0 0) (setArgs (Tr.rep kf.nt .undef) 0 args) := by
        refine ⟨fun j => ?_, hn, fun t ht => ?_⟩
        · rw [hget]
          by_cases c : j < args.length
          · rw [if_pos c, List.getElem?_eq_getElem c]; simp; omega
          · rw [if_neg c]
            by_cases c2 : j < kf.nt <;> simp [c2]
        · rw [setArgsA_get _ _ _ _ (by omega) (by omega)]
          unfold getU
          rw [hget]
          by_cases c : t < args.length
          · rw [if_pos (by omega), if_pos c, List.getElem?_eq_getElem (by omega : t - 0 < args.length), List.getElem?_eq_getElem c]; rfl
          · rw [if_neg (by omega), if_neg c, if_pos ht, getE_E0 t (by omega)]
      obtain ⟨x, tm', H', e', h1, h2, h3⟩ := bodyA_sim kf.code hr h
      rw [h1]
      have hf : finA kf.nt kf.res e' H' = some r → finK kf.res (some (.nrm, tm', H')) = some r ∧ finK kf.res (some (.ret, tm', H')) = some r := fun h => by
        have e1 : (fun r => resA kf.nt r e' H') = resK tm' H' := funext (resA_eq h2 H')
        unfold finA at h
        rw [e1] at h
        unfold finK
        simp only [isDone, cond_true]
        cases hl : allM (resK tm' H') kf.res with
        | none => rw [hl] at h; cases h
        | some vs => rw [hl] at h; exact ⟨h, h⟩
      cases x with
      | nrm => exact (hf h3).1
      | ret => exact (hf h3).2
      | exit i => cases h3

/-- The table, made ready. -/
def tabF (P : Program) (N : Nat) (tab : Nat → Option KFun) (f : Nat) : Option Ff := Option.rec (motive := fun _ => Option Ff) none (fun k => some (mkFf P N k)) (tab f)

def evG (P : Program) (tab : Nat → Option KFun) (prim : Prims) (N n : Nat) : CallFn := Nat.rec (motive := fun _ => CallFn) (fun _ _ _ => none)
  (fun _ ih f args H => Option.rec (motive := fun _ => R) (ob (tabF P N tab f) fun ff => ff.run ih args H) (fun p => p args H) (prim f)) n

theorem evG_sound {P : Program} {base : Nat} {G : List Nat} {N : Nat} {prim : Prims} {tab : Nat → Option KFun} (hm : P.follows .mixedOrders = true) (hp : PrimOK P base G prim) (ht : TabKOK P G tab) : ∀ n, CallOK P base G (evG P tab prim N n) := by
  intro n
  induction n with
  | zero => intro f args H v H' h; cases h
  | succ n ih =>
    intro f args H v H' h
    have h : (Option.rec (motive := fun _ => R) (ob (tabF P N tab f) fun ff => ff.run (evG P tab prim N n) args H) (fun p => p args H) (prim f) : R) = some (v, H') := h
    cases hpf : prim f with
    | some p =>
      rw [hpf] at h
      exact hp f args H v H' (by simp only [hpf]; exact h)
    | none =>
      rw [hpf] at h
      have h : (ob (tabF P N tab f) fun ff => ff.run (evG P tab prim N n) args H) = some (v, H') := h
      unfold tabF at h
      cases htf : tab f with
      | none => rw [htf] at h; cases h
      | some kf =>
        rw [htf] at h
        have h : (mkFf P N kf).run (evG P tab prim N n) args H = some (v, H') := h
        obtain ⟨h1, h2⟩ := mkFf_sim h
        exact body_sound hm ih (ht f kf htf) h1 h2

end
end Go.Ab
