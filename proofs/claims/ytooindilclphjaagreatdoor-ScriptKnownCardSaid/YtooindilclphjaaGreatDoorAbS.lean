/- Bodies and functions. -/
import Derived.Test.YtooindilclphjaaGreatDoorAbR
import Derived.Laws.Sem
import Derived.Defers
namespace Go.Ab
noncomputable section

inductive Ex where
  | nrm
  | exit (id : Nat)
  | ret

def Ex.out : Ex → Exit
  | .nrm => .normal
  | .exit i => .exit i
  | .ret => .ret

inductive KCode where
  | skip
  | seq (a b : KCode)
  | cnd (c : Opnd) (a b : KCode)
  | block (id : Nat) (c : KCode)
  | loop (c : KCode)
  | exit (id : Nat)
  | ret
  | reg (qs : List QI)
  | dreg (L : List DE)
  | bad
  | dfr (nt : Nat) (args : List Opnd) (cd b : KCode)

inductive KRes where
  | tmp (t : Nat)
  | cell (sz : Option Nat) (t : Nat)

structure KFun where
  nt : Nat
  res : List KRes
  code : KCode

def compK (P : Program) (G : List Nat) : Code → Option KCode
  | .skip => some .skip
  | .seq a b => match compK P G a with
    | some x => match compK P G b with
      | some y => some (.seq x y)
      | none => none
    | none => none
  | .cond c a b => match opnd G c with
    | some c => match compK P G a with
      | some x => match compK P G b with
        | some y => some (.cnd c x y)
        | none => none
      | none => none
    | none => none
  | .block id c => match compK P G c with
    | some x => some (.block id x)
    | none => none
  | .loop c => match compK P G c with
    | some x => some (.loop x)
    | none => none
  | .exit id => some (.exit id)
  | .ret => some .ret
  | .region _ ops false => match allM (compQ P G ops) ops.toList with
    | some qs => some (.reg qs)
    | none => none
  | .region _ ops true => match compD P G ops with
    | some L => some (.dreg L)
    | none => none
  | _ => some .bad

def compRes (P : Program) : ResultVar → Option KRes
  | .tmp t => some (.tmp t)
  | .cell a t => (partSz P t).map fun sz => .cell sz a

def compF0 (P : Program) (G : List Nat) (f : Nat) : Option KFun := match P.funcs[f]? with
  | none => none
  | some fn => match fn.body with
    | none => none
    | some c => cond (fn.name == "runtime.NumGoroutine") none (match compK P G c with
      | some k => match allM (compRes P) fn.results.toList with
        | some rs => some ⟨fn.ntmps, rs, k⟩
        | none => none
      | none => none)

/-- A plain call that is deferred, as a region's last operation. -/
def dfrK (G : List Nat) (o : Oper) : Option (Nat × List Opnd) := match o.guard, o.dst, o.op with
  | none, none, .defer { callee := .value (.func f), args, argTypes := _ } => match allM (opnd G) args.toList with
    | some l => some (f, l)
    | none => none
  | _, _, _ => none

def dfrLast (G : List Nat) : Code → Option (Nat × List Opnd)
  | .region _ ops false => match ops.toList.getLast? with
    | some o => dfrK G o
    | none => none
  | _ => none

def hasD (G : List Nat) : Code → Bool
  | .seq a b => match dfrLast G a with
    | some _ => true
    | none => hasD G b
  | _ => false

def dfrQs (P : Program) (G : List Nat) : Code → Option (List QI)
  | .region _ ops false => allM (compQ P G ops) ops.toList.dropLast
  | _ => none

/-- A body with one deferred call on its spine. -/
def compSW (P : Program) (G : List Nat) (ck : Code → Option KCode) (cf : Nat → Option KFun) : Code → Option KCode
  | .seq a b => match dfrLast G a with
    | some (f, l) => match dfrQs P G a with
      | some qs => match cf f with
        | some kf => match kf.res with
          | [] => match ck b with
            | some kb => cond (Nat.ble l.length kf.nt) (some (.seq (.reg qs) (.dfr kf.nt l kf.code kb))) none
            | none => none
          | _ => none
        | none => none
      | none => none
    | none => match compSW P G ck cf b with
      | some kb => match ck a with
        | some ka => some (.seq ka kb)
        | none => none
      | none => none
  | _ => none

def compFD (P : Program) (G : List Nat) (f : Nat) : Option KFun := match P.funcs[f]? with
  | none => none
  | some fn => match fn.body with
    | none => none
    | some c => cond (fn.name == "runtime.NumGoroutine") none (match compSW P G (compK P G) (compF0 P G) c with
      | some k => match allM (compRes P) fn.results.toList with
        | some rs => some ⟨fn.ntmps, rs, k⟩
        | none => none
      | none => none)

def bodyD (P : Program) (G : List Nat) (f : Nat) : Bool := match P.funcs[f]? with
  | none => false
  | some fn => match fn.body with
    | none => false
    | some c => hasD G c

def compF (P : Program) (G : List Nat) (f : Nat) : Option KFun := cond (bodyD P G f) (compFD P G f) (compF0 P G f)

abbrev Out := Option (Ex × Tr AV × AHeap)

def loopK (body : Tr AV → AHeap → Out) : Nat → Tr AV → AHeap → Out
  | 0, _, _ => none
  | n + 1, tm, H => match body tm H with
    | some (e, tm', H') => match e with
      | .nrm => loopK body n tm' H'
      | e => some (e, tm', H')
    | none => none

def setArgs (tm : Tr AV) : Nat → List AV → Tr AV
  | _, [] => tm
  | i, v :: r => setArgs (tm.set i v) (Nat.succ i) r

def isDone : Ex → Bool
  | .exit _ => false
  | _ => true

def evK (P : Program) (call : CallFn) (N : Nat) : KCode → Tr AV → AHeap → Out
  | .skip, tm, H => some (.nrm, tm, H)
  | .seq a b, tm, H => match evK P call N a tm H with
    | some (e, tm', H') => match e with
      | .nrm => evK P call N b tm' H'
      | e => some (e, tm', H')
    | none => none
  | .cnd c a b, tm, H => match c.ev tm with
    | .bool t => cond t (evK P call N a tm H) (evK P call N b tm H)
    | _ => none
  | .block id c, tm, H => match evK P call N c tm H with
    | some (e, tm', H') => match e with
      | .exit i => cond (Nat.beq i id) (some (.nrm, tm', H')) (some (.exit i, tm', H'))
      | e => some (e, tm', H')
    | none => none
  | .loop c, tm, H => loopK (evK P call N c) N tm H
  | .exit id, tm, H => some (.exit id, tm, H)
  | .ret, tm, H => some (.ret, tm, H)
  | .reg qs, tm, H => match itemsK P call qs tm H with
    | some (tm', H') => some (.nrm, tm', H')
    | none => none
  | .dreg L, tm, H => match evD P call tm L tm H with
    | some (tm', H') => some (.nrm, tm', H')
    | none => none
  | .bad, _, _ => none
  | .dfr nt args cd b, tm, H => match evK P call N b tm H with
    | some (e, tm', H') => cond (isDone e) (match evK P call N cd (setArgs (Tr.rep nt .undef) 0 (evs (Opnd.ev tm) args)) H' with
      | some (e2, _, H2) => cond (isDone e2) (some (.ret, tm', H2)) none
      | none => none) none
    | none => none

def resK (tm : Tr AV) (H : AHeap) : KRes → Option AV
  | .tmp t => some (getU tm t)
  | .cell sz t => aLoad sz H (getU tm t)

def resV : List AV → AV
  | [v] => v
  | vs => .tup vs

def finK (res : List KRes) (o : Out) : Option (AV × AHeap) := match o with
  | some (e, tm, H) => cond (isDone e) (match allM (resK tm H) res with
    | some vs => some (resV vs, H)
    | none => none) none
  | none => none

abbrev Prims := Nat → Option (List AV → AHeap → Option (AV × AHeap))

def evF (P : Program) (G : List Nat) (prim : Prims) (N : Nat) : Nat → CallFn
  | 0, _, _, _ => none
  | n + 1, f, args, H => match prim f with
    | some p => p args H
    | none => match compF P G f with
      | none => none
      | some kf => cond (Nat.ble args.length kf.nt) (finK kf.res (evK P (evF P G prim N n) N kf.code (setArgs (Tr.rep kf.nt .undef) 0 args) H)) none

section
variable {P : Program} {base : Nat} {G : List Nat} {call : CallFn} {N : Nat}
variable {ρ₀ : Ren} {H₀ : AHeap} {w₀ : World} {d0 : List Deferred}

theorem wp_loop_n {Q : Exit → Act → World → Prop} {c : Code} (I : Nat → Act → World → Prop) {n : Nat} {a : Act} {w : World} (h₀ : I n a w)
    (round : ∀ n a w, I n a w → c.wp P (Exit.then (fun a' w' => ∃ m, m < n ∧ I m a' w') Q) a w) : (Code.loop c).wp P Q a w := by
  intro b k cs
  have key : ∀ n a w, I n a w →
      ∃ e a' w', Q e a' w' ∧ Arrives P (lone (b.at a (.code c :: .inLoop c :: k)) cs w) b k cs e a' w' := by
    intro n
    induction n using Nat.strongRecOn with
    | _ n ih =>
      intro a w hI
      obtain ⟨e, a₁, w₁, hq, harr⟩ := round n a w hI b (.inLoop c :: k) cs
      cases e with
      | normal =>
        obtain ⟨m, hlt, hI₁⟩ := hq
        obtain ⟨e₂, a₂, w₂, hq₂, harr₂⟩ := ih m hlt a₁ w₁ hI₁
        exact ⟨e₂, a₂, w₂, hq₂, .of_steps (Steps.trans harr (.one step_inLoop)) harr₂⟩
      | exit id => exact ⟨_, a₁, w₁, hq, .pass (x := .inLoop c) rfl (fun _ _ => .inl (by simp)) harr⟩
      | goto l => exact ⟨_, a₁, w₁, hq, .pass (x := .inLoop c) rfl (fun _ _ => .inl (by simp)) harr⟩
      | ret => exact ⟨_, a₁, w₁, hq, .pass (x := .inLoop c) rfl (fun _ _ => .inl (by simp)) harr⟩
      | panic ch => exact ⟨_, a₁, w₁, hq, .pass (x := .inLoop c) rfl (fun _ _ => .inl (by simp)) harr⟩
      | outgrown => exact ⟨_, a₁, w₁, hq, .pass (x := .inLoop c) rfl (fun _ _ => .inl (by simp)) harr⟩
  obtain ⟨e, a', w', hq, harr⟩ := key n a w h₀
  exact ⟨e, a', w', hq, .of_steps (.one step_loop) harr⟩

theorem evK_wp (hm : P.follows .mixedOrders = true) (hcall : CallOK P base G call) : ∀ (c : Code) {kc : KCode} {ρ : Ren} {tm tm' : Tr AV} {H H' : AHeap} {a : Act} {w : World} {e : Ex} {Q : Exit → Act → World → Prop},
    compK P G c = some kc → SR P base G ρ₀ H₀ w₀ d0 ρ tm H a w → evK P call N kc tm H = some (e, tm', H') →
    (∀ ρ' a' w', SR P base G ρ₀ H₀ w₀ d0 ρ' tm' H' a' w' → Q e.out a' w') → c.wp P Q a w := by
  intro c
  induction c with
  | skip =>
    intro kc ρ tm tm' H H' a w e Q hc hs h hQ
    cases hc; cases h
    exact wp_skip (hQ _ _ _ hs)
  | exit id =>
    intro kc ρ tm tm' H H' a w e Q hc hs h hQ
    cases hc; cases h
    exact wp_exit (hQ _ _ _ hs)
  | ret =>
    intro kc ρ tm tm' H H' a w e Q hc hs h hQ
    cases hc; cases h
    exact wp_ret (hQ _ _ _ hs)
  | region id ops draw =>
    intro kc ρ tm tm' H H' a w e Q hc hs h hQ
    cases draw with
    | false =>
      simp only [compK] at hc
      cases hq : allM (compQ P G ops) ops.toList with
      | none => rw [hq] at hc; cases hc
      | some qs =>
        rw [hq] at hc; cases hc
        simp only [evK] at h
        cases hi : itemsK P call qs tm H with
        | none => rw [hi] at h; cases h
        | some x =>
          obtain ⟨tm1, H1⟩ := x
          rw [hi] at h; cases h
          refine wp_region ?_
          exact items_wp hcall ops.toList qs (List.range ops.size) (by simp) (fun j i o h1 h2 => by
            rw [List.getElem?_range] at h1
            · cases h1; simpa using h2
            · have := lt_of_get (a := ops) (k := j) (x := o) (by simpa using h2)
              exact this) hq hs hi hQ
    | true =>
      simp only [compK] at hc
      cases hq : compD P G ops with
      | none => rw [hq] at hc; cases hc
      | some L =>
        rw [hq] at hc; cases hc
        simp only [evK] at h
        cases hi : evD P call tm L tm H with
        | none => rw [hi] at h; cases h
        | some x =>
          obtain ⟨tm1, H1⟩ := x
          rw [hi] at h; cases h
          exact drawn_wp (_ds := true) hm hq hcall hs hi hQ
  | seq x y ihx ihy =>
    intro kc ρ tm tm' H H' a w e Q hc hs h hQ
    simp only [compK] at hc
    cases hx : compK P G x with
    | none => rw [hx] at hc; cases hc
    | some kx =>
      cases hy : compK P G y with
      | none => rw [hx, hy] at hc; cases hc
      | some ky =>
        rw [hx, hy] at hc; cases hc
        simp only [evK] at h
        cases h1 : evK P call N kx tm H with
        | none => rw [h1] at h; cases h
        | some r =>
          obtain ⟨e1, tm1, H1⟩ := r
          rw [h1] at h
          simp only at h
          refine wp_seq (ihx hx hs h1 fun ρ' a' w' hs' => ?_)
          cases e1 with
          | nrm => exact ihy hy hs' h hQ
          | exit i => cases h; exact hQ _ _ _ hs'
          | ret => cases h; exact hQ _ _ _ hs'
  | cond c x y ihx ihy =>
    intro kc ρ tm tm' H H' a w e Q hc hs h hQ
    simp only [compK] at hc
    cases hcc : opnd G c with
    | none => rw [hcc] at hc; cases hc
    | some kcc =>
      cases hx : compK P G x with
      | none => rw [hcc, hx] at hc; cases hc
      | some kx =>
        cases hy : compK P G y with
        | none => rw [hcc, hx, hy] at hc; cases hc
        | some ky =>
          rw [hcc, hx, hy] at hc; cases hc
          simp only [evK] at h
          have hv := EvR.of_TR hs.tr hs.gl c kcc hcc
          simp only at hv
          split at h
          · rename_i t ht
            rw [ht] at hv
            have hv : a.eval c = .bool t := hv
            refine wp_cond hv ?_
            cases t with
            | true => exact ihx hx hs h hQ
            | false => exact ihy hy hs h hQ
          · cases h
  | block id x ihx =>
    intro kc ρ tm tm' H H' a w e Q hc hs h hQ
    simp only [compK] at hc
    cases hx : compK P G x with
    | none => rw [hx] at hc; cases hc
    | some kx =>
      rw [hx] at hc; cases hc
      simp only [evK] at h
      cases h1 : evK P call N kx tm H with
      | none => rw [h1] at h; cases h
      | some r =>
        obtain ⟨e1, tm1, H1⟩ := r
        rw [h1] at h
        simp only at h
        refine wp_block (ihx hx hs h1 fun ρ' a' w' hs' => ?_)
        cases e1 with
        | nrm => cases h; exact hQ _ _ _ hs'
        | ret => cases h; exact hQ _ _ _ hs'
        | exit i =>
          simp only [Ex.out, Exit.inBlock]
          have h : (cond (Nat.beq i id) (some (Ex.nrm, tm1, H1)) (some (Ex.exit i, tm1, H1)) : Out) = some (e, tm', H') := h
          cases hb : Nat.beq i id with
          | true =>
            rw [hb] at h; cases h
            rw [if_pos (Nat.eq_of_beq_eq_true hb)]
            exact hQ _ _ _ hs'
          | false =>
            rw [hb] at h; cases h
            rw [if_neg (Nat.ne_of_beq_eq_false hb)]
            exact hQ _ _ _ hs'
  | loop x ihx =>
    intro kc ρ tm tm' H H' a w e Q hc hs h hQ
    simp only [compK] at hc
    cases hx : compK P G x with
    | none => rw [hx] at hc; cases hc
    | some kx =>
      rw [hx] at hc; cases hc
      simp only [evK] at h
      refine wp_loop_n (fun n a w => ∃ ρ tm H, SR P base G ρ₀ H₀ w₀ d0 ρ tm H a w ∧ loopK (evK P call N kx) n tm H = some (e, tm', H')) (n := N) ⟨ρ, tm, H, hs, h⟩ ?_
      rintro n a w ⟨ρ, tm, H, hs, h⟩
      cases n with
      | zero => cases h
      | succ n =>
        simp only [loopK] at h
        cases h1 : evK P call N kx tm H with
        | none => rw [h1] at h; cases h
        | some r =>
          obtain ⟨e1, tm1, H1⟩ := r
          rw [h1] at h
          simp only at h
          refine ihx hx hs h1 fun ρ' a' w' hs' => ?_
          cases e1 with
          | nrm => exact ⟨n, Nat.lt_succ_self n, ρ', tm1, H1, hs', h⟩
          | ret => cases h; exact hQ _ _ _ hs'
          | exit i => cases h; exact hQ _ _ _ hs'
  | _ => intro kc ρ tm tm' H H' a w e Q hc hs h hQ; cases hc; cases h

theorem resK_sound {ρ : Ren} {tm : Tr AV} {H : AHeap} {a : Act} {w : World} (hr : HR base ρ H w) (ht : TR ρ tm a) (hg : Gl G ρ) {r : ResultVar} {k : KRes} {v : AV} (hc : compRes P r = some k) (h : resK tm H k = some v) :
    ∃ v', ((match r with
      | .tmp t => pure (a.tmps.getD t undef)
      | .cell x t => do loadVar t (← asAddr (a.tmps.getD x undef))) : Sem Value).run P w = .ok v' w ∧ VR ρ v v' := by
  cases r with
  | tmp t =>
    cases hc; cases h
    exact ⟨_, rfl, EvR.of_TR ht hg (.tmp t) _ rfl⟩
  | cell x t =>
    simp only [compRes, Option.map_eq_some_iff] at hc
    obtain ⟨sz, hsz, rfl⟩ := hc
    simp only [resK] at h
    have hx : VR ρ (getU tm x) (a.tmps.getD x undef) := EvR.of_TR ht hg (.tmp x) _ rfl
    cases hp : getU tm x <;> rw [hp] at h hx <;> (try cases h; done)
    obtain ⟨L, hb, e⟩ := hx
    obtain ⟨v', e1, e2⟩ := aLoad_var (P := P) hr hsz h hb
    refine ⟨v', ?_, e2⟩
    simp only
    rw [e]
    exact e1

theorem results_sound {ρ : Ren} {tm : Tr AV} {H : AHeap} {a : Act} {w : World} (hr : HR base ρ H w) (ht : TR ρ tm a) (hg : Gl G ρ) {fn : Func} {ks : List KRes} {vs : List AV} (hc : allM (compRes P) fn.results.toList = some ks) (h : allM (resK tm H) ks = some vs) :
    ∃ v', (results fn a.tmps).run P w = .ok v' w ∧ VR ρ (resV vs) v' := by
  have key : ∀ (l : List ResultVar) (ks : List KRes) (vs : List AV), allM (compRes P) l = some ks → allM (resK tm H) ks = some vs →
      ∃ vs', (l.mapM (fun r => ((match r with
      | .tmp t => pure (a.tmps.getD t undef)
      | .cell x t => do loadVar t (← asAddr (a.tmps.getD x undef))) : Sem Value))).run P w = .ok vs' w ∧ VRs ρ vs vs' := by
    intro l
    induction l with
    | nil => intro ks vs h1 h2; cases h1; cases h2; exact ⟨[], rfl, rfl⟩
    | cons r l ih =>
      intro ks vs h1 h2
      simp only [allM] at h1
      cases hr1 : compRes P r with
      | none => rw [hr1] at h1; cases h1
      | some k =>
        rw [hr1] at h1
        cases hl1 : allM (compRes P) l with
        | none => rw [hl1] at h1; cases h1
        | some ks' =>
          rw [hl1] at h1; cases h1
          simp only [allM] at h2
          cases hv : resK tm H k with
          | none => rw [hv] at h2; cases h2
          | some v =>
            rw [hv] at h2
            cases hl2 : allM (resK tm H) ks' with
            | none => rw [hl2] at h2; cases h2
            | some vs' =>
              rw [hl2] at h2; cases h2
              obtain ⟨v', e1, e2⟩ := resK_sound hr ht hg hr1 hv
              obtain ⟨us, e3, e4⟩ := ih ks' vs' hl1 hl2
              refine ⟨v' :: us, ?_, v', us, rfl, e2, e4⟩
              rw [List.mapM_cons, run_bind_ok e1, run_bind_ok e3]
              rfl
  obtain ⟨us, e1, e2⟩ := key _ _ _ hc h
  unfold results
  rw [Array.mapM_eq_mapM_toList, map_eq_pure_bind]
  have e1' : ((fn.results.toList.mapM (fun r => ((match r with
      | .tmp t => pure (a.tmps.getD t undef)
      | .cell x t => do loadVar t (← asAddr (a.tmps.getD x undef))) : Sem Value))) >>= fun l => pure l.toArray).run P w = .ok us.toArray w := by
    rw [run_bind_ok e1]; rfl
  refine ⟨_, run_bind_ok (a := us.toArray) (w' := w) (by exact e1'), ?_⟩
  match vs, us, e2 with
  | [], us, e2 => cases e2; exact ⟨[], rfl, rfl⟩
  | [v], us, ⟨y, s, e, h1, h2⟩ => subst e; cases h2; exact h1
  | v :: v2 :: r, us, ⟨y, s, e, h1, y2, s2, e2', h2, h3⟩ =>
    subst e; subst e2'
    have : ¬ ((y :: y2 :: s2).toArray.size = 1) := by simp
    rw [dif_neg this]
    exact ⟨_, rfl, y, _, rfl, h1, y2, s2, rfl, h2, h3⟩

theorem setArgs_get : ∀ (l : List AV) (tm : Tr AV) (i j : Nat), (setArgs tm i l).get? j = if i ≤ j ∧ j < i + l.length then (tm.get? j).bind (fun _ => l[j - i]?) else tm.get? j
  | [], tm, i, j => by
    have : ¬ (i ≤ j ∧ j < i + 0) := by omega
    simp only [setArgs, List.length_nil]
    rw [if_neg this]
  | v :: r, tm, i, j => by
    simp only [setArgs]
    rw [setArgs_get r]
    by_cases e : j = i
    · subst e
      rw [if_neg (by omega), if_pos (by simp), Tr.get?_set_same]
      cases tm.get? j <;> simp
    · rw [Tr.get?_set_ne _ _ _ _ e]
      by_cases c : i.succ ≤ j ∧ j < i.succ + r.length
      · rw [if_pos c, if_pos (by simp; omega)]
        have : j - i = (j - i.succ) + 1 := by omega
        rw [this, List.getElem?_cons_succ]
      · rw [if_neg c, if_neg (by simp; omega)]

theorem args_TR {ρ : Ren} {args : List AV} {args' : List Value} {n : Nat} (h : VRs ρ args args') (hn : args.length ≤ n) :
    TR ρ (setArgs (Tr.rep n .undef) 0 args) ⟨List.toArray args' ++ Array.replicate (n - (List.toArray args').size) undef, []⟩ := by
  have hl := h.length
  have hg : ∀ j, (setArgs (Tr.rep n .undef) 0 args).get? j = if j < args.length then args[j]? else if j < n then some .undef else none := fun j => by
    rw [setArgs_get, Tr.get?_rep]
    by_cases c : j < args.length
    · rw [if_pos (by omega), if_pos c, if_pos (by omega)]; rfl
    · rw [if_neg (by omega), if_neg c]
  have hsz : (List.toArray args' ++ Array.replicate (n - (List.toArray args').size) undef).size = n := by simp; omega
  refine ⟨fun j => ?_, fun t v hv => ?_⟩
  · show _ ↔ j < (List.toArray args' ++ Array.replicate (n - (List.toArray args').size) undef).size
    rw [hsz, hg]
    by_cases c : j < args.length
    · rw [if_pos c, List.getElem?_eq_getElem c]; simp; omega
    · rw [if_neg c]
      by_cases c2 : j < n
      · simp [c2]
      · simp [c2]
  · rw [hg] at hv
    show ∃ v', (List.toArray args' ++ Array.replicate (n - (List.toArray args').size) undef)[t]? = some v' ∧ _
    by_cases c : t < args.length
    · rw [if_pos c] at hv
      obtain ⟨y, e1, e2⟩ := h.get hv
      refine ⟨y, ?_, e2⟩
      rw [Array.getElem?_append_left (by simp; omega)]
      simpa using e1
    · rw [if_neg c] at hv
      by_cases c2 : t < n
      · rw [if_pos c2] at hv; cases hv
        refine ⟨undef, ?_, undef_VR⟩
        have hsz' : (List.toArray args').size = args'.length := by simp
        rw [Array.getElem?_append_right (by omega), Array.getElem?_replicate, if_pos (by omega)]
      · rw [if_neg c2] at hv; cases hv

def PrimOK (P : Program) (base : Nat) (G : List Nat) (prim : Prims) : Prop := CallOK P base G fun f args H => match prim f with
  | some p => p args H
  | none => none

theorem body_sound0 {call : CallFn} {f : Nat} {kf : KFun} {args : List AV} {H H' : AHeap} {v : AV} (hm : P.follows .mixedOrders = true) (ih : CallOK P base G call) (hcf : compF0 P G f = some kf) (hle : Nat.ble args.length kf.nt = true)
    (h : finK kf.res (evK P call N kf.code (setArgs (Tr.rep kf.nt .undef) 0 args) H) = some (v, H')) : Callable P f ∧
  ∀ ρ w args', HR base ρ H w → Gl G ρ → VRs ρ args args' → Calls P f (List.toArray args') w fun e w' => ∃ ρ' v', e = .returned v' ∧ VR ρ' v v' ∧ HR base ρ' H' w' ∧ Ext ρ H w ρ' H' w' := by
  have hle' := Nat.le_of_ble_eq_true hle
  unfold compF0 at hcf
  cases hfn : P.funcs[f]? with
  | none => rw [hfn] at hcf; cases hcf
  | some fn =>
    rw [hfn] at hcf
    simp only at hcf
    cases hb : fn.body with
    | none => rw [hb] at hcf; cases hcf
    | some c =>
      rw [hb] at hcf
      simp only at hcf
      cases hnm : (fn.name == "runtime.NumGoroutine") with
      | true => rw [hnm] at hcf; cases hcf
      | false =>
        rw [hnm] at hcf
        simp only [cond_false] at hcf
        cases hck : compK P G c with
        | none => rw [hck] at hcf; cases hcf
        | some k =>
          rw [hck] at hcf
          simp only at hcf
          cases hrs : allM (compRes P) fn.results.toList with
          | none => rw [hrs] at hcf; cases hcf
          | some rs =>
            rw [hrs] at hcf; cases hcf
            simp only at h hle'
            refine ⟨⟨fn, hfn, by rw [hb]; rfl, hnm⟩, fun ρ w args' hr hg ha => ?_⟩
            unfold finK at h
            cases hev : evK P (call) N k (setArgs (Tr.rep fn.ntmps .undef) 0 args) H with
            | none => rw [hev] at h; cases h
            | some r =>
              obtain ⟨e, tm, H1⟩ := r
              rw [hev] at h
              simp only at h
              have hpost : ∀ ρ' a' w', SR P base G ρ H w [] ρ' tm H1 a' w' → ∀ vs, allM (resK tm H1) rs = some vs → some (resV vs, H1) = some (v, H') →
                  a'.defers = [] ∧ ∃ v', (results fn a'.tmps).run P w' = .ok v' w' ∧ ∃ ρ'' u, (Ending.returned v') = .returned u ∧ VR ρ'' v u ∧ HR base ρ'' H' w' ∧ Ext ρ H w ρ'' H' w' := by
                intro ρ' a' w' hs vs hvs he
                cases he
                obtain ⟨v', e1, e2⟩ := results_sound hs.hr hs.tr hs.gl hrs hvs
                exact ⟨hs.defers, v', e1, ρ', v', rfl, e2, hs.hr, hs.ext⟩
              refine calls_of_wp hfn hb (evK_wp (ρ₀ := ρ) (H₀ := H) (w₀ := w) (d0 := []) hm ih c hck (ρ := ρ) ⟨args_TR ha hle', hr, hg, Ext.refl _ _ _, rfl⟩ hev fun ρ' a' w' hs => ?_)
              cases e with
              | exit i => cases h
              | nrm =>
                simp only [isDone, cond_true] at h
                cases hvs : allM (resK tm H1) rs with
                | none => rw [hvs] at h; cases h
                | some vs => rw [hvs] at h; exact hpost ρ' a' w' hs vs hvs h
              | ret =>
                simp only [isDone, cond_true] at h
                cases hvs : allM (resK tm H1) rs with
                | none => rw [hvs] at h; cases h
                | some vs => rw [hvs] at h; exact hpost ρ' a' w' hs vs hvs h


/-- A region in the text's order, with more behind it. -/
theorem items_wpJ {Q : Exit → Act → World → Prop} {call : CallFn} {ops : Array Oper} (hcall : CallOK P base G call) {ρ₀ : Ren} {H₀ : AHeap} {w₀ : World} {d : List Deferred} {tm' : Tr AV} {H' : AHeap} {js : List Nat} :
    ∀ (l : List Oper) (qs : List QI) (is : List Nat), l.length = is.length → (∀ (j i : Nat) (o : Oper), is[j]? = some i → l[j]? = some o → ops[i]? = some o) → allM (compQ P G ops) l = some qs →
      ∀ {tm : Tr AV} {H : AHeap} {ρ : Ren} {a : Act} {w : World}, SR P base G ρ₀ H₀ w₀ d ρ tm H a w → itemsK P call qs tm H = some (tm', H') →
        (∀ ρ' a' w', SR P base G ρ₀ H₀ w₀ d ρ' tm' H' a' w' → wpOps P ops Q js a' w') → wpOps P ops Q (is ++ js) a w := by
  intro l
  induction l with
  | nil =>
    intro qs is hl _ hq tm H ρ a w hs h hQ
    cases hq; cases h
    cases is with
    | nil => exact hQ ρ a w hs
    | cons => simp at hl
  | cons o l ih =>
    intro qs is hl hops hq tm H ρ a w hs h hQ
    cases is with
    | nil => simp at hl
    | cons i is =>
      simp only [allM] at hq
      cases hq1 : compQ P G ops o with
      | none => rw [hq1] at hq; cases hq
      | some q =>
        rw [hq1] at hq
        cases hq2 : allM (compQ P G ops) l with
        | none => rw [hq2] at hq; cases hq
        | some qs' =>
          rw [hq2] at hq; cases hq
          simp only [compQ, bind, Option.bind_eq_some_iff] at hq1
          obtain ⟨g, hg, k, hk, hqe⟩ := hq1
          cases hqe
          have hoi : ops[i]? = some o := hops 0 i o rfl rfl
          have hl' : l.length = is.length := by simpa using hl
          have hops' : ∀ (j i' : Nat) (o' : Oper), is[j]? = some i' → l[j]? = some o' → ops[i']? = some o' := fun j i' o' h1 h2 => hops (j + 1) i' o' (by simpa using h1) (by simpa using h2)
          rw [List.cons_append, wpOps_cons]
          unfold wpOp
          simp only [hoi]
          rw [guardOf_sound (_g0 := o.guard) hg hs.tr]
          simp only [itemsK] at h
          cases hw : wantK g tm with
          | false =>
            rw [hw] at h
            simp only [Bool.false_eq_true, if_false]
            exact ih qs' is hl' hops' hq2 (hs.step undef_VR hs.hr (Ext.refl _ _ _)) h hQ
          | true =>
            rw [hw] at h
            simp only [cond_true] at h
            simp only [if_true]
            cases hop : opK P call k (Opnd.ev tm) H with
            | none => rw [hop] at h; cases h
            | some x =>
              obtain ⟨v, H1⟩ := x
              rw [hop] at h
              refine .inl (op_wp hcall hs.hr hs.gl (fun x _ => EvR.of_TR hs.tr hs.gl x) hk hop fun ρ' v' w' q1 q2 q3 => ?_)
              exact ih qs' is hl' hops' hq2 (hs.step q1 q2 q3) h hQ


theorem lt_of_getL {α : Type} {l : List α} {i : Nat} {x : α} (h : l[i]? = some x) : i < l.length := (List.getElem?_eq_some_iff.1 h).1
theorem evs_length (ev : Opnd → AV) : ∀ l, (evs ev l).length = l.length
  | [] => rfl
  | _ :: l => by simp [evs, evs_length ev l]

theorem dfrK_inv {o : Oper} {f : Nat} {l : List Opnd} (h : dfrK G o = some (f, l)) : ∃ args ts, o.guard = none ∧ o.dst = none ∧ o.op = .defer { callee := .value (.func f), args, argTypes := ts } ∧ allM (opnd G) args.toList = some l := by
  unfold dfrK at h
  split at h
  · rename_i g args ts h1 h2 h3
    split at h
    · rename_i l' hl
      cases h
      exact ⟨args, ts, h1, h2, h3, hl⟩
    · cases h
  · cases h

theorem compF0_inv {f : Nat} {kf : KFun} (h : compF0 P G f = some kf) : ∃ fn c, P.funcs[f]? = some fn ∧ fn.body = some c ∧ Callable P f ∧ compK P G c = some kf.code ∧ allM (compRes P) fn.results.toList = some kf.res ∧ fn.ntmps = kf.nt := by
  unfold compF0 at h
  split at h
  · cases h
  · rename_i fn hfn
    split at h
    · cases h
    · rename_i c hb
      cases hnm : (fn.name == "runtime.NumGoroutine") with
      | true => rw [hnm] at h; cases h
      | false =>
        rw [hnm] at h
        simp only [cond_false] at h
        split at h
        · rename_i k hk
          split at h
          · rename_i rs hrs
            cases h
            exact ⟨fn, c, hfn, hb, ⟨fn, hfn, by rw [hb]; rfl, hnm⟩, hk, hrs, rfl⟩
          · cases h
        · cases h

theorem evs_TR {ρ : Ren} {tm : Tr AV} {a : Act} (ht : TR ρ tm a) (hg : Gl G ρ) {l : List Operand} {m : List Opnd} (h : allM (opnd G) l = some m) : VRs ρ (evs (Opnd.ev tm) m) (l.map a.eval) :=
  evs_sound (fun x _ => EvR.of_TR ht hg x) h

theorem evS_wp (hm : P.follows .mixedOrders = true) (hcall : CallOK P base G call) {fn : Func} {R : Ending → World → Prop} : ∀ (c : Code) {kc : KCode} {ρ : Ren} {tm tm' : Tr AV} {H H' : AHeap} {a : Act} {w : World} {e : Ex},
    compSW P G (compK P G) (compF0 P G) c = some kc → SR P base G ρ₀ H₀ w₀ [] ρ tm H a w → evK P call N kc tm H = some (e, tm', H') → isDone e = true →
    (∀ ρ' a' w', SR P base G ρ₀ H₀ w₀ [] ρ' tm' H' a' w' → ∃ v, (results fn a'.tmps).run P w' = .ok v w' ∧ R (.returned v) w') → c.wp P (bodyPostD P fn R) a w := by
  intro c
  induction c with
  | seq x y ihx ihy =>
    clear ihx
    intro kc ρ tm tm' H H' a w e hc hs h he hfin
    simp only [compSW] at hc
    cases hd : dfrLast G x with
    | none =>
      rw [hd] at hc
      simp only at hc
      cases hy : compSW P G (compK P G) (compF0 P G) y with
      | none => rw [hy] at hc; cases hc
      | some ky =>
        cases hx : compK P G x with
        | none => rw [hy, hx] at hc; cases hc
        | some kx =>
          rw [hy, hx] at hc; cases hc
          simp only [evK] at h
          cases h1 : evK P call N kx tm H with
          | none => rw [h1] at h; cases h
          | some r =>
            obtain ⟨e1, tm1, H1⟩ := r
            rw [h1] at h
            simp only at h
            refine wp_seq (evK_wp hm hcall x hx hs h1 fun ρ' a' w' hs' => ?_)
            cases e1 with
            | nrm => exact ihy hy hs' h he hfin
            | exit i => cases h; cases he
            | ret =>
              cases h
              show Leaves P fn a'.tmps R a'.defers .returning w'
              rw [hs'.defers]
              exact hfin ρ' a' w' hs'
    | some fl =>
      obtain ⟨f, l⟩ := fl
      rw [hd] at hc
      simp only at hc
      cases hq : dfrQs P G x with
      | none => rw [hq] at hc; cases hc
      | some qs =>
        rw [hq] at hc
        simp only at hc
        cases hf : compF0 P G f with
        | none => rw [hf] at hc; cases hc
        | some kf =>
          rw [hf] at hc
          simp only at hc
          cases hres : kf.res with
          | cons => rw [hres] at hc; cases hc
          | nil =>
            rw [hres] at hc
            simp only at hc
            cases hb : compK P G y with
            | none => rw [hb] at hc; cases hc
            | some kb =>
              rw [hb] at hc
              simp only at hc
              cases hle : Nat.ble l.length kf.nt with
              | false => rw [hle] at hc; cases hc
              | true =>
                rw [hle] at hc; cases hc
                -- the region
                cases x <;> simp only [dfrLast] at hd <;> (try cases hd; done)
                rename_i rid ops draw
                cases draw with
                | true => cases hd
                | false =>
                  simp only at hd
                  simp only [dfrQs] at hq
                  cases hlast : ops.toList.getLast? with
                  | none => rw [hlast] at hd; cases hd
                  | some o =>
                    rw [hlast] at hd
                    simp only at hd
                    obtain ⟨args, ts, hog, hod, hoo, hl⟩ := dfrK_inv hd
                    have happ : ops.toList = ops.toList.dropLast ++ [o] := by
                      rw [List.getLast?_eq_some_iff] at hlast
                      obtain ⟨ys, hys⟩ := hlast
                      rw [hys]; simp
                    have hsz : ops.size = ops.toList.dropLast.length + 1 := by
                      have := congrArg List.length happ
                      simpa using this
                    have hoi : ops[ops.toList.dropLast.length]? = some o := by
                      rw [← Array.getElem?_toList, happ]
                      simp
                    simp only [evK] at h
                    cases hi : itemsK P call qs tm H with
                    | none => rw [hi] at h; cases h
                    | some x1 =>
                      obtain ⟨tm1, H1⟩ := x1
                      rw [hi] at h
                      simp only at h
                      cases h1 : evK P call N kb tm1 H1 with
                      | none => rw [h1] at h; cases h
                      | some r =>
                        obtain ⟨e1, tm2, H2⟩ := r
                        rw [h1] at h
                        simp only at h
                        cases hd1 : isDone e1 with
                        | false => rw [hd1] at h; cases h
                        | true =>
                          rw [hd1] at h
                          simp only [cond_true] at h
                          cases h2 : evK P call N kf.code (setArgs (Tr.rep kf.nt .undef) 0 (evs (Opnd.ev tm1) l)) H2 with
                          | none => rw [h2] at h; cases h
                          | some r2 =>
                            obtain ⟨e2, tm3, H3⟩ := r2
                            rw [h2] at h
                            simp only at h
                            cases hd2 : isDone e2 with
                            | false => rw [hd2] at h; cases h
                            | true =>
                              rw [hd2] at h; cases h
                              obtain ⟨fnd, cd, hfnd, hbd, hcb, hck, hrs, hnt⟩ := compF0_inv hf
                              refine wp_seq (wp_region ?_)
                              rw [hsz, List.range_succ]
                              refine items_wpJ hcall ops.toList.dropLast qs (List.range ops.toList.dropLast.length) (by simp) (fun j i o' g1 g2 => by
                                have hj : j < ops.toList.dropLast.length := lt_of_getL g2
                                rw [List.getElem?_range hj] at g1; cases g1
                                rw [← Array.getElem?_toList, happ, List.getElem?_append_left hj]; exact g2) hq hs hi fun ρ1 a1 w1 hs1 => ?_
                              rw [wpOps_cons]
                              unfold wpOp
                              simp only [hoi]
                              have hwant : Region.wanted o (yielded ops a1.tmps) = true := by unfold Region.wanted; rw [hog]
                              rw [hwant]
                              simp only [if_true]
                              refine .inl ?_
                              unfold Oper.wp
                              have hex : (execOp a1.eval o).run P w1 = .ok (.defer { target := .fn (.func f) #[], args := #[] ++ args.map a1.eval }) w1 := by
                                unfold execOp
                                rw [hoo]
                                rfl
                              rw [hex, Oper.upon_defer, hod]
                              show (y.wp P (bodyPostD P fn R) { a1 with defers := _ :: a1.defers } w1)
                              have hv := evs_TR hs1.tr hs1.gl hl
                              refine evK_wp (ρ₀ := ρ1) (H₀ := H1) (w₀ := w1) (d0 := [{ target := .fn (.func f) #[], args := #[] ++ args.map a1.eval }]) hm hcall y hb (ρ := ρ1) ⟨hs1.tr, hs1.hr, hs1.gl, Ext.refl _ _ _, by show _ :: a1.defers = _; rw [hs1.defers]⟩ h1 fun ρ2 a2 w2 hs2 => ?_
                              have hleave : Leaves P fn a2.tmps R a2.defers .returning w2 := by
                                rw [hs2.defers]
                                have hinv : (invoke (.fn (.func f) #[]) (#[] ++ args.map a1.eval)).run P w2 = .ok (.enter f (List.toArray (args.toList.map a1.eval))) w2 := by
                                  show (callFunc f ((#[] ++ args.map a1.eval) ++ #[])).run P w2 = _
                                  rw [run_callFunc hcb]
                                  congr 1
                                  congr 1
                                  apply Array.ext'
                                  simp
                                refine leaves_cons (by intro q; cases q) hinv ?_
                                have hsub := hs2.hr
                                have hv2 : VRs ρ2 (evs (Opnd.ev tm1) l) (args.toList.map a1.eval) := VRs.mono (hs1.hr.sub hs2.ext) hv
                                have hlen : (evs (Opnd.ev tm1) l).length ≤ kf.nt := by
                                  have : (evs (Opnd.ev tm1) l).length = l.length := evs_length _ _
                                  rw [this]; exact Nat.le_of_ble_eq_true hle
                                have hTR : TR ρ2 (setArgs (Tr.rep kf.nt .undef) 0 (evs (Opnd.ev tm1) l)) ⟨List.toArray (args.toList.map a1.eval) ++ Array.replicate (fnd.ntmps - (List.toArray (args.toList.map a1.eval)).size) undef, []⟩ := by
                                  rw [hnt]; exact args_TR hv2 hlen
                                have hwp : cd.wp P (bodyPost P fnd fun e' w3 => ∃ v, e' = .returned v ∧ ∃ v', (results fn a2.tmps).run P w3 = .ok v' w3 ∧ R (.returned v') w3) { tmps := List.toArray (args.toList.map a1.eval) ++ Array.replicate (fnd.ntmps - (List.toArray (args.toList.map a1.eval)).size) undef, defers := [] } w2 := by
                                  refine evK_wp (ρ₀ := ρ2) (H₀ := H2) (w₀ := w2) (d0 := []) hm hcall cd hck (ρ := ρ2) ⟨hTR, hs2.hr, hs2.gl, Ext.refl _ _ _, rfl⟩ h2 fun ρ3 a3 w3 hs3 => ?_
                                  have hpost : a3.defers = [] ∧ ∃ v, (results fnd a3.tmps).run P w3 = .ok v w3 ∧ ∃ v1, Ending.returned v = .returned v1 ∧ ∃ v', (results fn a2.tmps).run P w3 = .ok v' w3 ∧ R (.returned v') w3 := by
                                    rw [hres] at hrs
                                    obtain ⟨v3, e3, _⟩ := results_sound hs3.hr hs3.tr hs3.gl (ks := []) (vs := []) hrs rfl
                                    have hsub3 : Sub ρ2 ρ3 := hs2.hr.sub hs3.ext
                                    exact ⟨hs3.defers, v3, e3, v3, rfl, hfin ρ3 { a2 with defers := [] } w3 ⟨⟨(hs2.tr.mono hsub3).1, (hs2.tr.mono hsub3).2⟩, hs3.hr, hs3.gl, (hs1.ext.trans hs2.ext).trans hs3.ext, rfl⟩⟩
                                  cases e2 with
                                  | exit i => cases hd2
                                  | nrm => exact hpost
                                  | ret => exact hpost
                                refine (callsD_of_wp hfnd hbd (u := .returning) hwp).mono ?_
                                rintro e' u' w3 ⟨rfl, v, rfl, hv'⟩
                                exact hv'
                              cases e1 with
                              | exit i => cases hd1
                              | nrm => exact hleave
                              | ret => exact hleave
  | _ => intro kc ρ tm tm' H H' a w e hc; cases hc

theorem body_soundD {call : CallFn} {f : Nat} {kf : KFun} {args : List AV} {H H' : AHeap} {v : AV} (hm : P.follows .mixedOrders = true) (ih : CallOK P base G call) (hcf : compFD P G f = some kf) (hle : Nat.ble args.length kf.nt = true)
    (h : finK kf.res (evK P call N kf.code (setArgs (Tr.rep kf.nt .undef) 0 args) H) = some (v, H')) : Callable P f ∧
  ∀ ρ w args', HR base ρ H w → Gl G ρ → VRs ρ args args' → Calls P f (List.toArray args') w fun e w' => ∃ ρ' v', e = .returned v' ∧ VR ρ' v v' ∧ HR base ρ' H' w' ∧ Ext ρ H w ρ' H' w' := by
  have hle' := Nat.le_of_ble_eq_true hle
  unfold compFD at hcf
  cases hfn : P.funcs[f]? with
  | none => rw [hfn] at hcf; cases hcf
  | some fn =>
    rw [hfn] at hcf
    simp only at hcf
    cases hb : fn.body with
    | none => rw [hb] at hcf; cases hcf
    | some c =>
      rw [hb] at hcf
      simp only at hcf
      cases hnm : (fn.name == "runtime.NumGoroutine") with
      | true => rw [hnm] at hcf; cases hcf
      | false =>
        rw [hnm] at hcf
        simp only [cond_false] at hcf
        cases hck : compSW P G (compK P G) (compF0 P G) c with
        | none => rw [hck] at hcf; cases hcf
        | some k =>
          rw [hck] at hcf
          simp only at hcf
          cases hrs : allM (compRes P) fn.results.toList with
          | none => rw [hrs] at hcf; cases hcf
          | some rs =>
            rw [hrs] at hcf; cases hcf
            simp only at h hle'
            refine ⟨⟨fn, hfn, by rw [hb]; rfl, hnm⟩, fun ρ w args' hr hg ha => ?_⟩
            unfold finK at h
            cases hev : evK P (call) N k (setArgs (Tr.rep fn.ntmps .undef) 0 args) H with
            | none => rw [hev] at h; cases h
            | some r =>
              obtain ⟨e, tm, H1⟩ := r
              rw [hev] at h
              simp only at h
              cases hdn : isDone e with
              | false => rw [hdn] at h; cases h
              | true =>
                rw [hdn] at h
                simp only [cond_true] at h
                cases hvs : allM (resK tm H1) rs with
                | none => rw [hvs] at h; cases h
                | some vs =>
                  rw [hvs] at h; cases h
                  refine calls_of_wp_defers hfn hb (evS_wp (ρ₀ := ρ) (H₀ := H) (w₀ := w) hm ih c hck (ρ := ρ) ⟨args_TR ha hle', hr, hg, Ext.refl _ _ _, rfl⟩ hev hdn fun ρ' a' w' hs => ?_)
                  obtain ⟨v', e1, e2⟩ := results_sound hs.hr hs.tr hs.gl hrs hvs
                  exact ⟨v', e1, ρ', v', rfl, e2, hs.hr, hs.ext⟩

theorem body_sound {call : CallFn} {f : Nat} {kf : KFun} {args : List AV} {H H' : AHeap} {v : AV} (hm : P.follows .mixedOrders = true) (ih : CallOK P base G call) (hcf : compF P G f = some kf) (hle : Nat.ble args.length kf.nt = true)
    (h : finK kf.res (evK P call N kf.code (setArgs (Tr.rep kf.nt .undef) 0 args) H) = some (v, H')) : Callable P f ∧
  ∀ ρ w args', HR base ρ H w → Gl G ρ → VRs ρ args args' → Calls P f (List.toArray args') w fun e w' => ∃ ρ' v', e = .returned v' ∧ VR ρ' v v' ∧ HR base ρ' H' w' ∧ Ext ρ H w ρ' H' w' := by
  unfold compF at hcf
  cases hd : bodyD P G f with
  | true => rw [hd] at hcf; exact body_soundD hm ih hcf hle h
  | false => rw [hd] at hcf; exact body_sound0 hm ih hcf hle h

theorem evF_sound {prim : Prims} (hm : P.follows .mixedOrders = true) (hp : PrimOK P base G prim) : ∀ n, CallOK P base G (evF P G prim N n) := by
  intro n
  induction n with
  | zero => intro f args H v H' h; cases h
  | succ n ih =>
    intro f args H v H' h
    simp only [evF] at h
    cases hpf : prim f with
    | some p =>
      rw [hpf] at h
      exact hp f args H v H' (by simp only [hpf]; exact h)
    | none =>
      rw [hpf] at h
      simp only at h
      cases hcf : compF P G f with
      | none => rw [hcf] at h; cases h
      | some kf =>
        rw [hcf] at h
        simp only at h
        cases hle : Nat.ble args.length kf.nt with
        | false => rw [hle] at h; cases h
        | true =>
          rw [hle] at h
          simp only [cond_true] at h
          exact body_sound hm ih hcf hle h

end
end
end Go.Ab
