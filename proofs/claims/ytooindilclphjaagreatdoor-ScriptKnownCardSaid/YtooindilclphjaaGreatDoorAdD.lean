/- Bodies taken apart: one operation a step, operations under one guard together; ways to prove, block by block, that a plain function stands for a body. -/
import Derived.Test.YtooindilclphjaaGreatDoorAdC
namespace Go.Ab
noncomputable section

inductive GC where
  | skip
  | seq (a b : GC)
  | cnd (c : Opnd) (a b : GC)
  | block (id : Nat) (c : GC)
  | loop (c : GC)
  | exit (id : Nat)
  | ret
  | op (dst : Option Nat) (k : KOp)
  | grp (t : Nat) (b : Bool) (ds : List (Option Nat)) (c : GC)
  | ck (cs : List DI)
  | dreg (L : List DE)
  | bad
  | dfr (nt2 : Nat) (args : List Opnd) (cd : KCode) (b : GC)

/-! ### Taken apart -/

def sameG (t : Nat) (b : Bool) (g : Option (Nat × Bool)) : Bool := match g with
  | some (u, c) => Nat.beq t u && bbeq b c
  | none => false
def notDst (t : Nat) (d : Option Nat) : Bool := match d with
  | some u => !Nat.beq t u
  | none => true

/-- The operations that follow under the same guard, and the rest. -/
def takeG (t : Nat) (b : Bool) : List QI → List QI × List QI
  | [] => ([], [])
  | q :: r => cond (sameG t b q.g) (cond (notDst t q.dst) (let p := takeG t b r; (q :: p.1, p.2)) ([q], r)) ([], q :: r)

def opsG : List QI → GC
  | [] => .skip
  | q :: r => .seq (.op q.dst q.k) (opsG r)

def chainG (l : List GC) : GC := List.rec (motive := fun _ => GC) .skip (fun x _ ih => .seq x ih) l

/-- One by one; what lies under one guard together. -/
def atoms : Nat → List QI → List GC
  | 0, _ => [.bad]
  | _ + 1, [] => []
  | n + 1, q :: r => match q.g with
    | none => .op q.dst q.k :: atoms n r
    | some (t, b) => .grp t b ((takeG t b (q :: r)).1.map (·.dst)) (opsG (takeG t b (q :: r)).1) :: atoms n (takeG t b (q :: r)).2

def isGrp : GC → Bool
  | .grp _ _ _ _ => true
  | _ => false

/-- Straight runs, cut at what lies under a guard. -/
def segG (acc : List GC) : List GC → GC
  | [] => chainG acc.reverse
  | x :: r => cond (isGrp x) (.seq (chainG acc.reverse) (.seq x (segG [] r))) (segG (x :: acc) r)

def noOlds (d : DI) : Bool := match d.olds with
  | [] => true
  | _ => false
def allN (f : DI → Bool) : List DI → Bool
  | [] => true
  | d :: r => cond (f d) (allN f r) false
def plainDE : DE → Bool
  | .q d => noOlds d
  | .l d cs => cond (noOlds d) (allN noOlds cs) false
def plainD : List DE → Bool
  | [] => true
  | x :: r => cond (plainDE x) (plainD r) false
def qOf (d : DI) : QI := ⟨d.dst, d.g, d.k⟩

def stepG (d : DI) : GC := match d.g with
  | none => .op d.dst d.k
  | some (t, b) => .grp t b [d.dst] (.seq (.op d.dst d.k) .skip)
def ckG (cs : List DI) (c : List GC) : List GC := match cs with
  | [] => c
  | _ => .ck cs :: c
def atomsD : List DE → List GC
  | [] => []
  | .q d :: r => stepG d :: atomsD r
  | .l d cs :: r => stepG d :: ckG cs (atomsD r)

def toG : KCode → GC
  | .skip => .skip
  | .seq a b => .seq (toG a) (toG b)
  | .cnd c a b => .cnd c (toG a) (toG b)
  | .block id c => .block id (toG c)
  | .loop c => .loop (toG c)
  | .exit id => .exit id
  | .ret => .ret
  | .reg qs => segG [] (atoms (Nat.succ qs.length) qs)
  | .dreg L => cond (plainD L) (segG [] (atomsD L)) (.dreg L)
  | .bad => .bad
  | .dfr nt2 args cd b => .dfr nt2 args cd (toG b)

/-! ### What it comes to -/

def undefs (nt : Nat) (ds : List (Option Nat)) (e : E) : E := List.rec (motive := fun _ => E → E) (fun e => e) (fun d _ ih e => ih ((putA nt d).run .undef e)) ds e

def rdCk (_P : Program) (nt : Nat) (d : DI) (e : E) (H : AHeap) : Bool := Option.rec (motive := fun _ => Bool)
  (KOp.rec (motive := fun _ => Bool) (fun k => Option.rec (motive := fun _ => Bool) false (fun v => sameA nt d.dst e v) (rdK k (fun x => (opA nt x).run e) H)) (fun _ => false) (fun _ => false) (fun _ => false) false d.k)
  (fun g => Bool.rec (motive := fun _ => Bool) true (KOp.rec (motive := fun _ => Bool) (fun k => Option.rec (motive := fun _ => Bool) false (fun v => sameA nt d.dst e v) (rdK k (fun x => (opA nt x).run e) H)) (fun _ => false) (fun _ => false) (fun _ => false) false d.k) (isB ((opA nt (.tmp g.1)).run e) g.2)) d.g
def rdCks (P : Program) (nt : Nat) (cs : List DI) (e : E) (H : AHeap) : Bool := List.rec (motive := fun _ => Bool) true (fun d _ ih => Bool.rec (motive := fun _ => Bool) false ih (rdCk P nt d e H)) cs

def andR (b : Bool) (x : R) : R := Bool.rec (motive := fun _ => R) none x b

def bodyG (P : Program) (nt N : Nat) (c : GC) : Kb := GC.rec (motive := fun _ => Kb)
  ⟨fun _ _ _ k => k⟩
  (fun _ _ a b => ⟨fun call ks kr k e H => a.run call ks kr (fun e H => b.run call ks kr k e H) e H⟩)
  (fun c _ _ a b => ⟨fun call ks kr k e H => onBool ((opA nt c).run e) (a.run call ks kr k e H) (b.run call ks kr k e H)⟩)
  (fun id _ c => ⟨fun call ks kr k e H => c.run call (fun i e H => Bool.rec (motive := fun _ => R) (ks i e H) (k e H) (Nat.beq i id)) kr k e H⟩)
  (fun _ c => ⟨fun call ks kr _ e H => loopA call c ks kr N e H⟩)
  (fun id => ⟨fun _ ks _ _ e H => ks id e H⟩)
  ⟨fun _ _ kr _ e H => kr e H⟩
  (fun d k => ⟨fun call _ _ kn e H => (mkF P (opA nt) k).run call e H fun v H' => kn ((putA nt d).run v e) H'⟩)
  (fun t b ds _ c => ⟨fun call ks kr k e H => guardA ((opA nt (.tmp t)).run e) b (c.run call ks kr k e H) (k (undefs nt ds e) H)⟩)
  (fun cs => ⟨fun _ _ _ k e H => andR (rdCks P nt cs e H) (k e H)⟩)
  (fun L => ⟨fun call _ _ k e H => (drawnA P nt L).run call e k e H⟩)
  ⟨fun _ _ _ _ _ _ => none⟩
  (fun nt2 args cd _ b => ⟨fun call _ kr _ e H => b.run call (fun _ _ _ => none) (dfrA nt2 args.length (bodyA P nt2 N cd) call (evsA (accs (opA nt) args) e) kr) (dfrA nt2 args.length (bodyA P nt2 N cd) call (evsA (accs (opA nt) args) e) kr) e H⟩) c

/-- The one promises less than the other. -/
def Le (x y : R) : Prop := ∀ r, x = some r → y = some r
theorem Le.refl (x : R) : Le x x := fun _ h => h
theorem Le.of_eq {x y : R} (h : x = y) : Le x y := fun r hr => by rw [← h]; exact hr

section
variable {P : Program} {nt N : Nat} {call : CallFn}

theorem accE_put (h4 : nt ≤ 400) {t : Nat} {d : Option Nat} (hd : notDst t d = true) (v : AV) (e : E) : (opA nt (.tmp t)).run ((putA nt d).run v e) = (opA nt (.tmp t)).run e := by
  show (Bool.rec (motive := fun _ => Acc E) ⟨fun _ => AV.undef⟩ (accE t) (Nat.ble (Nat.succ t) nt) : Acc E).run _ = (Bool.rec (motive := fun _ => Acc E) ⟨fun _ => AV.undef⟩ (accE t) (Nat.ble (Nat.succ t) nt) : Acc E).run e
  by_cases ht : t < nt
  · rw [ble_true ht]
    show (accE t).run _ = (accE t).run e
    rw [accE_run t (by omega), accE_run t (by omega)]
    cases d with
    | none => rfl
    | some u =>
      show getE t ((Bool.rec (motive := fun _ => Stt) ⟨fun _ e => e⟩ (sttE u) (Nat.ble (Nat.succ u) nt) : Stt).run v e) = getE t e
      by_cases hu : u < nt
      · rw [ble_true hu]
        show getE t ((sttE u).run v e) = _
        rw [sttE_run u (by omega), getE_updE t u v e (by omega) (by omega)]
        have : ¬ t = u := fun c => by
          subst c
          simp [notDst] at hd
        rw [if_neg this]
      · rw [ble_false (by omega)]
  · rw [ble_false (by omega)]

theorem itemsA_cons_none {q : QI} {r : List QI} {k : Kn} {e : E} {H : AHeap} (hg : q.g = none) : (itemsA P nt (q :: r)).run call k e H = (mkF P (opA nt) q.k).run call e H fun v H' => (itemsA P nt r).run call k ((putA nt q.dst).run v e) H' := by
  have : (itemsA P nt (q :: r)).run call k e H = (Option.rec (motive := fun _ => Cl)
        ⟨fun call k e H => (mkF P (opA nt) q.k).run call e H fun v H' => (itemsA P nt r).run call k ((putA nt q.dst).run v e) H'⟩
        (fun g => ⟨fun call k e H => guardA ((opA nt (.tmp g.1)).run e) g.2 ((mkF P (opA nt) q.k).run call e H fun v H' => (itemsA P nt r).run call k ((putA nt q.dst).run v e) H') ((itemsA P nt r).run call k ((putA nt q.dst).run .undef e) H)⟩) q.g : Cl).run call k e H := rfl
  rw [this, hg]

theorem itemsA_cons_some {q : QI} {r : List QI} {k : Kn} {e : E} {H : AHeap} {t : Nat} {b : Bool} (hg : q.g = some (t, b)) : (itemsA P nt (q :: r)).run call k e H =
    guardA ((opA nt (.tmp t)).run e) b ((mkF P (opA nt) q.k).run call e H fun v H' => (itemsA P nt r).run call k ((putA nt q.dst).run v e) H') ((itemsA P nt r).run call k ((putA nt q.dst).run .undef e) H) := by
  have : (itemsA P nt (q :: r)).run call k e H = (Option.rec (motive := fun _ => Cl)
        ⟨fun call k e H => (mkF P (opA nt) q.k).run call e H fun v H' => (itemsA P nt r).run call k ((putA nt q.dst).run v e) H'⟩
        (fun g => ⟨fun call k e H => guardA ((opA nt (.tmp g.1)).run e) g.2 ((mkF P (opA nt) q.k).run call e H fun v H' => (itemsA P nt r).run call k ((putA nt q.dst).run v e) H') ((itemsA P nt r).run call k ((putA nt q.dst).run .undef e) H)⟩) q.g : Cl).run call k e H := rfl
  rw [this, hg]

theorem sameG_eq {t : Nat} {b : Bool} {g : Option (Nat × Bool)} (h : sameG t b g = true) : g = some (t, b) := by
  cases g with
  | none => cases h
  | some p =>
    obtain ⟨u, c⟩ := p
    simp only [sameG, Bool.and_eq_true, bbeq_eq, beq_iff_eq] at h
    rw [Nat.eq_of_beq_eq_true h.1, h.2]

/-- Operations under one guard, then the rest: as they stand one by one. -/
theorem takeG_run (h4 : nt ≤ 400) {t : Nat} {b : Bool} {ks : Nat → Kn} {kr : Kn} : ∀ (qs : List QI) (k : Kn) (e : E) (H : AHeap),
    (isB ((opA nt (.tmp t)).run e) b = true → (itemsA P nt qs).run call k e H = (bodyG P nt N (opsG (takeG t b qs).1)).run call ks kr (fun e H => (itemsA P nt (takeG t b qs).2).run call k e H) e H) ∧
    (isB ((opA nt (.tmp t)).run e) b = false → (itemsA P nt qs).run call k e H = (itemsA P nt (takeG t b qs).2).run call k (undefs nt ((takeG t b qs).1.map (·.dst)) e) H)
  | [], k, e, H => ⟨fun _ => rfl, fun _ => rfl⟩
  | q :: r, k, e, H => by
    cases hs : sameG t b q.g with
    | false =>
      have e1 : takeG t b (q :: r) = ([], q :: r) := by simp only [takeG, hs, cond_false]
      rw [e1]
      exact ⟨fun _ => rfl, fun _ => rfl⟩
    | true =>
      have hg := sameG_eq hs
      cases hn : notDst t q.dst with
      | false =>
        have e1 : takeG t b (q :: r) = ([q], r) := by simp only [takeG, hs, hn, cond_false, cond_true]
        rw [e1, itemsA_cons_some hg]
        refine ⟨fun hb => ?_, fun hb => ?_⟩
        · unfold guardA; rw [hb]; rfl
        · unfold guardA; rw [hb]; rfl
      | true =>
        have e1 : takeG t b (q :: r) = (q :: (takeG t b r).1, (takeG t b r).2) := by simp only [takeG, hs, hn, cond_true]
        rw [e1, itemsA_cons_some hg]
        refine ⟨fun hb => ?_, fun hb => ?_⟩
        · unfold guardA
          rw [hb]
          show (mkF P (opA nt) q.k).run call e H _ = (mkF P (opA nt) q.k).run call e H _
          congr 1
          funext v H'
          exact (takeG_run h4 r k _ H').1 (by rw [accE_put h4 hn]; exact hb)
        · unfold guardA
          rw [hb]
          exact (takeG_run (ks := ks) (kr := kr) h4 r k _ H).2 (by rw [accE_put h4 hn]; exact hb)

theorem takeG_len (t : Nat) (b : Bool) : ∀ qs : List QI, (takeG t b qs).2.length ≤ qs.length
  | [] => Nat.le_refl _
  | q :: r => by
    simp only [takeG]
    cases sameG t b q.g with
    | false => exact Nat.le_refl _
    | true =>
      cases notDst t q.dst with
      | false => simp
      | true => exact Nat.le_trans (takeG_len t b r) (by simp)

theorem atoms_run (h4 : nt ≤ 400) {ks : Nat → Kn} {kr : Kn} : ∀ (n : Nat) (qs : List QI) (k : Kn) (e : E) (H : AHeap), qs.length < n →
    (itemsA P nt qs).run call k e H = (bodyG P nt N (chainG (atoms n qs))).run call ks kr k e H
  | 0, qs, k, e, H, h => by omega
  | n + 1, [], k, e, H, h => rfl
  | n + 1, q :: r, k, e, H, h => by
    cases hg : q.g with
    | none =>
      have e1 : atoms (n + 1) (q :: r) = .op q.dst q.k :: atoms n r := by simp only [atoms, hg]
      rw [e1, itemsA_cons_none hg]
      show (mkF P (opA nt) q.k).run call e H _ = (mkF P (opA nt) q.k).run call e H _
      congr 1
      funext v H'
      exact atoms_run h4 n r k _ H' (by simpa using h)
    | some p =>
      obtain ⟨t, b⟩ := p
      have e1 : atoms (n + 1) (q :: r) = .grp t b ((takeG t b (q :: r)).1.map (·.dst)) (opsG (takeG t b (q :: r)).1) :: atoms n (takeG t b (q :: r)).2 := by simp only [atoms, hg]
      rw [e1]
      have hlt : (takeG t b (q :: r)).2.length < n := by
        have hs : sameG t b q.g = true := by rw [hg]; simp [sameG, bbeq_eq]
        simp only [List.length_cons] at h
        simp only [takeG, hs, cond_true]
        cases notDst t q.dst with
        | false => show r.length < n; omega
        | true => exact Nat.lt_of_le_of_lt (takeG_len t b r) (by omega)
      have hk : (fun e H => (itemsA P nt (takeG t b (q :: r)).2).run call k e H) = fun e H => (bodyG P nt N (chainG (atoms n (takeG t b (q :: r)).2))).run call ks kr k e H := by
        funext e H; exact atoms_run h4 n _ k e H hlt
      have hT := takeG_run (N := N) (P := P) (call := call) h4 (t := t) (b := b) (ks := ks) (kr := kr) (q :: r) k e H
      show _ = guardA ((opA nt (.tmp t)).run e) b ((bodyG P nt N (opsG (takeG t b (q :: r)).1)).run call ks kr (fun e H => (bodyG P nt N (chainG (atoms n (takeG t b (q :: r)).2))).run call ks kr k e H) e H) ((bodyG P nt N (chainG (atoms n (takeG t b (q :: r)).2))).run call ks kr k (undefs nt ((takeG t b (q :: r)).1.map (·.dst)) e) H)
      unfold guardA
      cases hb : isB ((opA nt (.tmp t)).run e) b with
      | true => rw [hT.1 hb, hk]
      | false =>
        rw [hT.2 hb]
        exact congrFun (congrFun hk _) H

theorem chainG_append {ks : Nat → Kn} {kr : Kn} (y : GC) : ∀ (l : List GC) (k : Kn) (e : E) (H : AHeap), (bodyG P nt N (chainG l)).run call ks kr (fun e H => (bodyG P nt N y).run call ks kr k e H) e H = (bodyG P nt N (List.rec (motive := fun _ => GC) y (fun x _ ih => .seq x ih) l)).run call ks kr k e H
  | [], k, e, H => rfl
  | x :: l, k, e, H => by
    show (bodyG P nt N x).run call ks kr (fun e H => (bodyG P nt N (chainG l)).run call ks kr _ e H) e H = (bodyG P nt N x).run call ks kr _ e H
    congr 1
    funext e H; exact chainG_append y l k e H

theorem chainG_app (r : List GC) : ∀ l : List GC, chainG (l ++ r) = List.rec (motive := fun _ => GC) (chainG r) (fun x _ ih => .seq x ih) l
  | [] => rfl
  | x :: l => by
    show GC.seq x (chainG (l ++ r)) = .seq x _
    rw [chainG_app r l]

theorem segG_run {ks : Nat → Kn} {kr : Kn} : ∀ (l acc : List GC) (k : Kn) (e : E) (H : AHeap), (bodyG P nt N (segG acc l)).run call ks kr k e H = (bodyG P nt N (chainG (acc.reverse ++ l))).run call ks kr k e H
  | [], acc, k, e, H => by
    simp only [segG, List.append_nil]
  | x :: r, acc, k, e, H => by
    simp only [segG]
    cases isGrp x with
    | false =>
      simp only [cond_false]
      rw [segG_run r (x :: acc)]
      simp
    | true =>
      simp only [cond_true]
      rw [chainG_app, ← chainG_append]
      show (bodyG P nt N (chainG acc.reverse)).run call ks kr (fun e H => (bodyG P nt N x).run call ks kr (fun e H => (bodyG P nt N (segG [] r)).run call ks kr k e H) e H) e H = (bodyG P nt N (chainG acc.reverse)).run call ks kr (fun e H => (bodyG P nt N x).run call ks kr (fun e H => (bodyG P nt N (chainG r)).run call ks kr k e H) e H) e H
      have : (fun e H => (bodyG P nt N (segG [] r)).run call ks kr k e H) = fun e H => (bodyG P nt N (chainG r)).run call ks kr k e H := by
        funext e H; exact segG_run r [] k e H
      rw [this]

theorem opD_nil (x : Opnd) (e0 e : E) : (opD nt [] x).run ⟨e0, e⟩ = (opA nt x).run e := by
  cases x with
  | tmp t =>
    show (Acc.rec (motive := fun _ => Acc E2) (fun f => ⟨fun p => f p.b⟩) (opA nt (.tmp t)) : Acc E2).run ⟨e0, e⟩ = _
    rfl
  | _ => rfl

theorem noOlds_eq {d : DI} (h : noOlds d = true) : d.olds = [] := by
  unfold noOlds at h
  cases ho : d.olds with
  | nil => rfl
  | cons a l => rw [ho] at h; cases h

theorem stepA_G {ks : Nat → Kn} {kr : Kn} {d : DI} (h : noOlds d = true) (e0 e : E) (H : AHeap) (k : Kn) :
    (stepA P nt d).run call ⟨e0, e⟩ H (fun v H' => k ((putA nt d.dst).run v e) H') = (bodyG P nt N (stepG d)).run call ks kr k e H := by
  have ho := noOlds_eq h
  have hf : ∀ c : Kv, (mkF P (opD nt []) d.k).run call ⟨e0, e⟩ H c = (mkF P (opA nt) d.k).run call e H c := fun c => by
    rw [mkF_eq, mkF_eq]
    have : (fun x => (opD nt [] x).run ⟨e0, e⟩) = fun x => (opA nt x).run e := funext fun x => opD_nil x e0 e
    rw [this]
  unfold stepA stepG
  rw [ho]
  cases d.g with
  | none => exact hf _
  | some g =>
    obtain ⟨t, b⟩ := g
    show guardA ((opD nt [] (.tmp t)).run ⟨e0, e⟩) b ((mkF P (opD nt []) d.k).run call ⟨e0, e⟩ H _) _ = guardA ((opA nt (.tmp t)).run e) b _ _
    rw [opD_nil, hf]
    rfl

theorem rdCk_eq {d : DI} (h : noOlds d = true) (e0 e : E) (H : AHeap) : (chkA nt d).run ⟨e0, e⟩ H = rdCk P nt d e H := by
  have ho := noOlds_eq h
  have hx : (fun x => (opD nt [] x).run ⟨e0, e⟩) = fun x => (opA nt x).run e := funext fun x => opD_nil x e0 e
  unfold chkA rdCk
  rw [ho]
  cases d.g with
  | none =>
    cases d.k with
    | r k =>
      show Option.rec (motive := fun _ => Bool) false (fun v => sameA nt d.dst e v) (rdK k (fun x => (opD nt [] x).run ⟨e0, e⟩) H) = _
      rw [hx]
    | _ => rfl
  | some g =>
    obtain ⟨t, b⟩ := g
    show Bool.rec (motive := fun _ => Bool) true _ (isB ((opD nt [] (.tmp t)).run ⟨e0, e⟩) b) = Bool.rec (motive := fun _ => Bool) true _ (isB ((opA nt (.tmp t)).run e) b)
    rw [opD_nil]
    cases d.k with
    | r k =>
      show Bool.rec (motive := fun _ => Bool) true (Option.rec (motive := fun _ => Bool) false (fun v => sameA nt d.dst e v) (rdK k (fun x => (opD nt [] x).run ⟨e0, e⟩) H)) _ = _
      rw [hx]
    | _ => rfl

theorem rdCks_eq (e0 e : E) (H : AHeap) : ∀ {cs : List DI}, allN noOlds cs = true → (chksA nt cs).run ⟨e0, e⟩ H = rdCks P nt cs e H
  | [], _ => rfl
  | d :: r, h => by
    simp only [allN] at h
    cases hd : noOlds d with
    | false => rw [hd] at h; cases h
    | true =>
      rw [hd] at h
      show Bool.rec (motive := fun _ => Bool) false ((chksA nt r).run ⟨e0, e⟩ H) ((chkA nt d).run ⟨e0, e⟩ H) = Bool.rec (motive := fun _ => Bool) false (rdCks P nt r e H) (rdCk P nt d e H)
      rw [rdCk_eq (P := P) hd, rdCks_eq e0 e H (cs := r) h]

theorem drawnG_run {ks : Nat → Kn} {kr k : Kn} (e0 : E) : ∀ (L : List DE) (e : E) (H : AHeap), plainD L = true → (drawnA P nt L).run call e0 k e H = (bodyG P nt N (chainG (atomsD L))).run call ks kr k e H
  | [], e, H, _ => rfl
  | .q d :: r, e, H, h => by
    have h : cond (noOlds d) (plainD r) false = true := h
    cases hd : noOlds d with
    | false => rw [hd] at h; cases h
    | true =>
      rw [hd] at h
      show (stepA P nt d).run call ⟨e0, e⟩ H (fun v H' => (drawnA P nt r).run call e0 k ((putA nt d.dst).run v e) H') = (bodyG P nt N (stepG d)).run call ks kr (fun e H => (bodyG P nt N (chainG (atomsD r))).run call ks kr k e H) e H
      have : (fun e H => (bodyG P nt N (chainG (atomsD r))).run call ks kr k e H) = fun e H => (drawnA P nt r).run call e0 k e H := by funext e H; exact (drawnG_run e0 r e H h).symm
      rw [this]
      exact stepA_G (k := fun e H => (drawnA P nt r).run call e0 k e H) hd e0 e H
  | .l d cs :: r, e, H, h => by
    have h : cond (cond (noOlds d) (allN noOlds cs) false) (plainD r) false = true := h
    cases hd : noOlds d with
    | false => rw [hd] at h; cases h
    | true =>
      rw [hd] at h
      simp only [cond_true] at h
      cases hc : allN noOlds cs with
      | false => rw [hc] at h; cases h
      | true =>
        rw [hc] at h
        have hr : (fun e H => (bodyG P nt N (chainG (atomsD r))).run call ks kr k e H) = fun e H => (drawnA P nt r).run call e0 k e H := by funext e H; exact (drawnG_run e0 r e H h).symm
        cases cs with
        | nil =>
          show (stepA P nt d).run call ⟨e0, e⟩ H (fun v H' => (drawnA P nt r).run call e0 k ((putA nt d.dst).run v e) H') = (bodyG P nt N (stepG d)).run call ks kr (fun e H => (bodyG P nt N (chainG (atomsD r))).run call ks kr k e H) e H
          rw [hr]
          exact stepA_G (k := fun e H => (drawnA P nt r).run call e0 k e H) hd e0 e H
        | cons c cs =>
          show (stepA P nt d).run call ⟨e0, e⟩ H (fun v H' => Bool.rec (motive := fun _ => R) none ((drawnA P nt r).run call e0 k ((putA nt d.dst).run v e) H') ((chksA nt (c :: cs)).run ⟨e0, (putA nt d.dst).run v e⟩ H')) = (bodyG P nt N (stepG d)).run call ks kr (fun e H => andR (rdCks P nt (c :: cs) e H) ((bodyG P nt N (chainG (atomsD r))).run call ks kr k e H)) e H
          have : (fun e H => andR (rdCks P nt (c :: cs) e H) ((bodyG P nt N (chainG (atomsD r))).run call ks kr k e H)) = fun e H => andR ((chksA nt (c :: cs)).run ⟨e0, e⟩ H) ((drawnA P nt r).run call e0 k e H) := by
            funext e' H'
            rw [rdCks_eq (P := P) e0 e' H' hc]
            rw [show (bodyG P nt N (chainG (atomsD r))).run call ks kr k e' H' = (drawnA P nt r).run call e0 k e' H' from congrFun (congrFun hr e') H']
          rw [this]
          exact stepA_G (k := fun e H => andR ((chksA nt (c :: cs)).run ⟨e0, e⟩ H) ((drawnA P nt r).run call e0 k e H)) hd e0 e H

theorem toG_run (h4 : nt ≤ 400) : ∀ (c : KCode) (ks : Nat → Kn) (kr k : Kn) (e : E) (H : AHeap), (bodyG P nt N (toG c)).run call ks kr k e H = (bodyA P nt N c).run call ks kr k e H := by
  intro c
  induction c with
  | skip => intros; rfl
  | exit => intros; rfl
  | ret => intros; rfl
  | bad => intros; rfl
  | reg qs => intro ks kr k e H; exact (segG_run _ [] k e H).trans (atoms_run h4 _ qs k e H (Nat.lt_succ_self _)).symm
  | dreg L =>
    intro ks kr k e H
    simp only [toG]
    cases hp : plainD L with
    | false => rfl
    | true => exact (segG_run _ [] k e H).trans (drawnG_run e L e H hp).symm
  | seq a b iha ihb =>
    intro ks kr k e H
    show (bodyG P nt N (toG a)).run call ks kr (fun e H => (bodyG P nt N (toG b)).run call ks kr k e H) e H = (bodyA P nt N a).run call ks kr (fun e H => (bodyA P nt N b).run call ks kr k e H) e H
    rw [iha]
    congr 1
    funext e H; exact ihb _ _ _ _ _
  | cnd c a b iha ihb =>
    intro ks kr k e H
    show onBool _ ((bodyG P nt N (toG a)).run call ks kr k e H) ((bodyG P nt N (toG b)).run call ks kr k e H) = onBool _ ((bodyA P nt N a).run call ks kr k e H) ((bodyA P nt N b).run call ks kr k e H)
    rw [iha, ihb]
  | block id c ih =>
    intro ks kr k e H
    exact ih _ _ _ _ _
  | loop c ih =>
    intro ks kr k e H
    show loopA call (bodyG P nt N (toG c)) ks kr N e H = loopA call (bodyA P nt N c) ks kr N e H
    have : ∀ n e H, loopA call (bodyG P nt N (toG c)) ks kr n e H = loopA call (bodyA P nt N c) ks kr n e H := by
      intro n
      induction n with
      | zero => intros; rfl
      | succ n ihn =>
        intro e H
        show (bodyG P nt N (toG c)).run call ks kr (loopA call (bodyG P nt N (toG c)) ks kr n) e H = (bodyA P nt N c).run call ks kr (loopA call (bodyA P nt N c) ks kr n) e H
        rw [ih]
        congr 1
        funext e H; exact ihn e H
    exact this N e H
  | dfr nt2 args cd b _ ihb =>
    intro ks kr k e H
    exact ihb _ _ _ _ _

end
end
end Go.Ab
