/- How a plain function is shown to stand for a body, piece by piece. -/
import Derived.Test.YtooindilclphjaaGreatDoorAdD
import Derived.KernelRfl
namespace Go.Ab
noncomputable section

/-- The piece on the left (or inside), the piece on the right; what stands at the piece's head. -/
def GC.l (c : GC) : GC := GC.rec (motive := fun _ => GC) .skip (fun a _ _ _ => a) (fun _ a _ _ _ => a) (fun _ a _ => a) (fun a _ => a) (fun _ => .skip) .skip (fun _ _ => .skip) (fun _ _ _ a _ => a) (fun _ => .skip) (fun _ => .skip) .skip (fun _ _ _ b _ => b) c
def GC.r (c : GC) : GC := GC.rec (motive := fun _ => GC) .skip (fun _ b _ _ => b) (fun _ _ b _ _ => b) (fun _ _ _ => .skip) (fun _ _ => .skip) (fun _ => .skip) .skip (fun _ _ => .skip) (fun _ _ _ _ _ => .skip) (fun _ => .skip) (fun _ => .skip) .skip (fun _ _ _ _ _ => .skip) c
def GC.cx (c : GC) : Opnd := GC.rec (motive := fun _ => Opnd) (.tmp 0) (fun _ _ _ _ => .tmp 0) (fun x _ _ _ _ => x) (fun _ _ _ => .tmp 0) (fun _ _ => .tmp 0) (fun _ => .tmp 0) (.tmp 0) (fun _ _ => .tmp 0) (fun _ _ _ _ _ => .tmp 0) (fun _ => .tmp 0) (fun _ => .tmp 0) (.tmp 0) (fun _ _ _ _ _ => .tmp 0) c
def GC.cid (c : GC) : Nat := GC.rec (motive := fun _ => Nat) 0 (fun _ _ _ _ => 0) (fun _ _ _ _ _ => 0) (fun i _ _ => i) (fun _ _ => 0) (fun _ => 0) 0 (fun _ _ => 0) (fun t _ _ _ _ => t) (fun _ => 0) (fun _ => 0) 0 (fun nt2 _ _ _ _ => nt2) c
def GC.gb (c : GC) : Bool := GC.rec (motive := fun _ => Bool) false (fun _ _ _ _ => false) (fun _ _ _ _ _ => false) (fun _ _ _ => false) (fun _ _ => false) (fun _ => false) false (fun _ _ => false) (fun _ b _ _ _ => b) (fun _ => false) (fun _ => false) false (fun _ _ _ _ _ => false) c
def GC.gds (c : GC) : List (Option Nat) := GC.rec (motive := fun _ => List (Option Nat)) [] (fun _ _ _ _ => []) (fun _ _ _ _ _ => []) (fun _ _ _ => []) (fun _ _ => []) (fun _ => []) [] (fun _ _ => []) (fun _ _ d _ _ => d) (fun _ => []) (fun _ => []) [] (fun _ _ _ _ _ => []) c
def GC.da (c : GC) : List Opnd := GC.rec (motive := fun _ => List Opnd) [] (fun _ _ _ _ => []) (fun _ _ _ _ _ => []) (fun _ _ _ => []) (fun _ _ => []) (fun _ => []) [] (fun _ _ => []) (fun _ _ _ _ _ => []) (fun _ => []) (fun _ => []) [] (fun _ a _ _ _ => a) c
def GC.dc (c : GC) : KCode := GC.rec (motive := fun _ => KCode) .bad (fun _ _ _ _ => .bad) (fun _ _ _ _ _ => .bad) (fun _ _ _ => .bad) (fun _ _ => .bad) (fun _ => .bad) .bad (fun _ _ => .bad) (fun _ _ _ _ _ => .bad) (fun _ => .bad) (fun _ => .bad) .bad (fun _ _ cd _ _ => cd) c

/-- A block's exits. -/
abbrev ksB (ks : Nat → Kn) (id : Nat) (k : Kn) : Nat → Kn := fun i e H => Bool.rec (motive := fun _ => R) (ks i e H) (k e H) (Nat.beq i id)
abbrev ks0 : Nat → Kn := fun _ _ _ => none

section
variable {P : Program} {nt N : Nat} {call : CallFn} {c : GC} {ks : Nat → Kn} {kr k : Kn}

/-- F stands for the piece c. -/
def Sta (P : Program) (nt N : Nat) (call : CallFn) (c : GC) (ks : Nat → Kn) (kr k F : Kn) : Prop := ∀ e H, (bodyG P nt N c).run call ks kr k e H = F e H

theorem sq {F F' : Kn} (hb : Sta P nt N call c.r ks kr k F) (ha : Sta P nt N call c.l ks kr F F') (h : c = .seq c.l c.r := by kernel_rfl) : Sta P nt N call c ks kr k F' := fun e H => by
  rw [h]
  show (bodyG P nt N c.l).run call ks kr (fun e H => (bodyG P nt N c.r).run call ks kr k e H) e H = _
  rw [show (fun e H => (bodyG P nt N c.r).run call ks kr k e H) = F from funext fun e => funext fun H => hb e H]
  exact ha e H

theorem cn {FA FB : Kn} (ha : Sta P nt N call c.l ks kr k FA) (hb : Sta P nt N call c.r ks kr k FB) (h : c = .cnd c.cx c.l c.r := by kernel_rfl) : Sta P nt N call c ks kr k (fun e H => onBool ((opA nt c.cx).run e) (FA e H) (FB e H)) := fun e H => by
  show _ = onBool ((opA nt c.cx).run e) (FA e H) (FB e H)
  rw [← ha e H, ← hb e H]
  have : (bodyG P nt N (.cnd c.cx c.l c.r)).run call ks kr k e H = onBool ((opA nt c.cx).run e) ((bodyG P nt N c.l).run call ks kr k e H) ((bodyG P nt N c.r).run call ks kr k e H) := rfl
  rw [← this, ← h]

theorem bl {F : Kn} (ha : Sta P nt N call c.l (ksB ks c.cid k) kr k F) (h : c = .block c.cid c.l := by kernel_rfl) : Sta P nt N call c ks kr k F := fun e H => by
  rw [← ha e H]
  have : (bodyG P nt N (.block c.cid c.l)).run call ks kr k e H = (bodyG P nt N c.l).run call (ksB ks c.cid k) kr k e H := rfl
  rw [← this, ← h]

theorem lp (Lp : Nat → Kn) (hS : ∀ n, Sta P nt N call c.l ks kr (Lp n) (Lp (n + 1))) (h0 : ∀ e H, Lp 0 e H = none := by intro e H; kernel_rfl) (h : c = .loop c.l := by kernel_rfl) : Sta P nt N call c ks kr k (Lp N) := fun e H => by
  rw [h]
  show loopA call (bodyG P nt N c.l) ks kr N e H = _
  have : ∀ n e H, loopA call (bodyG P nt N c.l) ks kr n e H = Lp n e H := by
    intro n
    induction n with
    | zero => intro e H; exact (h0 e H).symm
    | succ n ih =>
      intro e H
      show (bodyG P nt N c.l).run call ks kr (loopA call (bodyG P nt N c.l) ks kr n) e H = _
      rw [show loopA call (bodyG P nt N c.l) ks kr n = Lp n from funext fun e => funext fun H => ih e H]
      exact hS n e H
  exact this N e H

theorem gp {FA : Kn} (ha : Sta P nt N call c.l ks kr k FA) (h : c = .grp c.cid c.gb c.gds c.l := by kernel_rfl) : Sta P nt N call c ks kr k (fun e H => guardA ((opA nt (.tmp c.cid)).run e) c.gb (FA e H) (k (undefs nt c.gds e) H)) := fun e H => by
  show _ = guardA ((opA nt (.tmp c.cid)).run e) c.gb (FA e H) (k (undefs nt c.gds e) H)
  rw [← ha e H]
  have : (bodyG P nt N (.grp c.cid c.gb c.gds c.l)).run call ks kr k e H = guardA ((opA nt (.tmp c.cid)).run e) c.gb ((bodyG P nt N c.l).run call ks kr k e H) (k (undefs nt c.gds e) H) := rfl
  rw [← this, ← h]

/-- The rest of a body behind a deferred call: the deferred body's arguments are those of the frame e0 where it was deferred. -/
theorem df {F : E → Kn} (hb : ∀ e0, Sta P nt N call c.l (fun _ _ _ => none) (dfrA c.cid c.da.length (bodyA P c.cid N c.dc) call (evsA (accs (opA nt) c.da) e0) kr) (dfrA c.cid c.da.length (bodyA P c.cid N c.dc) call (evsA (accs (opA nt) c.da) e0) kr) (F e0))
    (h : c = .dfr c.cid c.da c.dc c.l := by kernel_rfl) : Sta P nt N call c ks kr k (fun e H => F e e H) := fun e H => by
  show _ = F e e H
  rw [← hb e e H]
  have : (bodyG P nt N (.dfr c.cid c.da c.dc c.l)).run call ks kr k e H = (bodyG P nt N c.l).run call (fun _ _ _ => none) (dfrA c.cid c.da.length (bodyA P c.cid N c.dc) call (evsA (accs (opA nt) c.da) e) kr) (dfrA c.cid c.da.length (bodyA P c.cid N c.dc) call (evsA (accs (opA nt) c.da) e) kr) e H := rfl
  rw [← this, ← h]

theorem se : Sta P nt N call c ks kr k (fun e H => (bodyG P nt N c).run call ks kr k e H) := fun _ _ => rfl

theorem cv (F' : Kn) {F : Kn} (h : Sta P nt N call c ks kr k F) (e : ∀ e H, F e H = F' e H := by intro e H; kernel_rfl) : Sta P nt N call c ks kr k F' := fun x H => (h x H).trans (e x H)
end

/-! ### Functions -/

/-- The body of a function; bad if there is none. -/
def kfOf (P : Program) (G : List Nat) (f : Nat) : KFun := Option.rec (motive := fun _ => KFun) ⟨0, [], .bad⟩ (fun k => k) (compFU P G f)
def gOf (P : Program) (G : List Nat) (f : Nat) : GC := toG (kfOf P G f).code

def argA0 (s : R) (l : List AV) : R := List.rec (motive := fun _ => R) s (fun _ _ _ => none) l
def argA1 (s : AV → R) (l : List AV) : R := List.rec (motive := fun _ => R) none (fun a l _ => argA0 (s a) l) l
def argA2 (s : AV → AV → R) (l : List AV) : R := List.rec (motive := fun _ => R) none (fun a l _ => argA1 (s a) l) l
def argA3 (s : AV → AV → AV → R) (l : List AV) : R := List.rec (motive := fun _ => R) none (fun a l _ => argA2 (s a) l) l
def argA4 (s : AV → AV → AV → AV → R) (l : List AV) : R := List.rec (motive := fun _ => R) none (fun a l _ => argA3 (s a) l) l
def argA5 (s : AV → AV → AV → AV → AV → R) (l : List AV) : R := List.rec (motive := fun _ => R) none (fun a l _ => argA4 (s a) l) l
def argA6 (s : AV → AV → AV → AV → AV → AV → R) (l : List AV) : R := List.rec (motive := fun _ => R) none (fun a l _ => argA5 (s a) l) l
def argA7 (s : AV → AV → AV → AV → AV → AV → AV → R) (l : List AV) : R := List.rec (motive := fun _ => R) none (fun a l _ => argA6 (s a) l) l
def argA8 (s : AV → AV → AV → AV → AV → AV → AV → AV → R) (l : List AV) : R := List.rec (motive := fun _ => R) none (fun a l _ => argA7 (s a) l) l

/-- A plain function stands for function f. -/
def Stands (P : Program) (G : List Nat) (N f : Nat) (s : Ff) : Prop := ∃ kf, compFU P G f = some kf ∧ ∀ call args H r, s.run call args H = some r → (mkFf P N kf).run call args H = some r

theorem argA0_eq {s : R} {l : List AV} {r : AV × AHeap} (h : argA0 s l = some r) : l = [] ∧ s = some r := by cases l with | nil => exact ⟨rfl, h⟩ | cons a l => cases h
theorem argA1_eq {s : AV → R} {l : List AV} {r : AV × AHeap} (h : argA1 s l = some r) : ∃ a, l = [a] ∧ s a = some r := by
  cases l with | nil => cases h | cons a l => obtain ⟨rfl, h⟩ := argA0_eq h; exact ⟨a, rfl, h⟩
theorem argA2_eq {s : AV → AV → R} {l : List AV} {r : AV × AHeap} (h : argA2 s l = some r) : ∃ a b, l = [a, b] ∧ s a b = some r := by
  cases l with | nil => cases h | cons a l => obtain ⟨b, rfl, h⟩ := argA1_eq h; exact ⟨a, b, rfl, h⟩
theorem argA3_eq {s : AV → AV → AV → R} {l : List AV} {r : AV × AHeap} (h : argA3 s l = some r) : ∃ a b c, l = [a, b, c] ∧ s a b c = some r := by
  cases l with | nil => cases h | cons a l => obtain ⟨b, c, rfl, h⟩ := argA2_eq h; exact ⟨a, b, c, rfl, h⟩
theorem argA4_eq {s : AV → AV → AV → AV → R} {l : List AV} {r : AV × AHeap} (h : argA4 s l = some r) : ∃ a b c d, l = [a, b, c, d] ∧ s a b c d = some r := by
  cases l with | nil => cases h | cons a l => obtain ⟨b, c, d, rfl, h⟩ := argA3_eq h; exact ⟨a, b, c, d, rfl, h⟩
theorem argA5_eq {s : AV → AV → AV → AV → AV → R} {l : List AV} {r : AV × AHeap} (h : argA5 s l = some r) : ∃ a b c d e, l = [a, b, c, d, e] ∧ s a b c d e = some r := by
  cases l with | nil => cases h | cons a l => obtain ⟨b, c, d, e, rfl, h⟩ := argA4_eq h; exact ⟨a, b, c, d, e, rfl, h⟩
theorem argA6_eq {s : AV → AV → AV → AV → AV → AV → R} {l : List AV} {r : AV × AHeap} (h : argA6 s l = some r) : ∃ a b c d e f, l = [a, b, c, d, e, f] ∧ s a b c d e f = some r := by
  cases l with | nil => cases h | cons a l => obtain ⟨b, c, d, e, f, rfl, h⟩ := argA5_eq h; exact ⟨a, b, c, d, e, f, rfl, h⟩
theorem argA7_eq {s : AV → AV → AV → AV → AV → AV → AV → R} {l : List AV} {r : AV × AHeap} (h : argA7 s l = some r) : ∃ a b c d e f g, l = [a, b, c, d, e, f, g] ∧ s a b c d e f g = some r := by
  cases l with | nil => cases h | cons a l => obtain ⟨b, c, d, e, f, g, rfl, h⟩ := argA6_eq h; exact ⟨a, b, c, d, e, f, g, rfl, h⟩
theorem argA8_eq {s : AV → AV → AV → AV → AV → AV → AV → AV → R} {l : List AV} {r : AV × AHeap} (h : argA8 s l = some r) : ∃ a b c d e f g i, l = [a, b, c, d, e, f, g, i] ∧ s a b c d e f g i = some r := by
  cases l with | nil => cases h | cons a l => obtain ⟨b, c, d, e, f, g, i, rfl, h⟩ := argA7_eq h; exact ⟨a, b, c, d, e, f, g, i, rfl, h⟩

section
variable {P : Program} {G : List Nat} {N f : Nat}

/-- What one call of it comes to, out of its body's piece. -/
theorem call_of_sta {nt : Nat} {res : List KRes} {call : CallFn} {F : Kn} (hnt : (kfOf P G f).nt = nt) (hres : (kfOf P G f).res = res) (h4 : Nat.ble nt 400 = true)
    (h : Sta P nt N call (gOf P G f) ks0 (finA nt res) (finA nt res) F) (args : List AV) (ha : Nat.ble args.length nt = true) (H : AHeap) :
    (mkFf P N (kfOf P G f)).run call args H = F (setArgsA args E0 0) H := by
  have h4' := Nat.le_of_ble_eq_true h4
  unfold mkFf
  simp only [hnt, hres]
  rw [h4, ha]
  rw [← h]
  show (bodyA P nt N (kfOf P G f).code).run call (fun _ _ _ => none) (finA nt res) (finA nt res) (setArgsA args E0 0) H = _
  exact (toG_run h4' _ _ _ _ _ _).symm

theorem compFU_kfOf (h : (compFU P G f).isSome = true) : compFU P G f = some (kfOf P G f) := by
  unfold kfOf
  cases hc : compFU P G f with
  | none => rw [hc] at h; cases h
  | some k => rfl
end

theorem stands_of {P : Program} {G : List Nat} {N f : Nat} {s : Ff} (nt : Nat) (res : List KRes) (ar : Nat) (F : CallFn → Kn)
    (hs : ∀ call args H r, s.run call args H = some r → args.length = ar ∧ F call (setArgsA args E0 0) H = some r)
    (h : ∀ call, Sta P nt N call (gOf P G f) ks0 (finA nt res) (finA nt res) (F call))
    (hc : (compFU P G f).isSome = true := by kernel_rfl) (hnt : (kfOf P G f).nt = nt := by kernel_rfl) (hres : (kfOf P G f).res = res := by kernel_rfl) (h4 : Nat.ble nt 400 = true := by kernel_rfl) (ha : Nat.ble ar nt = true := by kernel_rfl) : Stands P G N f s :=
  ⟨kfOf P G f, compFU_kfOf hc, fun call args H r hr => by
    obtain ⟨h1, h2⟩ := hs call args H r hr
    exact (call_of_sta hnt hres h4 (h call) args (by rw [h1]; exact ha) H).trans h2⟩

/-! ### The table of plain functions -/

def AllSta (P : Program) (G : List Nat) (N : Nat) : Nat → List (Option Ff) → Prop
  | _, [] => True
  | n, none :: r => AllSta P G N (n + 1) r
  | n, some s :: r => Stands P G N n s ∧ AllSta P G N (n + 1) r

theorem AllSta.get {P : Program} {G : List Nat} {N : Nat} : ∀ {l : List (Option Ff)} {n : Nat}, AllSta P G N n l → ∀ {i : Nat} {s : Ff}, l[i]? = some (some s) → Stands P G N (n + i) s
  | [], _, _, i, s, h => by simp at h
  | none :: r, n, ha, i, s, h => by
    cases i with
    | zero => simp at h
    | succ i =>
      have := AllSta.get (l := r) (n := n + 1) ha (i := i) (s := s) (by simpa using h)
      rwa [show n + (i + 1) = n + 1 + i by omega]
  | some x :: r, n, ha, i, s, h => by
    cases i with
    | zero => simp at h; subst h; exact ha.1
    | succ i =>
      have := AllSta.get (l := r) (n := n + 1) ha.2 (i := i) (s := s) (by simpa using h)
      rwa [show n + (i + 1) = n + 1 + i by omega]

def tabS (t : Tr (Option Ff)) (f : Nat) : Option Ff := Option.rec (motive := fun _ => Option Ff) none (fun x => x) (t.get? f)

def evH (tab : Nat → Option Ff) (prim : Prims) (n : Nat) : CallFn := Nat.rec (motive := fun _ => CallFn) (fun _ _ _ => none)
  (fun _ ih f args H => Option.rec (motive := fun _ => R) (ob (tab f) fun ff => ff.run ih args H) (fun p => p args H) (prim f)) n

def TabSOK (P : Program) (G : List Nat) (N : Nat) (tab : Nat → Option Ff) : Prop := ∀ f s, tab f = some s → ∃ kf, compF P G f = some kf ∧ ∀ call args H r, s.run call args H = some r → (mkFf P N kf).run call args H = some r

theorem tabS_ok {P : Program} {G : List Nat} {N : Nat} {l : List (Option Ff)} (h : AllSta P G N 0 l) (hok : ∀ f s, l[f]? = some (some s) → okFun P G f = true) : TabSOK P G N (tabS (Tr.ofList l)) := by
  intro f s hs
  unfold tabS at hs
  rw [Tr.get?_ofList] at hs
  cases hl : l[f]? with
  | none => rw [hl] at hs; cases hs
  | some x =>
    rw [hl] at hs
    have hs : x = some s := hs
    subst hs
    obtain ⟨kf, h1, h2⟩ := AllSta.get h hl
    rw [Nat.zero_add] at h1
    exact ⟨kf, compFU_of h1 (hok f s hl), h2⟩

theorem evH_sound {P : Program} {base : Nat} {G : List Nat} {N : Nat} {prim : Prims} {tab : Nat → Option Ff} (hm : P.follows .mixedOrders = true) (hp : PrimOK P base G prim) (ht : TabSOK P G N tab) : ∀ n, CallOK P base G (evH tab prim n) := by
  intro n
  induction n with
  | zero => intro f args H v H' h; cases h
  | succ n ih =>
    intro f args H v H' h
    have h : (Option.rec (motive := fun _ => R) (ob (tab f) fun ff => ff.run (evH tab prim n) args H) (fun p => p args H) (prim f) : R) = some (v, H') := h
    cases hpf : prim f with
    | some p =>
      rw [hpf] at h
      exact hp f args H v H' (by simp only [hpf]; exact h)
    | none =>
      rw [hpf] at h
      have h : (ob (tab f) fun ff => ff.run (evH tab prim n) args H) = some (v, H') := h
      cases htf : tab f with
      | none => rw [htf] at h; cases h
      | some s =>
        rw [htf] at h
        obtain ⟨kf, h1, h2⟩ := ht f s htf
        obtain ⟨h3, h4⟩ := mkFf_sim (h2 _ _ _ _ h)
        exact body_sound hm ih h1 h3 h4

end
end Go.Ab
