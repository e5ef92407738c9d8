/- Regions whose order is open: how they are made ready and how they run. -/
import Derived.Test.YtooindilclphjaaGreatDoorAbO
import Derived.Orders
namespace Go.Ab
noncomputable section

structure DI where
  idx : Nat
  dst : Option Nat
  g : Option (Nat × Bool)
  k : KOp
  looks : List Nat
  deps : List Nat
  anc : Nat
  olds : List Nat

inductive DE where
  | q (d : DI)
  | l (d : DI) (chks : List DI)

def memN (n : Nat) : List Nat → Bool
  | [] => false
  | m :: r => cond (Nat.beq n m) true (memN n r)

theorem memN_iff {n : Nat} : ∀ {l : List Nat}, memN n l = true ↔ n ∈ l
  | [] => by simp [memN]
  | m :: r => by
    simp only [memN, List.mem_cons]
    cases h : Nat.beq n m with
    | true => simp [Nat.eq_of_beq_eq_true h]
    | false =>
      have := Nat.ne_of_beq_eq_false h
      simp [memN_iff, this]

def bitN (m n : Nat) : Bool := Nat.beq (Nat.mod (Nat.shiftRight m n) 2) 1

theorem bitN_eq (m n : Nat) : bitN m n = m.testBit n := by
  rw [Nat.testBit_eq_decide_div_mod_eq]
  unfold bitN
  rw [show Nat.shiftRight m n = m >>> n from rfl, Nat.shiftRight_eq_div_pow]
  show Nat.beq (m / 2 ^ n % 2) 1 = _
  cases h : Nat.beq (m / 2 ^ n % 2) 1 with
  | true => simp [Nat.eq_of_beq_eq_true h]
  | false => simp [Nat.ne_of_beq_eq_false h]

def ev2 (olds : List Nat) (tm0 tm : Tr AV) (x : Opnd) : AV := match x with
  | .tmp t => cond (memN t olds) (getU tm0 t) (getU tm t)
  | .con v => v
  | .glob g => .ptr g 0
  | .fn f => .fn f [] []

def wantD (g : Option (Nat × Bool)) (ev : Opnd → AV) : Bool := match g with
  | none => true
  | some (t, b) => isB (ev (.tmp t)) b

def stepV (P : Program) (call : CallFn) (d : DI) (ev : Opnd → AV) (H : AHeap) : Option (AV × AHeap) := cond (wantD d.g ev) (opK P call d.k ev H) (some (.undef, H))

def sameD (dst : Option Nat) (tm : Tr AV) (v : AV) : Bool := match dst with
  | none => true
  | some t => AV.beq v (getU tm t)

def chkV (d : DI) (ev : Opnd → AV) (tm : Tr AV) (H : AHeap) : Bool := cond (wantD d.g ev) (match d.k with
  | .r k => match rdK k ev H with
    | some v => sameD d.dst tm v
    | none => false
  | _ => false) true

def chksV (tm0 tm : Tr AV) (H : AHeap) : List DI → Bool
  | [] => true
  | d :: r => cond (chkV d (ev2 d.olds tm0 tm) tm H) (chksV tm0 tm H r) false

def evD (P : Program) (call : CallFn) (tm0 : Tr AV) : List DE → Tr AV → AHeap → Option (Tr AV × AHeap)
  | [], tm, H => some (tm, H)
  | .q d :: r, tm, H => match stepV P call d (ev2 d.olds tm0 tm) H with
    | some (v, H') => evD P call tm0 r (putK tm d.dst v) H'
    | none => none
  | .l d chks :: r, tm, H => match stepV P call d (ev2 d.olds tm0 tm) H with
    | some (v, H') => cond (chksV tm0 (putK tm d.dst v) H' chks) (evD P call tm0 r (putK tm d.dst v) H') none
    | none => none

def DE.it : DE → DI
  | .q d => d
  | .l d _ => d
def isN : KOp → Bool
  | .n _ => true
  | _ => false
def isQ : KOp → Bool
  | .n _ => true
  | .r _ => true
  | _ => false
/-- What it yields does not hang on the heap. -/
def pureR : KR → Bool
  | .load _ _ => false
  | .slice _ _ _ _ _ => false
  | .look _ _ _ _ _ => false
  | .len _ _ => false
  | _ => true
def isP : KOp → Bool
  | .n _ => true
  | .r k => pureR k
  | _ => false

theorem rdK_pure {k : KR} (h : pureR k = true) (ev : Opnd → AV) (H H' : AHeap) : rdK k ev H = rdK k ev H' := by
  cases k <;> first | rfl | cases h

theorem aLoad_mono {sz : Option Nat} {x : AV} {H H' : AHeap} {v : AV} (hm : ∀ b o, H.get b = some o → H'.get b = some o) (h : aLoad sz H x = some v) : aLoad sz H' x = some v := by
  cases x with
  | ptr b o =>
    unfold aLoad at *
    simp only at h ⊢
    cases hb : H.get b with
    | none => rw [hb] at h; cases h
    | some ob => rw [hb] at h; rw [hm _ _ hb]; exact h
  | _ => cases h

theorem aSlice_mono {esz : Nat} {x : AV} {lo hi mx : Option AV} {H H' : AHeap} {v : AV} (hm : ∀ b o, H.get b = some o → H'.get b = some o) (h : aSlice esz H x lo hi mx = some v) : aSlice esz H' x lo hi mx = some v := by
  cases x with
  | sl b o len cap =>
    cases cap with
    | some c => exact h
    | none =>
      unfold aSlice at *
      simp only at h ⊢
      cases hb : H.get b with
      | some ob => rw [hb] at h; rw [hm _ _ hb]; exact h
      | none =>
        rw [hb] at h
        cases hp : aOpt 0 lo with
        | none => rw [hp] at h; exact h
        | some l =>
          rw [hp] at h
          cases hq : aOpt len hi with
          | none => rw [hq] at h; exact h
          | some u =>
            rw [hq] at h
            cases mx with
            | some m => exact h
            | none =>
              simp only at h
              cases hle : Nat.ble l u with
              | false => rw [hle] at h; cases h
              | true => rw [hle] at h; cases h
  | _ => exact h

theorem aLook_mono {k : EqK} {z : AV} {ok : Bool} {m key : AV} {H H' : AHeap} {v : AV} (hm : ∀ b o, H.get b = some o → H'.get b = some o) (h : aLook k z ok H m key = some v) : aLook k z ok H' m key = some v := by
  unfold aLook at *
  cases hk : keyOk k key with
  | false => rw [hk] at h; cases h
  | true =>
    rw [hk] at h
    simp only [cond_true] at h ⊢
    cases m with
    | map b =>
      simp only at h ⊢
      cases hb : H.get b with
      | none => rw [hb] at h; cases h
      | some ob => rw [hb] at h; rw [hm _ _ hb]; exact h
    | _ => exact h

theorem aLen_mono {k : LenK} {x : AV} {H H' : AHeap} {v : AV} (hm : ∀ b o, H.get b = some o → H'.get b = some o) (h : aLen k H x = some v) : aLen k H' x = some v := by
  cases x with
  | map b =>
    cases k with
    | map =>
      unfold aLen at *
      simp only at h ⊢
      cases hb : H.get b with
      | none => rw [hb] at h; cases h
      | some ob => rw [hb] at h; rw [hm _ _ hb]; exact h
    | _ => exact h
  | _ => cases k <;> exact h

theorem rdK_mono {k : KR} {ev : Opnd → AV} {H H' : AHeap} {v : AV} (hm : ∀ b o, H.get b = some o → H'.get b = some o) (h : rdK k ev H = some v) : rdK k ev H' = some v := by
  cases k with
  | load sz x => exact aLoad_mono hm h
  | slice esz x lo hi mx => exact aSlice_mono hm h
  | look k z ok m key => exact aLook_mono hm h
  | len k x => exact aLen_mono hm h
  | _ => exact h

/-! ### Made ready -/

def depsOf (o : Oper) : List Nat := (o.after.toList.filter (Region.binds .any)).map (·.on)

def anc1 (T : List Nat) : List Nat → Nat
  | [] => 0
  | e :: r => Nat.lor (Nat.lor (Nat.pow 2 e) (T.getD e 0)) (anc1 T r)

def mkDIs (P : Program) (G : List Nat) (ops : Array Oper) : Nat → List Oper → List Nat → Option (List DI)
  | _, [], _ => some []
  | i, o :: r, T => match guardOf ops o.guard, comp P G o.op with
    | some g, some k =>
      let deps := depsOf o
      let anc := anc1 T deps
      match mkDIs P G ops (i + 1) r (T ++ [anc]) with
      | some l => some (⟨i, o.dst, g, k, o.looksAt ops, deps, anc, []⟩ :: l)
      | none => none
    | _, _ => none

def dstIs (d : DI) (t : Nat) : Bool := match d.dst with
  | some u => Nat.beq u t
  | none => false

def oldOf (l : List DI) (d : DI) : List Nat := d.looks.filter fun t => l.any fun p => dstIs p t && !bitN d.anc p.idx

def withOlds (l : List DI) : List DI := l.map fun d => { d with olds := oldOf l d }

def mayQ (seen : Nat) (d : DI) : Bool := !bitN seen d.idx && (Nat.beq (Nat.land d.anc seen) d.anc)

def canon (l : List DI) : Nat → Nat → List DI → List DE
  | 0, _, _ => []
  | f + 1, seen, rd => match l.find? fun d => mayQ seen d && isQ d.k with
    | some d => .q d :: canon l f (Nat.lor seen (Nat.pow 2 d.idx)) (cond (isP d.k) rd (rd ++ [d]))
    | none => match l.find? fun d => mayQ seen d with
      | some d => .l d (rd.filter fun c => !bitN d.anc c.idx) :: canon l f (Nat.lor seen (Nat.pow 2 d.idx)) rd
      | none => []

def hasIdx (i : Nat) (l : List DI) : Bool := l.any fun d => Nat.beq d.idx i

/-- The table of what stands before what. -/
def okAnc (T : List Nat) (l : List DI) : Bool := l.all fun d => (d.deps.all fun e => Nat.ble (e + 1) d.idx) && Nat.beq d.anc (anc1 T d.deps)
def okCover (L : List DE) (n : Nat) : Bool := (List.range n).all fun i => L.any fun x => Nat.beq x.it.idx i
def okSingle : List DI → Bool
  | [] => true
  | d :: r => (match d.dst with
    | some t => r.all fun p => !dstIs p t
    | none => true) && okSingle r
def okLooks (l : List DI) : Bool := l.all fun d => d.looks.all fun t => l.all fun p => !dstIs p t || cond (memN t d.olds) (Nat.beq p.idx d.idx || bitN p.anc d.idx) (bitN d.anc p.idx)
/-- Along the list: what stood so far, what is still to come. -/
def okRun : List DE → List DE → Bool
  | _, [] => true
  | pre, .q d :: r => isQ d.k && (r.all fun x => !Nat.beq x.it.idx d.idx) && (d.looks.all fun t => memN t d.olds || (!dstIs d t && r.all fun x => !dstIs x.it t)) && okRun (pre ++ [.q d]) r
  | pre, .l d chks :: r => (r.all fun x => !Nat.beq x.it.idx d.idx && bitN x.it.anc d.idx) && (d.looks.all fun t => memN t d.olds || (!dstIs d t && r.all fun x => !dstIs x.it t)) &&
      (pre.all fun x => match x with
        | .q q => isP q.k || bitN d.anc q.idx || hasIdx q.idx chks
        | .l _ _ => true) &&
      (chks.all fun c => isQ c.k && (pre.any fun x => match x with
        | .q q => Nat.beq q.idx c.idx
        | .l _ _ => false)) && okRun (pre ++ [.l d chks]) r

def okD (n : Nat) (l : List DI) (L : List DE) : Bool := okAnc (l.map (·.anc)) l && (okCover L n && (okSingle l && (okLooks l && okRun [] L)))

def compD (P : Program) (G : List Nat) (ops : Array Oper) : Option (List DE) := match mkDIs P G ops 0 ops.toList [] with
  | none => none
  | some l0 =>
    let l := withOlds l0
    let L := canon l ops.size 0 []
    cond (okD ops.size l L && Region.noSelect ops) (some L) none

end
end Go.Ab
