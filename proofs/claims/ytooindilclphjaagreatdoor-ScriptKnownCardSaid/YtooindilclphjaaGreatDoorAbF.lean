/- Operations that only compute or read. -/
import Derived.Test.YtooindilclphjaaGreatDoorAbE
namespace Go.Ab
noncomputable section

def aBinI (op : BinOp) (k : IntKind) (a b : Int) : Option AV :=
  match op with
  | .add => some (.int k (fwrap k (iadd a b)))
  | .sub => some (.int k (fwrap k (isub a b)))
  | .mul => some (.int k (fwrap k (imul a b)))
  | .quo => cond (ieq b 0) none (some (.int k (fwrap k (a.tdiv b))))
  | .rem => cond (ieq b 0) none (some (.int k (a.tmod b)))
  | .and => some (.int k (fbits .and k a b))
  | .or => some (.int k (fbits .or k a b))
  | .xor => some (.int k (fbits .xor k a b))
  | .andNot => some (.int k (fbits .andNot k a b))
  | .eql => some (.bool (ieq a b))
  | .neq => some (.bool (!(ieq a b)))
  | .lss => some (.bool (!(ile b a)))
  | .leq => some (.bool (ile a b))
  | .gtr => some (.bool (!(ile a b)))
  | .geq => some (.bool (ile b a))
  | _ => none

def aShift (op : BinOp) (k : IntKind) (a b : Int) : Option AV :=
  match b with
  | .negSucc _ => none
  | .ofNat n => match op with
    | .shl => some (.int k (fshl k a (Nat.min n k.bits)))
    | .shr => some (.int k (fshr a (Nat.min n k.bits)))
    | _ => none

def isShift : BinOp → Bool
  | .shl | .shr => true
  | _ => false

def ltB : List UInt8 → List UInt8 → Bool
  | _, [] => false
  | [], _ :: _ => true
  | a :: x, b :: y => cond (Nat.blt a.toNat b.toNat) true (cond (Nat.beq a.toNat b.toNat) (ltB x y) false)

theorem ltB_eq : ∀ a b, ltB a b = Op.bytesLess a b
  | [], [] => rfl
  | _ :: _, [] => rfl
  | [], _ :: _ => rfl
  | a :: x, b :: y => by
    show cond (Nat.blt a.toNat b.toNat) true (cond (Nat.beq a.toNat b.toNat) (ltB x y) false) = (decide (a < b) || (a == b && Op.bytesLess x y))
    rw [ltB_eq x y, beq_dec]
    have h1 : Nat.blt a.toNat b.toNat = decide (a < b) := by
      show Nat.ble (a.toNat + 1) b.toNat = _
      rw [ble_dec]
      by_cases c : a < b
      · have : a.toNat < b.toNat := UInt8.lt_iff_toNat_lt.1 c
        simp [c]; omega
      · have : ¬ a.toNat < b.toNat := fun e => c (UInt8.lt_iff_toNat_lt.2 e)
        simp [c]; omega
    rw [h1]
    by_cases c : a < b
    · simp [c]
    · by_cases e : a = b
      · subst e; simp
      · have : ¬ a.toNat = b.toNat := fun q => e (UInt8.toNat_inj.1 q)
        simp [c, e, this]

def aBinS (op : BinOp) (a b : List UInt8) : Option AV :=
  match op with
  | .add => cond (Nat.ble (Nat.add a.length b.length) 9223372036854775807) (some (.str (a ++ b))) none
  | .eql => some (.bool (beqB a b))
  | .neq => some (.bool (!(beqB a b)))
  | .lss => some (.bool (ltB a b))
  | .leq => some (.bool (ltB a b || beqB a b))
  | .gtr => some (.bool (!(ltB a b || beqB a b)))
  | .geq => some (.bool (!(ltB a b)))
  | _ => none

def aBin (op : BinOp) (x y : AV) : Option AV :=
  match x, y with
  | .int k a, .int k' b => cond (isShift op) (aShift op k a b) (cond (kindEq k k') (aBinI op k a b) none)
  | .str a, .str b => aBinS op a b
  | _, _ => none

section
variable {P : Program} {ρ : Ren} {w : World}

theorem kindEq_true {k k' : IntKind} (h : kindEq k k' = true) : k = k' := by simpa [kindEq] using h

theorem not_ile (a b : Int) : (!(ile b a)) = decide (a < b) := by
  rw [ile_eq]; by_cases h : b ≤ a
  · have : ¬ a < b := by omega
    simp [h, this]
  · have : a < b := by omega
    simp [h, this]

theorem aBinI_sound {op : BinOp} {t : TypeId} {k : IntKind} {a b : Int} {v : AV} (h : aBinI op k a b = some v) : ∃ v', (binOp op t (.int k a) (.int k b)).run P w = .ok v' w ∧ VR ρ v v' := by
  cases op <;> simp only [aBinI] at h
  case add => cases h; exact ⟨_, by rw [binOp_add]; rfl, by rw [fwrap_eq, iadd_eq]; rfl⟩
  case sub => cases h; exact ⟨_, by rw [binOp_sub]; rfl, by rw [fwrap_eq, isub_eq]; rfl⟩
  case mul => cases h; exact ⟨_, by rw [binOp_mul]; rfl, by rw [fwrap_eq, imul_eq]; rfl⟩
  case quo =>
    rw [ieq_eq] at h
    by_cases c : b = 0
    · simp [c] at h
    · simp [c] at h; subst h
      exact ⟨.int k (k.wrap (a.tdiv b)), by rw [binOp_quo]; simp [Op.intDiv, c], by rw [fwrap_eq]; rfl⟩
  case rem =>
    rw [ieq_eq] at h
    by_cases c : b = 0
    · simp [c] at h
    · simp [c] at h; subst h
      exact ⟨.int k (a.tmod b), by rw [binOp_rem]; simp [Op.intDiv, c], rfl⟩
  case and => cases h; exact ⟨_, by rw [binOp_and]; rfl, by rw [fbits_eq]; rfl⟩
  case or => cases h; exact ⟨_, by rw [binOp_or]; rfl, by rw [fbits_eq]; rfl⟩
  case xor => cases h; exact ⟨_, by rw [binOp_xor]; rfl, by rw [fbits_eq]; rfl⟩
  case andNot => cases h; exact ⟨_, by rw [binOp_andNot]; rfl, by rw [fbits_eq]; rfl⟩
  case eql => cases h; exact ⟨_, by rw [binOp_eql]; rfl, by rw [ieq_beq]; rfl⟩
  case neq => cases h; exact ⟨_, by rw [binOp_neq]; rfl, by rw [show (a != b) = !(a == b) from rfl, ieq_beq]; rfl⟩
  case lss => cases h; exact ⟨_, by rw [binOp_lss]; rfl, by rw [not_ile]; rfl⟩
  case leq => cases h; exact ⟨_, by rw [binOp_leq]; rfl, by rw [ile_eq]; rfl⟩
  case gtr => cases h; exact ⟨_, by rw [binOp_gtr]; rfl, by rw [not_ile]; rfl⟩
  case geq => cases h; exact ⟨_, by rw [binOp_geq]; rfl, by rw [ile_eq]; rfl⟩
  all_goals cases h

theorem aShift_sound {op : BinOp} {t : TypeId} {k k' : IntKind} {a b : Int} {v : AV} (h : aShift op k a b = some v) : ∃ v', (binOp op t (.int k a) (.int k' b)).run P w = .ok v' w ∧ VR ρ v v' := by
  cases b with
  | negSucc n => cases h
  | ofNat n =>
    have h0 : ¬ (Int.ofNat n < 0) := by simp
    have e : (Int.ofNat n).toNat = n := rfl
    cases op <;> simp only [aShift] at h <;> (try cases h)
    · exact ⟨_, by rw [binOp_shl]; simp only [Op.shift, if_neg h0, e]; rfl, by rw [fshl_eq]; rfl⟩
    · exact ⟨_, by rw [binOp_shr]; simp only [Op.shift, if_neg h0, e]; rfl, by rw [fshr_eq]; rfl⟩

theorem aBinS_sound {op : BinOp} {t : TypeId} {a b : List UInt8} {v : AV} (h : aBinS op a b = some v) : ∃ v', (binOp op t (.string ⟨a.toArray⟩) (.string ⟨b.toArray⟩)).run P w = .ok v' w ∧ VR ρ v v' := by
  have tl := toList_mk
  have hb := fun (a b : List UInt8) => show (a == b) = beqB a b by rw [beqB_eq]; by_cases h : a = b <;> simp [h]
  cases op <;> simp only [aBinS] at h
  case add =>
    cases hc : Nat.ble (Nat.add a.length b.length) 9223372036854775807 with
    | false => rw [hc] at h; cases h
    | true =>
      rw [hc] at h; cases h
      have := Nat.le_of_ble_eq_true hc
      have hlen : a.length + b.length ≤ 9223372036854775807 := this
      refine ⟨.string (⟨a.toArray⟩ ++ ⟨b.toArray⟩), ?_, ?_⟩
      · rw [binOp_string_add]
        have : ¬ ((((⟨a.toArray⟩ : ByteArray).size + (⟨b.toArray⟩ : ByteArray).size : Nat) : Int) > IntKind.i64.max) := by
          show ¬ (((a.length + b.length : Nat) : Int) > IntKind.i64.max)
          have : IntKind.i64.max = 9223372036854775807 := by decide
          rw [this]; omega
        simp only [Op.stringOp, if_neg this]; rfl
      · show Value.string _ = Value.string _
        congr 1
  case eql => cases h; exact ⟨_, by rw [binOp_string_eql]; rfl, by rw [tl, tl, hb]; rfl⟩
  case neq => cases h; exact ⟨_, by rw [binOp_string_neq]; rfl, by rw [tl, tl, hb]; rfl⟩
  case lss => cases h; exact ⟨_, by rw [binOp_string_lss]; rfl, by rw [tl, tl, ← ltB_eq]; rfl⟩
  case leq => cases h; exact ⟨_, by rw [binOp_string_leq]; rfl, by rw [tl, tl, ← ltB_eq, hb]; rfl⟩
  case gtr => cases h; exact ⟨_, by rw [binOp_string_gtr]; rfl, by rw [tl, tl, ← ltB_eq, hb]; rfl⟩
  case geq => cases h; exact ⟨_, by rw [binOp_string_geq]; rfl, by rw [tl, tl, ← ltB_eq]; rfl⟩
  all_goals cases h

theorem aBin_sound {op : BinOp} {t : TypeId} {x y v : AV} {x' y' : Value} (h : aBin op x y = some v) (hx : VR ρ x x') (hy : VR ρ y y') (o1 o2 : Operand) :
    ∃ v', (do eqGuard op t o1 o2 x' y'; binOp op t x' y' : Sem Value).run P w = .ok v' w ∧ VR ρ v v' := by
  cases x <;> cases y <;> simp only [aBin] at h <;> (try cases h)
  case int.int k a k' b =>
    obtain rfl := hx; obtain rfl := hy
    have hg : (eqGuard op t o1 o2 (.int k a) (.int k' b)).run P w = .ok () w := by rw [eqGuard_at_int]; rfl
    have hb : ∃ v', (binOp op t (.int k a) (.int k' b)).run P w = .ok v' w ∧ VR ρ v v' := by
      cases hs : isShift op with
      | true => rw [hs] at h; exact aShift_sound h
      | false =>
        rw [hs] at h
        cases hk : kindEq k k' with
        | false => rw [hk] at h; cases h
        | true => rw [hk] at h; obtain rfl := kindEq_true hk; exact aBinI_sound h
    obtain ⟨v', h1, h2⟩ := hb
    exact ⟨v', by rw [run_bind_ok hg]; exact h1, h2⟩
  case str.str a b =>
    obtain rfl := hx; obtain rfl := hy
    have hg : (eqGuard op t o1 o2 (.string ⟨a.toArray⟩) (.string ⟨b.toArray⟩)).run P w = .ok () w := by rw [eqGuard_at_string]; rfl
    obtain ⟨v', h1, h2⟩ := aBinS_sound (P := P) (ρ := ρ) (w := w) (t := t) h
    exact ⟨v', by rw [run_bind_ok hg]; exact h1, h2⟩

/-- '==' and '!=' on other kinds. -/
def aEq (neg : Bool) (k : EqK) (x y : AV) : Option AV := match eqv k x y with
  | some r => some (.bool (cond neg (!r) r))
  | none => none

/-- May the two operands be compared without the guard's word? -/
def guardOk (P : Program) (t : TypeId) (k : EqK) (o1 o2 : Operand) : Bool :=
  match k with
  | .ifc => (match o1, o2 with
    | .const _, _ => true
    | _, .const _ => true
    | _, _ => false)
  | .struct _ => !(P.eqGuardType P.depth t)
  | .int | .str => false
  | _ => true

theorem aEq_sound {neg : Bool} {t : TypeId} {k : EqK} {d : Nat} {x y v : AV} {x' y' : Value} {o1 o2 : Operand} (hk : eqK P d t = some k) (hd : d ≤ 10000) (hg : guardOk P t k o1 o2 = true)
    (h : aEq neg k x y = some v) (hx : VR ρ x x') (hy : VR ρ y y') :
    ∃ v', (do eqGuard (cond neg .neq .eql) t o1 o2 x' y'; binOp (cond neg .neq .eql) t x' y' : Sem Value).run P w = .ok v' w ∧ VR ρ v v' := by
  unfold aEq at h
  cases he : eqv k x y with
  | none => rw [he] at h; cases h
  | some r =>
    rw [he] at h; cases h
    have heq := eqv_sound (w := w) hk he hx hy 10000 hd
    have hguard : (eqGuard (cond neg .neq .eql) t o1 o2 x' y').run P w = .ok () w := by
      cases k with
      | struct fs =>
        cases x <;> cases y <;> simp only [eqv, eqv1] at he <;> (try cases he)
        obtain ⟨xs, rfl, _⟩ := hx; obtain ⟨ys, rfl, _⟩ := hy
        exact run_eqGuard_agg w _ t o1 o2 _ _ (by simpa [guardOk] using hg)
      | ifc =>
        cases x <;> cases y <;> simp only [eqv, eqv1] at he <;> (try cases he)
        · obtain rfl := hx; obtain rfl := hy
          cases o1 <;> cases o2 <;> simp [guardOk] at hg <;> first | (rw [eqGuard_nil_constL]; rfl) | (rw [eqGuard_nil_constR]; rfl)
        · obtain rfl := hx; obtain ⟨u, rfl, _⟩ := hy; rw [eqGuard_nil_iface]; rfl
        · obtain ⟨u, rfl, _⟩ := hx; obtain rfl := hy; rw [eqGuard_at_iface]; rfl
      | bool =>
        cases x <;> cases y <;> simp only [eqv, eqv1] at he <;> (try cases he)
        obtain rfl := hx; rw [eqGuard_at_bool]; rfl
      | int => simp [guardOk] at hg
      | str => simp [guardOk] at hg
      | ptr =>
        cases x <;> cases y <;> simp only [eqv, eqv1] at he <;> (try cases he)
        · obtain rfl := hx; rw [eqGuard_at_pointer]; rfl
        · obtain rfl := hx; rw [eqGuard_at_pointer]; rfl
        · obtain ⟨L, _, rfl⟩ := hx; rw [eqGuard_at_pointer]; rfl
        · obtain ⟨L, _, rfl⟩ := hx; rw [eqGuard_at_pointer]; rfl
      | sl =>
        cases x <;> cases y <;> simp only [eqv, eqv1] at he <;> (try cases he)
        · obtain rfl := hx; rw [eqGuard_at_slice]; rfl
        · obtain rfl := hx; rw [eqGuard_at_slice]; rfl
        · obtain ⟨L, c, o, _, rfl, _⟩ := hx; rw [eqGuard_at_slice]; rfl
      | map =>
        cases x <;> cases y <;> simp only [eqv, eqv1] at he <;> (try cases he)
        · obtain rfl := hx; rw [eqGuard_at_map]; rfl
        · obtain rfl := hx; rw [eqGuard_at_map]; rfl
        · obtain ⟨L, _, rfl⟩ := hx; rw [eqGuard_at_map]; rfl
      | fn =>
        cases x <;> cases y <;> simp only [eqv, eqv1] at he <;> (try cases he)
        · obtain rfl := hx; rw [eqGuard_at_nilFunc]; rfl
        · obtain rfl := hx; rw [eqGuard_at_nilFunc]; rfl
        · obtain ⟨a, b, rfl, _⟩ := hx; rw [eqGuard_at_func]; rfl
    have hbin : (binOp (cond neg .neq .eql) t x' y').run P w = .ok (.bool (cond neg (!r) r)) w := by
      have hshape : binOp (cond neg .neq .eql) t x' y' = (Op.equal t x' y' >>= fun b => pure (.bool (cond neg (!b) b))) := by
        cases k with
        | struct fs =>
          cases x <;> cases y <;> simp only [eqv, eqv1] at he <;> (try cases he)
          obtain ⟨xs, rfl, _⟩ := hx; obtain ⟨ys, rfl, _⟩ := hy
          cases neg <;> rfl
        | ifc =>
          cases x <;> cases y <;> simp only [eqv, eqv1] at he <;> (try cases he)
          · obtain rfl := hx; obtain rfl := hy; cases neg <;> rfl
          · obtain rfl := hx; obtain ⟨u, rfl, _⟩ := hy; cases neg <;> rfl
          · obtain ⟨u, rfl, _⟩ := hx; obtain rfl := hy; cases neg <;> rfl
        | bool =>
          cases x <;> cases y <;> simp only [eqv, eqv1] at he <;> (try cases he)
          obtain rfl := hx; obtain rfl := hy; cases neg <;> rfl
        | int => simp [guardOk] at hg
        | str => simp [guardOk] at hg
        | ptr =>
          cases x <;> cases y <;> simp only [eqv, eqv1] at he <;> (try cases he)
          · obtain rfl := hx; obtain rfl := hy; cases neg <;> rfl
          · obtain rfl := hx; obtain ⟨L, _, rfl⟩ := hy; cases neg <;> rfl
          · obtain ⟨L, _, rfl⟩ := hx; obtain rfl := hy; cases neg <;> rfl
          · obtain ⟨L, _, rfl⟩ := hx; obtain ⟨L', _, rfl⟩ := hy; cases neg <;> rfl
        | sl =>
          cases x <;> cases y <;> simp only [eqv, eqv1] at he <;> (try cases he)
          · obtain rfl := hx; obtain rfl := hy; cases neg <;> rfl
          · obtain rfl := hx; obtain ⟨L, c, o, _, rfl, _⟩ := hy; cases neg <;> rfl
          · obtain ⟨L, c, o, _, rfl, _⟩ := hx; obtain rfl := hy; cases neg <;> rfl
        | map =>
          cases x <;> cases y <;> simp only [eqv, eqv1] at he <;> (try cases he)
          · obtain rfl := hx; obtain rfl := hy; cases neg <;> rfl
          · obtain rfl := hx; obtain ⟨L, _, rfl⟩ := hy; cases neg <;> rfl
          · obtain ⟨L, _, rfl⟩ := hx; obtain rfl := hy; cases neg <;> rfl
        | fn =>
          cases x <;> cases y <;> simp only [eqv, eqv1] at he <;> (try cases he)
          · obtain rfl := hx; obtain rfl := hy; cases neg <;> rfl
          · obtain rfl := hx; obtain ⟨a, b, rfl, _⟩ := hy; cases neg <;> rfl
          · obtain ⟨a, b, rfl, _⟩ := hx; obtain rfl := hy; cases neg <;> rfl
      rw [hshape, run_bind_ok (show (Op.equal t x' y').run P w = .ok r w from heq)]; rfl
    exact ⟨_, by rw [run_bind_ok hguard]; exact hbin, rfl⟩

def aUn (op : UnOp) (x : AV) : Option AV :=
  match op, x with
  | .not, .bool b => some (.bool (!b))
  | .neg, .int k n => some (.int k (fwrap k (isub 0 n)))
  | .xor, .int k n => some (.int k (fbits .xor k (cond k.signed (-1) k.max) n))
  | _, _ => none

theorem aUn_sound {op : UnOp} {x v : AV} {x' : Value} (h : aUn op x = some v) (hx : VR ρ x x') : ∃ v', (Op.unary op x').run P w = .ok v' w ∧ VR ρ v v' := by
  cases op <;> cases x <;> simp only [aUn] at h <;> (try cases h) <;> obtain rfl := hx
  · exact ⟨_, by rw [unary_neg]; rfl, by rw [fwrap_eq, isub_eq]; rfl⟩
  · rename_i k n
    exact ⟨_, by rw [unary_xor]; rfl, by rw [fbits_eq]; cases k <;> rfl⟩
  · exact ⟨_, by rw [unary_not]; rfl, rfl⟩

def aConv (k : IntKind) (x : AV) : Option AV := match x with
  | .int _ n => some (.int k (fwrap k n))
  | _ => none

theorem aConv_sound {src dst : TypeId} {k : IntKind} {x v : AV} {x' : Value} (hs : (P.underlying src).isSome = true) (hd : P.underlying dst = some (.int k)) (h : aConv k x = some v) (hx : VR ρ x x') :
    ∃ v', (convert src dst x').run P w = .ok v' w ∧ VR ρ v v' := by
  cases x <;> simp only [aConv] at h <;> (try cases h)
  obtain rfl := hx
  rename_i k0 n
  have hk : P.intKind dst = k := by simp [Program.intKind, hd]
  exact ⟨_, run_convert_int w src dst k0 n hs (by rw [hk]; exact hd), by rw [fwrap_eq, hk]; rfl⟩

def aNil : AV → Option AV
  | .nilp | .nilif | .nilfn => none
  | .agg _ | .tup _ => none
  | x => some x

def aPick (c a b : AV) : Option AV := match c with
  | .bool true => some a
  | .bool false => some b
  | _ => none

def aExt (x : AV) (i : Nat) : Option AV := match x with
  | .tup l => l[i]?
  | _ => none

theorem aExt_sound {x v : AV} {i : Nat} {x' : Value} (h : aExt x i = some v) (hx : VR ρ x x') : ∃ v', (Instr.extract x' i).run P w = .ok v' w ∧ VR ρ v v' := by
  cases x <;> simp only [aExt] at h <;> (try cases h)
  obtain ⟨l', rfl, hl⟩ := hx
  obtain ⟨v', e, hr⟩ := VRs.get hl h
  exact ⟨v', by simp [Instr.extract, e], hr⟩

def aFaddr (off : Nat) (x : AV) : Option AV := match x with
  | .ptr b o => some (.ptr b (Nat.add o off))
  | _ => none

theorem aFaddr_sound {s : TypeId} {fs : Array Field} {f : Field} {i : Nat} {inf : TypeInfo} {x v : AV} {x' : Value} (hs : P.underlying s = some (.struct fs)) (hf : fs[i]? = some f) (hi : P.info? f.type = some inf)
    (hz : inf.size ≠ 0) (h : aFaddr f.offset x = some v) (hx : VR ρ x x') : ∃ v', (Instr.fieldAt s x' i).run P w = .ok v' w ∧ VR ρ v v' := by
  cases x <;> simp only [aFaddr] at h <;> (try cases h)
  obtain ⟨L, e, rfl⟩ := hx
  rename_i b o
  refine ⟨.pointer (some ⟨L.blk, L.off + (o + f.offset), none⟩), ?_, L, e, rfl⟩
  unfold Instr.fieldAt
  rw [run_bind_ok (run_underlying' w hs)]
  simp only [hf]
  show (fieldPlace ⟨L.blk, L.off + o, none⟩ f >>= fun a => pure (Value.pointer (some a))).run P w = _
  have hp : (fieldPlace ⟨L.blk, L.off + o, none⟩ f).run P w = .ok ⟨L.blk, L.off + o + f.offset, none⟩ w := by
    unfold fieldPlace
    rw [run_bind_ok (run_sizeOf w hi), if_neg hz, addr_add]; rfl
  rw [run_bind_ok hp]
  rw [Nat.add_assoc]; rfl

def aIaddr (esz : Nat) (x i : AV) : Option AV := match x, i with
  | .sl b o len _, .int _ (.ofNat n) => cond (Nat.blt n len) (some (.ptr b (Nat.add o (Nat.mul n esz)))) none
  | _, _ => none

theorem blt_dec (a b : Nat) : Nat.blt a b = decide (a < b) := by show Nat.ble (a + 1) b = _; rw [ble_dec]; rfl

theorem elem_of {t e : TypeId} (h : P.underlying t = some (.slice e)) : P.elem t = e := by simp [Program.elem, h]
theorem elem_of_arr {t e : TypeId} {n : Nat} (h : P.underlying t = some (.array n e)) : P.elem t = e := by simp [Program.elem, h]
theorem arrlen_of {t e : TypeId} {n : Nat} (h : P.underlying t = some (.array n e)) : P.arrayLen t = n := by simp [Program.arrayLen, h]

theorem aIaddr_sound {t e : TypeId} {inf : TypeInfo} {x i v : AV} {x' i' : Value} (ht : P.underlying t = some (.slice e)) (he : P.info? e = some inf) (h : aIaddr inf.size x i = some v) (hx : VR ρ x x') (hi : VR ρ i i') :
    ∃ v', (Instr.indexAt t x' i').run P w = .ok v' w ∧ VR ρ v v' := by
  cases x <;> cases i <;> simp only [aIaddr] at h <;> (try cases h)
  rename_i b o len cap k n
  cases n with
  | negSucc n => cases h
  | ofNat n =>
    dsimp only at h
    cases hb : Nat.blt n len with
    | false => rw [hb] at h; cases h
    | true =>
      rw [hb] at h; cases h
      obtain ⟨L, c, o', e1, rfl, hlc, ho, _⟩ := hx
      obtain rfl := hi
      rw [blt_dec] at hb
      have hlt : n < len := by simpa using hb
      have ho' := ho (by omega)
      subst ho'
      refine ⟨.pointer (some ⟨L.blk, L.off + (o + n * inf.size), none⟩), ?_, L, e1, rfl⟩
      rw [run_indexAt_slice w t ⟨L.blk, L.off + o, none⟩ len c k (.ofNat n) (by rw [elem_of ht]; exact ht), elem_of ht, run_sizeOf w he]
      have : (0 : Int) ≤ Int.ofNat n ∧ Int.ofNat n < (len : Int) := ⟨by simp, by simpa using hlt⟩
      simp [Result.andThen, hlt, addr_add, Nat.add_assoc]

def aIaddrA (esz len : Nat) (x i : AV) : Option AV := match x, i with
  | .ptr b o, .int _ (.ofNat n) => cond (Nat.blt n len) (some (.ptr b (Nat.add o (Nat.mul n esz)))) none
  | _, _ => none

theorem aIaddrA_sound {t e : TypeId} {len : Nat} {inf : TypeInfo} {x i v : AV} {x' i' : Value} (ht : P.underlying t = some (.array len e)) (he : P.info? e = some inf) (h : aIaddrA inf.size len x i = some v) (hx : VR ρ x x') (hi : VR ρ i i') :
    ∃ v', (Instr.indexAt t x' i').run P w = .ok v' w ∧ VR ρ v v' := by
  cases x <;> cases i <;> simp only [aIaddrA] at h <;> (try cases h)
  rename_i b o k n
  cases n with
  | negSucc n => cases h
  | ofNat n =>
    dsimp only at h
    cases hb : Nat.blt n len with
    | false => rw [hb] at h; cases h
    | true =>
      rw [hb] at h; cases h
      obtain ⟨L, e1, rfl⟩ := hx
      obtain rfl := hi
      rw [blt_dec] at hb
      have hlt : n < len := by simpa using hb
      refine ⟨.pointer (some ⟨L.blk, L.off + (o + n * inf.size), none⟩), ?_, L, e1, rfl⟩
      have c : (0 : Int) ≤ Int.ofNat n ∧ Int.ofNat n < (len : Int) := ⟨by simp, by simpa using hlt⟩
      unfold Instr.indexAt
      simp only [asIntOf, Sem.run_bind, Sem.run_pure, Result.andThen_ok, run_underlying ht, Instr.sureAddr, if_pos c, run_sizeOf w he, addr_add]
      rw [Nat.add_assoc]; rfl

def aIdxS (x i : AV) : Option AV := match x, i with
  | .str l, .int _ (.ofNat n) => match l[n]? with
    | some b => some (.int .u8 (.ofNat b.toNat))
    | none => none
  | _, _ => none

theorem aIdxS_sound {t : TypeId} {x i v : AV} {x' i' : Value} (ht : P.underlying t = some .string) (h : aIdxS x i = some v) (hx : VR ρ x x') (hi : VR ρ i i') :
    ∃ v', (Instr.index t x' i').run P w = .ok v' w ∧ VR ρ v v' := by
  cases x <;> cases i <;> simp only [aIdxS] at h <;> (try cases h)
  rename_i l k n
  cases n with
  | negSucc n => cases h
  | ofNat n =>
    dsimp only at h
    cases hl : l[n]? with
    | none => rw [hl] at h; cases h
    | some b =>
      rw [hl] at h; cases h
      obtain rfl := hx; obtain rfl := hi
      refine ⟨.int .u8 b.toNat, ?_, rfl⟩
      have hn : n < l.length := by
        rcases Nat.lt_or_ge n l.length with c | c
        · exact c
        · rw [List.getElem?_eq_none c] at hl; cases hl
      have hcond : 0 ≤ Int.ofNat n ∧ Int.ofNat n < ((⟨l.toArray⟩ : ByteArray).size : Int) := ⟨by simp, by show (n : Int) < ((l.length : Nat) : Int); omega⟩
      rw [run_index_string w t _ k _ ht, dif_pos hcond]
      have : (⟨l.toArray⟩ : ByteArray)[(Int.ofNat n).toNat]'(by show n < l.length; exact hn) = b := by
        show l[n] = b
        rw [List.getElem?_eq_getElem hn] at hl
        exact Option.some.inj hl
      rw [this]

def aFld (off : Nat) (sz : Option Nat) (x : AV) : Option AV := match x with
  | .agg l => partA l off sz
  | _ => none

/-- How a part of a type lies: none: one cell. -/
def partSz (P : Program) (t : TypeId) : Option (Option Nat) :=
  match P.underlying t with
  | some (.struct _) | some (.array _ _) => (P.info? t).map fun i => some i.size
  | some _ => some none
  | none => none

theorem part_sound {t : TypeId} {sz : Option Nat} {l : List AV} {l' : List Value} {off : Nat} {v : AV} (ht : partSz P t = some sz) (h : partA l off sz = some v) (hl : VRs ρ l l') :
    ∃ v', (part t l'.toArray off).run P w = .ok v' w ∧ VR ρ v v' := by
  unfold partSz at ht
  cases hu : P.underlying t with
  | none => rw [hu] at ht; cases ht
  | some D =>
    rw [hu] at ht
    by_cases hs : ∃ fs, D = .struct fs
    · obtain ⟨fs, rfl⟩ := hs
      cases hi : P.info? t with
      | none => rw [hi] at ht; cases ht
      | some i =>
        rw [hi] at ht; cases ht
        cases h
        exact ⟨_, by rw [run_partS w (run_isAgg_struct w hu) hi, toArray_extract], _, rfl, VRs.extract hl _ _⟩
    · by_cases ha : ∃ n e, D = .array n e
      · obtain ⟨n, e, rfl⟩ := ha
        cases hi : P.info? t with
        | none => rw [hi] at ht; cases ht
        | some i =>
          rw [hi] at ht; cases ht
          cases h
          exact ⟨_, by rw [run_partS w (run_isAgg_array w hu) hi, toArray_extract], _, rfl, VRs.extract hl _ _⟩
      · have : sz = none := by
          cases D <;> first | exact (Option.some.inj ht).symm | exact absurd ⟨_, rfl⟩ hs | exact absurd ⟨_, _, rfl⟩ ha
        subst this
        obtain ⟨v', e, hr⟩ := VRs.get hl h
        exact ⟨v', run_part1 w hu (fun q e => hs ⟨q, e⟩) (fun q e c => ha ⟨q, e, c⟩) (by simpa using e), hr⟩

theorem aFld_sound {s : TypeId} {fs : Array Field} {f : Field} {i : Nat} {sz : Option Nat} {x v : AV} {x' : Value} (hs : P.underlying s = some (.struct fs)) (hf : fs[i]? = some f) (ht : partSz P f.type = some sz)
    (h : aFld f.offset sz x = some v) (hx : VR ρ x x') : ∃ v', (Instr.field s x' i).run P w = .ok v' w ∧ VR ρ v v' := by
  cases x <;> simp only [aFld] at h <;> (try cases h)
  obtain ⟨l', rfl, hl⟩ := hx
  obtain ⟨v', h1, h2⟩ := part_sound (w := w) ht h hl
  refine ⟨v', ?_, h2⟩
  unfold Instr.field
  rw [run_bind_ok (run_underlying' w hs)]
  simp only [hf]
  exact h1

def aIdxA (esz len : Nat) (sz : Option Nat) (x i : AV) : Option AV := match x, i with
  | .agg l, .int _ (.ofNat n) => cond (Nat.blt n len) (partA l (Nat.mul n esz) sz) none
  | _, _ => none

theorem aIdxA_sound {t e : TypeId} {len : Nat} {inf : TypeInfo} {sz : Option Nat} {x i v : AV} {x' i' : Value} (ht : P.underlying t = some (.array len e)) (he : P.info? e = some inf) (hz : partSz P e = some sz)
    (h : aIdxA inf.size len sz x i = some v) (hx : VR ρ x x') (hi : VR ρ i i') : ∃ v', (Instr.index t x' i').run P w = .ok v' w ∧ VR ρ v v' := by
  cases x <;> cases i <;> simp only [aIdxA] at h <;> (try cases h)
  rename_i l k n
  cases n with
  | negSucc n => cases h
  | ofNat n =>
    dsimp only at h
    cases hb : Nat.blt n len with
    | false => rw [hb] at h; cases h
    | true =>
      rw [hb] at h
      obtain ⟨l', rfl, hl⟩ := hx
      obtain rfl := hi
      rw [blt_dec] at hb
      have hlt : n < len := by simpa using hb
      obtain ⟨v', h1, h2⟩ := part_sound (w := w) hz h hl
      refine ⟨v', ?_, h2⟩
      have c : (0 : Int) ≤ Int.ofNat n ∧ Int.ofNat n < (len : Int) := ⟨by simp, by simpa using hlt⟩
      unfold Instr.index
      simp only [asIntOf, Sem.run_bind, Sem.run_pure, Result.andThen_ok, run_underlying ht, if_pos c, run_sizeOf w he]
      exact h1

end
end
end Go.Ab
