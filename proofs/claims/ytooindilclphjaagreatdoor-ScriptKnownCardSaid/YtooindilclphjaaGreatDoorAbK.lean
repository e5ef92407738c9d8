/- copy, clear; maps. -/
import Derived.Test.YtooindilclphjaaGreatDoorAbJ
namespace Go.Ab
noncomputable section

def capEq : Option Nat → Option Nat → Bool
  | none, none => true
  | some x, some y => Nat.beq x y
  | _, _ => false

theorem capEq_eq {a b : Option Nat} (h : capEq a b = true) : a = b := by
  cases a <;> cases b <;> simp only [capEq] at h <;> first | rfl | cases h | rw [Nat.eq_of_beq_eq_true h]

mutual
def AV.beq : AV → AV → Bool
  | .bool a, .bool b => bbeq a b
  | .int k a, .int k' b => cond (kindEq k k') (ieq a b) false
  | .str a, .str b => beqB a b
  | .nilp, .nilp => true
  | .ptr a b, .ptr c d => cond (Nat.beq a c) (Nat.beq b d) false
  | .nilsl, .nilsl => true
  | .sl a b c d, .sl e f g h => cond (Nat.beq a e) (cond (Nat.beq b f) (cond (Nat.beq c g) (capEq d h) false) false) false
  | .nilmap, .nilmap => true
  | .map a, .map b => Nat.beq a b
  | .nilfn, .nilfn => true
  | .fn a b c, .fn d e f => cond (Nat.beq a d) (cond (AV.beqs b e) (AV.beqs c f) false) false
  | .nilif, .nilif => true
  | .iface a b, .iface c d => cond (Nat.beq a c) (AV.beq b d) false
  | .agg a, .agg b => AV.beqs a b
  | .tup a, .tup b => AV.beqs a b
  | _, _ => false
def AV.beqs : List AV → List AV → Bool
  | [], [] => true
  | a :: r, b :: s => cond (AV.beq a b) (AV.beqs r s) false
  | _, _ => false
end

theorem cond_true' {a b : Bool} (h : cond a b false = true) : a = true ∧ b = true := by cases a <;> simp_all

mutual
theorem AV.beq_eq : ∀ {a b : AV}, AV.beq a b = true → a = b
  | .bool a, b, h => by cases b <;> simp only [AV.beq] at h <;> (try cases h); rw [bbeq_eq] at h; simp at h; rw [h]
  | .int k a, b, h => by
    cases b <;> simp only [AV.beq] at h <;> (try cases h)
    obtain ⟨h1, h2⟩ := cond_true' h
    rw [ieq_eq] at h2
    rw [kindEq_true h1, of_decide_eq_true h2]
  | .str a, b, h => by
    cases b <;> simp only [AV.beq] at h <;> (try cases h)
    rw [beqB_eq] at h
    rw [of_decide_eq_true h]
  | .nilp, b, h => by cases b <;> simp only [AV.beq] at h <;> first | rfl | cases h
  | .ptr x y, b, h => by
    cases b <;> simp only [AV.beq] at h <;> (try cases h)
    obtain ⟨h1, h2⟩ := cond_true' h
    rw [Nat.eq_of_beq_eq_true h1, Nat.eq_of_beq_eq_true h2]
  | .nilsl, b, h => by cases b <;> simp only [AV.beq] at h <;> first | rfl | cases h
  | .sl x y z c, b, h => by
    cases b <;> simp only [AV.beq] at h <;> (try cases h)
    obtain ⟨h1, h2⟩ := cond_true' h
    obtain ⟨h2, h3⟩ := cond_true' h2
    obtain ⟨h3, h4⟩ := cond_true' h3
    rw [Nat.eq_of_beq_eq_true h1, Nat.eq_of_beq_eq_true h2, Nat.eq_of_beq_eq_true h3, capEq_eq h4]
  | .nilmap, b, h => by cases b <;> simp only [AV.beq] at h <;> first | rfl | cases h
  | .map x, b, h => by cases b <;> simp only [AV.beq] at h <;> (try cases h); rw [Nat.eq_of_beq_eq_true h]
  | .nilfn, b, h => by cases b <;> simp only [AV.beq] at h <;> first | rfl | cases h
  | .fn x y z, b, h => by
    cases b <;> simp only [AV.beq] at h <;> (try cases h)
    obtain ⟨h1, h2⟩ := cond_true' h
    obtain ⟨h2, h3⟩ := cond_true' h2
    rw [Nat.eq_of_beq_eq_true h1, AV.beqs_eq h2, AV.beqs_eq h3]
  | .nilif, b, h => by cases b <;> simp only [AV.beq] at h <;> first | rfl | cases h
  | .iface x y, b, h => by
    cases b <;> simp only [AV.beq] at h <;> (try cases h)
    obtain ⟨h1, h2⟩ := cond_true' h
    rw [Nat.eq_of_beq_eq_true h1, AV.beq_eq h2]
  | .agg x, b, h => by cases b <;> simp only [AV.beq] at h <;> (try cases h); rw [AV.beqs_eq h]
  | .tup x, b, h => by cases b <;> simp only [AV.beq] at h <;> (try cases h); rw [AV.beqs_eq h]
theorem AV.beqs_eq : ∀ {a b : List AV}, AV.beqs a b = true → a = b
  | [], b, h => by cases b <;> simp only [AV.beqs] at h <;> first | rfl | cases h
  | x :: r, b, h => by
    cases b <;> simp only [AV.beqs] at h <;> (try cases h)
    obtain ⟨h1, h2⟩ := cond_true' h
    rw [AV.beq_eq h1, AV.beqs_eq h2]
end

/-- Plain data of one cell. -/
def plain1 : AV → Bool
  | .bool _ | .int _ _ | .str _ => true
  | _ => false
def plains : List AV → Bool
  | [] => true
  | x :: r => cond (plain1 x) (plains r) false
def plainK : AV → Bool
  | .agg l => plains l
  | x => plain1 x

section
variable {P : Program} {base : Nat} {ρ : Ren} {H : AHeap} {w : World}

theorem plain1_fix {x : AV} {a b : Value} (h : plain1 x = true) (ha : VR ρ x a) (hb : VR ρ x b) : a = b ∧ ∀ n, Instr.sameBits n a b = true := by
  cases x <;> simp [plain1] at h <;> obtain rfl := ha <;> obtain rfl := hb <;> exact ⟨rfl, fun n => by cases n <;> simp [Instr.sameBits, bytes_beq, beqB_eq]⟩

theorem plains_fix : ∀ {l : List AV} {a b : List Value}, plains l = true → VRs ρ l a → VRs ρ l b → a = b ∧ ∀ n, ((a.zip b).all fun (x, y) => Instr.sameBits n x y) = true
  | [], _, _, _, rfl, rfl => ⟨rfl, fun n => rfl⟩
  | x :: r, _, _, h, ⟨y, s, e1, h1, h2⟩, ⟨y', s', e2, h3, h4⟩ => by
    subst e1; subst e2
    simp only [plains] at h
    obtain ⟨p1, p2⟩ := cond_true' h
    obtain ⟨q1, q2⟩ := plain1_fix p1 h1 h3
    obtain ⟨r1, r2⟩ := plains_fix p2 h2 h4
    exact ⟨by rw [q1, r1], fun n => by simp only [List.zip_cons_cons, List.all_cons, q2 n, Bool.true_and]; exact r2 n⟩

theorem plainK_fix {x : AV} {a b : Value} (h : plainK x = true) (ha : VR ρ x a) (hb : VR ρ x b) (n : Nat) : Instr.sameBits (n + 1) a b = true := by
  cases x
  case agg l =>
    obtain ⟨l1, rfl, h1⟩ := ha; obtain ⟨l2, rfl, h2⟩ := hb
    obtain ⟨rfl, q⟩ := plains_fix h h1 h2
    simp only [Instr.sameBits]
    simp only [Bool.and_eq_true]
    exact ⟨by simp, by simpa using q n⟩
  case bool b => exact (plain1_fix (x := .bool b) h ha hb).2 _
  case int k n => exact (plain1_fix (x := .int k n) h ha hb).2 _
  case str l => exact (plain1_fix (x := .str l) h ha hb).2 _
  all_goals simp [plainK, plain1] at h

mutual
def keyOk : EqK → AV → Bool
  | .struct fs, .agg xs => keyOks fs xs
  | .struct _, _ => false
  | .bool, _ | .int, _ | .str, _ | .ptr, _ => true
  | _, _ => false
def keyOks : List (Nat × Option Nat × EqK) → List AV → Bool
  | [], _ => true
  | (off, sz, k) :: r, xs => match partA xs off sz with
    | some a => cond (keyOk k a) (keyOks r xs) false
    | none => false
end

theorem checkKey_sound {e : Bool} : ∀ {d : Nat} {t : TypeId} {k : EqK} {a : AV} {a' : Value}, eqK P d t = some k → keyOk k a = true → VR ρ a a' → ∀ n, d ≤ n → (Instr.checkKey e n t a').run P w = .ok () w := by
  intro d
  induction d with
  | zero => intro t k a a' hk; cases hk
  | succ d ih =>
    intro t k a a' hk h ha n hn
    obtain ⟨n, rfl⟩ : ∃ m, n = m + 1 := ⟨n - 1, by omega⟩
    simp only [eqK] at hk
    cases hu : P.underlying t with
    | none => rw [hu] at hk; cases hk
    | some D =>
      rw [hu] at hk
      unfold Instr.checkKey
      rw [run_bind_ok (run_underlying' w hu)]
      cases D
      case bool => rfl
      case int => rfl
      case string => rfl
      case pointer => rfl
      case slice => cases hk; simp [keyOk] at h
      case map => cases hk; simp [keyOk] at h
      case func => cases hk; simp [keyOk] at h
      case interface => cases hk; simp [keyOk] at h
      case struct fs =>
        dsimp only at hk
        split at hk
        · cases hk
        · split at hk
          · rename_i l hl
            cases hk
            cases a <;> simp only [keyOk] at h <;> (try cases h)
            rename_i xs
            obtain ⟨xs', rfl, hxs⟩ := ha
            dsimp only
            rw [← Array.forIn_toList]
            generalize fs.toList = fl at hl
            clear hu
            have loop : (forIn fl PUnit.unit (fun (f : Field) (_ : PUnit) => (if f.name ≠ "_" then do
                  let v ← part f.type xs'.toArray f.offset
                  Instr.checkKey e n f.type v
                  pure (ForInStep.yield PUnit.unit) else pure (ForInStep.yield PUnit.unit) : Sem (ForInStep PUnit)))).run P w = .ok () w := by
              induction fl generalizing l with
              | nil => rfl
              | cons f fl ih2 =>
                simp only [allM] at hl
                split at hl
                · cases hl
                · rename_i y hy
                  split at hl
                  · cases hl
                  · rename_i l' hl'
                    cases hl
                    obtain ⟨off, sz, kf⟩ := y
                    simp only [keyOks] at h
                    split at hy
                    · cases hy
                    · rename_i hname
                      cases hpa : partA xs off sz with
                      | none => rw [hpa] at h; cases h
                      | some av =>
                        rw [hpa] at h
                        obtain ⟨g1, g2⟩ := cond_true' h
                        cases hkf : eqK P d f.type with
                        | none => rw [hkf] at hy; cases hy
                        | some kk =>
                          rw [hkf] at hy
                          dsimp only at hy
                          have hpt : ∃ b1, (part f.type xs'.toArray f.offset).run P w = .ok b1 w ∧ VR ρ av b1 ∧ kk = kf := by
                            cases huf : P.underlying f.type with
                            | none => rw [huf] at hy; cases hy
                            | some D =>
                              rw [huf] at hy
                              by_cases hstr : ∃ q, D = .struct q
                              · obtain ⟨q, rfl⟩ := hstr
                                cases hif : P.info? f.type with
                                | none => rw [hif] at hy; cases hy
                                | some i =>
                                  rw [hif] at hy
                                  cases hy
                                  simp only [partA] at hpa
                                  cases hpa
                                  exact ⟨_, by rw [run_partS w (run_isAgg_struct w huf) hif, toArray_extract], ⟨_, rfl, VRs.extract hxs _ _⟩, rfl⟩
                              · by_cases harr : ∃ q e, D = .array q e
                                · obtain ⟨q, e, rfl⟩ := harr; cases hy
                                · have hy' : (f.offset, (none : Option Nat), kk) = (off, sz, kf) := by
                                    cases D <;> first | exact Option.some.inj hy | exact absurd ⟨_, rfl⟩ hstr | exact absurd ⟨_, _, rfl⟩ harr
                                  cases hy'
                                  obtain ⟨a1, e1, r1⟩ := VRs.get hxs hpa
                                  exact ⟨a1, run_part1 w huf (fun q e => hstr ⟨q, e⟩) (fun q e c => harr ⟨q, e, c⟩) (by simpa using e1), r1, rfl⟩
                          obtain ⟨b1, p1, p2, rfl⟩ := hpt
                          have hnm : (f.name ≠ "_") = True := by simp [hname]
                          rw [List.forIn_cons]
                          simp only [hnm, if_true, Sem.run_bind, p1, Result.andThen_ok, ih hkf g1 p2 n (by omega), Sem.run_pure]
                          exact ih2 _ g2 hl'
            rw [run_bind_ok loop]; rfl
          · cases hk
      all_goals cases hk

def aFind (k : EqK) (key : AV) : List (AV × AV × Nat) → Nat → Option (Option (Nat × AV × AV))
  | [], _ => some none
  | (kk, v, _) :: r, i => match eqv k key kk with
    | some true => some (some (i, kk, v))
    | some false => aFind k key r (Nat.succ i)
    | none => none

/-- What is found. -/
def FR (ρ : Ren) (es : List MapEntry) : Option (Nat × AV × AV) → Option (Nat × Value) → Prop
  | none, r => r = none
  | some (i, kk, v), r => ∃ e, es[i]? = some e ∧ VR ρ kk e.key ∧ VR ρ v e.val ∧ r = some (i, e.val)

theorem find_sound {d : Nat} {t : TypeId} {D : TypeDesc} {k : EqK} {key : AV} {key' : Value} (hk : eqK P d t = some k) (hd : d ≤ 10000) (hD : P.underlying t = some D) (hkey : VR ρ key key') (all : List MapEntry) :
    ∀ {es : List (AV × AV × Nat)} {es' : List MapEntry} {i : Nat} {r : Option (Nat × AV × AV)}, (∀ j, all[i + j]? = es'[j]?) → ER ρ es es' → aFind k key es i = some r →
      ∃ r', (Instr.findAsking t key' es' i).run P w = .ok r' w ∧ FR ρ all r r' ∧ ∀ q, Instr.findNow D key' es' i = some q → q = r' := by
  intro es
  induction es with
  | nil =>
    intro es' i r hall he h
    obtain rfl := he
    cases h
    exact ⟨none, rfl, rfl, fun q hq => by cases hq; rfl⟩
  | cons x es ih =>
    intro es' i r hall he h
    obtain ⟨kk, v, s⟩ := x
    obtain ⟨e, m, rfl, h1, h2, h3, h4⟩ := he
    simp only [aFind] at h
    cases hq : eqv k key kk with
    | none => rw [hq] at h; cases h
    | some b =>
      rw [hq] at h
      have hrun := eqv_sound (w := w) hk hq hkey h1 10000 hd
      have hrun' : (Op.equal t key' e.key).run P w = .ok b w := hrun
      have hnow : ∀ c, Instr.sameNow D key' e.key = some c → c = b := by
        intro c hc
        unfold Op.equalIn at hrun
        rw [run_bind_ok (run_underlying' w hD)] at hrun
        revert hc hrun
        generalize e.key = ek
        intro hc hrun
        unfold Instr.sameNow at hc
        split at hc
        · rename_i k1 a1 k2 a2
          by_cases ck : k1 = k2
          · rw [if_pos ck] at hc; cases hc
            simp only [if_pos ck] at hrun
            simpa [Sem.run] using hrun
          · rw [if_neg ck] at hc; cases hc
        · cases hc; simpa [Sem.run] using hrun
        · cases hc; simpa [Sem.run] using hrun
        · cases hc
      cases b with
      | true =>
        cases h
        refine ⟨some (i, e.val), ?_, ⟨e, by simpa using hall 0, h1, h2, rfl⟩, fun q hq' => ?_⟩
        · simp only [Instr.findAsking]; rw [run_bind_ok hrun']; rfl
        · simp only [Instr.findNow] at hq'
          cases hs : Instr.sameNow D key' e.key with
          | none => rw [hs] at hq'; cases hq'
          | some c => rw [hs] at hq'; have := hnow c hs; subst this; cases hq'; rfl
      | false =>
        dsimp only at h
        obtain ⟨r', g1, g2, g3⟩ := ih (es' := m) (i := i + 1) (r := r) (fun j => by have := hall (j + 1); rw [show i + 1 + j = i + (j + 1) by omega]; simpa using this) h4 h
        refine ⟨r', ?_, g2, fun q hq' => ?_⟩
        · simp only [Instr.findAsking]; rw [run_bind_ok hrun']; exact g1
        · simp only [Instr.findNow] at hq'
          cases hs : Instr.sameNow D key' e.key with
          | none => rw [hs] at hq'; cases hq'
          | some c => rw [hs] at hq'; have := hnow c hs; subst this; exact g3 q hq'

theorem findKey_sound {d : Nat} {t : TypeId} {k : EqK} {key : AV} {key' : Value} (hk : eqK P d t = some k) (hd : d ≤ 10000) (hkey : VR ρ key key') {es : List (AV × AV × Nat)} {es' : List MapEntry} {r : Option (Nat × AV × AV)}
    (he : ER ρ es es') (h : aFind k key es 0 = some r) : ∃ r', (Instr.findKey t key' es').run P w = .ok r' w ∧ FR ρ es' r r' := by
  have hD : ∃ D, P.underlying t = some D := by
    cases d with
    | zero => cases hk
    | succ d => simp only [eqK] at hk; cases hu : P.underlying t with
      | none => rw [hu] at hk; cases hk
      | some D => exact ⟨D, rfl⟩
  obtain ⟨D, hD⟩ := hD
  obtain ⟨r', g1, g2, g3⟩ := find_sound (w := w) hk hd hD hkey es' (fun j => by rw [Nat.zero_add]) he h
  refine ⟨r', ?_, g2⟩
  unfold Instr.findKey
  rw [run_bind_ok (run_underlying' w hD)]
  cases hn : Instr.findNow D key' es' 0 with
  | none => exact g1
  | some q => rw [g3 q hn]; rfl

def aLook (k : EqK) (zero : AV) (ok : Bool) (H : AHeap) (m key : AV) : Option AV :=
  cond (keyOk k key) (match m with
    | .nilmap => some (cond ok (.tup [zero, .bool false]) zero)
    | .map b => match H.get b with
      | some (.map es _) => match aFind k key es 0 with
        | some (some (_, _, v)) => some (cond ok (.tup [v, .bool true]) v)
        | some none => some (cond ok (.tup [zero, .bool false]) zero)
        | none => none
      | _ => none
    | _ => none) none

theorem aLook_sound {t kt et : TypeId} {d : Nat} {k : EqK} {zero m key v : AV} {z m' key' : Value} {i : TypeInfo} {ok : Bool} (hr : HR base ρ H w) (ht : P.underlying t = some (.map kt et)) (hk : eqK P d kt = some k) (hd : d ≤ 10000)
    (hi : P.info? et = some i) (hz : i.zero = some z) (hzr : VR ρ zero z) (h : aLook k zero ok H m key = some v) (hm : VR ρ m m') (hkey : VR ρ key key') :
    ∃ v', (Instr.lookup t m' key' ok).run P w = .ok v' w ∧ VR ρ v v' := by
  unfold aLook at h
  cases hko : keyOk k key with
  | false => rw [hko] at h; cases h
  | true =>
    rw [hko] at h
    simp only [cond_true] at h
    have hck : ∀ e, (Instr.checkKey e 10000 kt key').run P w = .ok () w := fun e => checkKey_sound hk hko hkey 10000 hd
    unfold Instr.lookup
    rw [run_bind_ok (run_underlying' w ht)]
    have fin : ∀ (x : AV) (x' : Value) (b : Bool), VR ρ x x' → VR ρ (cond ok (.tup [x, .bool b]) x) (if ok then .tuple #[x', .bool b] else x') := by
      intro x x' b hx
      cases ok
      · exact hx
      · exact ⟨[x', .bool b], rfl, x', [.bool b], rfl, hx, .bool b, [], rfl, rfl, rfl⟩
    cases m <;> simp only at h <;> (try cases h)
    · obtain rfl := hm
      refine ⟨_, ?_, fin zero z false hzr⟩
      simp only [Sem.run_bind, Sem.run_pure, Result.andThen_ok, hck, Instr.findKey, Instr.findNow]
      cases hu : P.underlying kt with
      | none => cases d with
        | zero => cases hk
        | succ d => simp only [eqK] at hk; rw [hu] at hk; cases hk
      | some D => simp only [run_underlying' w hu, Result.andThen_ok]; simp only [Sem.run_bind, Sem.run_pure, Result.andThen_ok, run_zeroValue hi hz]
    · rename_i b
      obtain ⟨L, hb, rfl⟩ := hm
      cases hg : H.get b with
      | none => rw [hg] at h; cases h
      | some ob =>
        rw [hg] at h
        cases ob <;> simp only at h <;> (try cases h)
        rename_i es clock
        obtain ⟨_, _, es', h5, h6⟩ := hr.obj b L _ hb hg
        cases hf : aFind k key es 0 with
        | none => rw [hf] at h; cases h
        | some r =>
          rw [hf] at h
          obtain ⟨r', g1, g2⟩ := findKey_sound (w := w) hk hd hkey h6 hf
          simp only [Sem.run_bind, run_getObj_map h5, Sem.run_pure, Result.andThen_ok, hck, g1]
          cases r with
          | none =>
            obtain rfl := g2
            cases h
            exact ⟨_, by simp only [Sem.run_bind, run_zeroValue hi hz, Result.andThen_ok, Sem.run_pure], fin zero z false hzr⟩
          | some x =>
            obtain ⟨j, kk, u⟩ := x
            obtain ⟨e, e1, e2, e3, rfl⟩ := g2
            cases h
            exact ⟨_, rfl, fin u e.val true e3⟩

def setVal (es : List (AV × AV × Nat)) (i : Nat) (v : AV) : List (AV × AV × Nat) := match es, i with
  | [], _ => []
  | (k, _, s) :: r, 0 => (k, v, s) :: r
  | x :: r, i + 1 => x :: setVal r i v

def aMapUp (k : EqK) (H : AHeap) (m key v : AV) : Option AHeap :=
  cond (keyOk k key) (match m with
    | .map b => match H.get b with
      | some (.map es clock) => match aFind k key es 0 with
        | some (some (i, kk, _)) => cond (AV.beq kk key && plainK key) (some (H.put b (.map (setVal es i v) clock))) none
        | some none => some (H.put b (.map (es ++ [(key, v, clock)]) (Nat.succ clock)))
        | none => none
      | _ => none
    | _ => none) none

theorem ER.append {a b : List (AV × AV × Nat)} : ∀ {l m : List MapEntry}, ER ρ a l → ER ρ b m → ER ρ (a ++ b) (l ++ m) := by
  induction a with
  | nil => intro l m h1 h2; obtain rfl := h1; exact h2
  | cons x a ih =>
    intro l m h1 h2
    obtain ⟨k, v, s⟩ := x
    obtain ⟨e, r, rfl, q1, q2, q3, q4⟩ := h1
    exact ⟨e, r ++ m, rfl, q1, q2, q3, ih q4 h2⟩

theorem ER.get {a : List (AV × AV × Nat)} : ∀ {l : List MapEntry} {i : Nat} {k v : AV} {s : Nat}, ER ρ a l → a[i]? = some (k, v, s) → ∃ e, l[i]? = some e ∧ VR ρ k e.key ∧ VR ρ v e.val ∧ e.born = s := by
  induction a with
  | nil => intro l i k v s _ h; simp at h
  | cons x a ih =>
    intro l i k v s h1 h
    obtain ⟨k0, v0, s0⟩ := x
    obtain ⟨e, r, rfl, q1, q2, q3, q4⟩ := h1
    cases i with
    | zero => simp at h; obtain ⟨rfl, rfl, rfl⟩ := h; exact ⟨e, rfl, q1, q2, q3⟩
    | succ i => simpa using ih q4 (by simpa using h)

theorem ER.setVal {a : List (AV × AV × Nat)} : ∀ {l : List MapEntry} {i : Nat} {v : AV} {v' : Value} {f : MapEntry → MapEntry}, ER ρ a l → VR ρ v v' → (∀ e, l[i]? = some e → f e = { e with key := e.key, val := v' } ∨ ∃ k0, f e = { e with key := k0, val := v' } ∧ ∀ k, VR ρ k e.key → a[i]?.map (·.1) = some k → VR ρ k k0) →
    ER ρ (Ab.setVal a i v) (l.modify i f) := by
  induction a with
  | nil => intro l i v v' f h _ _; obtain rfl := h; cases i <;> rfl
  | cons x a ih =>
    intro l i v v' f h1 hv hf
    obtain ⟨k0, v0, s0⟩ := x
    obtain ⟨e, r, rfl, q1, q2, q3, q4⟩ := h1
    cases i with
    | zero =>
      refine ⟨f e, r, by simp, ?_, ?_, ?_, q4⟩
      · rcases hf e rfl with h | ⟨k1, h, hk⟩
        · rw [h]; exact q1
        · rw [h]; exact hk k0 q1 rfl
      · rcases hf e rfl with h | ⟨k1, h, _⟩ <;> rw [h] <;> exact hv
      · rcases hf e rfl with h | ⟨k1, h, _⟩ <;> rw [h] <;> exact q3
    | succ i =>
      refine ⟨e, r.modify i f, by simp, q1, q2, q3, ih q4 hv fun e' he' => ?_⟩
      simpa using hf e' (by simpa using he')

theorem aFind_get {k : EqK} {key : AV} : ∀ {es : List (AV × AV × Nat)} {i j : Nat} {kk v : AV}, aFind k key es i = some (some (j, kk, v)) → i ≤ j ∧ ∃ s, es[j - i]? = some (kk, v, s) := by
  intro es
  induction es with
  | nil => intro i j kk v h; cases h
  | cons x es ih =>
    intro i j kk v h
    obtain ⟨k0, v0, s0⟩ := x
    simp only [aFind] at h
    cases hq : eqv k key k0 with
    | none => rw [hq] at h; cases h
    | some b =>
      rw [hq] at h
      cases b with
      | true => cases h; exact ⟨Nat.le_refl _, s0, by simp⟩
      | false =>
        obtain ⟨h1, s, h2⟩ := ih h
        have h1' : i + 1 ≤ j := h1
        exact ⟨by omega, s, by rw [show j - i = (j - (i + 1)) + 1 by omega]; exact h2⟩

theorem run_setObj_map {b : Nat} {es : Array MapEntry} {c : Nat} {o : Obj} (h : w.heap[b]? = some (.map es c)) : (setObj b o).run P w = .ok () (World.setBlk w b o) := by
  simp [setObj, Sem.run, h, World.setBlk]

theorem map_turn {b clock clock' : Nat} {L : Loc} {es es2 : List (AV × AV × Nat)} {es2' : List MapEntry} (hr : HR base ρ H w) (hb : ρ b = some L) (hg : H.get b = some (.map es clock)) (he : ER ρ es2 es2') :
    HR base ρ (H.put b (.map es2 clock')) (World.setBlk w L.blk (.map es2'.toArray clock')) ∧ Ext ρ H w ρ (H.put b (.map es2 clock')) (World.setBlk w L.blk (.map es2'.toArray clock')) := by
  obtain ⟨h1, h2, es', h5, h6⟩ := hr.obj b L _ hb hg
  exact hr.turn hb hg rfl ⟨h1, h2, es2', by rw [setBlk_get (hr.dom b L hb).2, if_pos rfl], he⟩

theorem aMapUp_sound {t kt et : TypeId} {d : Nat} {k : EqK} {m key v : AV} {m' key' v' : Value} {H' : AHeap} (hr : HR base ρ H w) (ht : P.underlying t = some (.map kt et)) (hk : eqK P d kt = some k) (hd : d ≤ 10000)
    (h : aMapUp k H m key v = some H') (hm : VR ρ m m') (hkey : VR ρ key key') (hv : VR ρ v v') : Goes P base ρ H w (Instr.mapUpdate t m' key' v') H' (fun ρ' _ => ρ' = ρ) := by
  unfold aMapUp at h
  cases hko : keyOk k key with
  | false => rw [hko] at h; cases h
  | true =>
    rw [hko] at h
    simp only [cond_true] at h
    have hck : ∀ e, (Instr.checkKey e 10000 kt key').run P w = .ok () w := fun e => checkKey_sound hk hko hkey 10000 hd
    cases m <;> simp only at h <;> (try cases h)
    rename_i b
    obtain ⟨L, hb, rfl⟩ := hm
    cases hg : H.get b with
    | none => rw [hg] at h; cases h
    | some ob =>
      rw [hg] at h
      cases ob <;> simp only at h <;> (try cases h)
      rename_i es clock
      obtain ⟨_, _, es', h5, h6⟩ := hr.obj b L _ hb hg
      cases hf : aFind k key es 0 with
      | none => rw [hf] at h; cases h
      | some r =>
        rw [hf] at h
        obtain ⟨r', g1, g2⟩ := findKey_sound (w := w) hk hd hkey h6 hf
        cases r with
        | none =>
          obtain rfl := g2
          cases h
          have he : ER ρ (es ++ [(key, v, clock)]) (es' ++ [{ key := key', val := v', born := clock }]) := ER.append h6 ⟨_, [], rfl, hkey, hv, rfl, rfl⟩
          obtain ⟨f1, f2⟩ := map_turn hr hb hg he (clock' := Nat.succ clock)
          refine ⟨(), _, ρ, ?_, rfl, f1, f2⟩
          unfold Instr.mapUpdate
          rw [run_bind_ok (run_underlying' w ht)]
          simp only [Sem.run_bind, run_getObj_map h5, Result.andThen_ok, hck, g1, run_setObj_map h5]
          congr 3
          simp
        | some x =>
          obtain ⟨i, kk, u⟩ := x
          obtain ⟨e, e1, e2, e3, rfl⟩ := g2
          dsimp only at h
          cases hq : (AV.beq kk key && plainK key) with
          | false => rw [hq] at h; cases h
          | true =>
            rw [hq] at h; cases h
            simp only [Bool.and_eq_true] at hq
            obtain rfl := AV.beq_eq hq.1
            have hsame : Instr.sameBits 10000 e.key key' = true := plainK_fix hq.2 e2 hkey 9999
            have hi : es'.toArray[i]? = some e := by simpa using e1
            have he : ER ρ (Ab.setVal es i v) (es'.modify i fun e => { e with key := key', val := v' }) := by
              refine ER.setVal h6 hv fun e' he' => .inr ⟨key', rfl, fun k1 hk1 hk2 => ?_⟩
              obtain ⟨_, s, hs⟩ := aFind_get hf
              rw [Nat.sub_zero] at hs
              rw [hs] at hk2
              cases hk2
              exact hkey
            obtain ⟨f1, f2⟩ := map_turn hr hb hg he (clock' := clock)
            refine ⟨(), _, ρ, ?_, rfl, f1, f2⟩
            unfold Instr.mapUpdate
            rw [run_bind_ok (run_underlying' w ht)]
            simp only [Sem.run_bind, run_getObj_map h5, Result.andThen_ok, hck, g1, hi, Option.map_some, Option.getD_some, Instr.keyThatStays, hsame, if_true, Sem.run_pure, run_setObj_map h5]
            congr 3
            simp

def dropAt (es : List (AV × AV × Nat)) (i : Nat) : List (AV × AV × Nat) := match es, i with
  | [], _ => []
  | _ :: r, 0 => r
  | x :: r, i + 1 => x :: dropAt r i

theorem ER.dropAt {a : List (AV × AV × Nat)} : ∀ {l : List MapEntry} {i : Nat}, ER ρ a l → ER ρ (Ab.dropAt a i) (l.eraseIdx i) := by
  induction a with
  | nil => intro l i h; obtain rfl := h; rfl
  | cons x a ih =>
    intro l i h1
    obtain ⟨k0, v0, s0⟩ := x
    obtain ⟨e, r, rfl, q1, q2, q3, q4⟩ := h1
    cases i with
    | zero => exact q4
    | succ i => exact ⟨e, r.eraseIdx i, rfl, q1, q2, q3, ih q4⟩

def aDelete (k : EqK) (H : AHeap) (m key : AV) : Option AHeap :=
  cond (keyOk k key) (match m with
    | .nilmap => some H
    | .map b => match H.get b with
      | some (.map es clock) => match aFind k key es 0 with
        | some (some (i, _, _)) => some (H.put b (.map (dropAt es i) clock))
        | some none => some (H.put b (.map es clock))
        | none => none
      | _ => none
    | _ => none) none

theorem aDelete_sound {t kt et ty : TypeId} {d : Nat} {k : EqK} {m key : AV} {m' key' : Value} {H' : AHeap} (hr : HR base ρ H w) (ht : P.underlying t = some (.map kt et)) (hk : eqK P d kt = some k) (hd : d ≤ 10000) (ts : TypeId)
    (h : aDelete k H m key = some H') (hm : VR ρ m m') (hkey : VR ρ key key') : Goes P base ρ H w (Builtin.delete_ #[t, ts] ty #[m', key']) H' (fun ρ' r => ρ' = ρ ∧ r = .tuple #[]) := by
  unfold aDelete at h
  cases hko : keyOk k key with
  | false => rw [hko] at h; cases h
  | true =>
    rw [hko] at h
    simp only [cond_true] at h
    have hck : ∀ e, (Instr.checkKey e 10000 kt key').run P w = .ok () w := fun e => checkKey_sound hk hko hkey 10000 hd
    cases m <;> simp only at h <;> (try cases h)
    · obtain rfl := hm
      refine ⟨_, w, ρ, ?_, ⟨rfl, rfl⟩, hr, Ext.refl _ _ _⟩
      simp [Builtin.delete_, run_underlying ht, hck]
    · rename_i b
      obtain ⟨L, hb, rfl⟩ := hm
      cases hg : H.get b with
      | none => rw [hg] at h; cases h
      | some ob =>
        rw [hg] at h
        cases ob <;> simp only at h <;> (try cases h)
        rename_i es clock
        obtain ⟨_, _, es', h5, h6⟩ := hr.obj b L _ hb hg
        cases hf : aFind k key es 0 with
        | none => rw [hf] at h; cases h
        | some r =>
          rw [hf] at h
          obtain ⟨r', g1, g2⟩ := findKey_sound (w := w) hk hd hkey h6 hf
          cases r with
          | none =>
            obtain rfl := g2
            cases h
            obtain ⟨f1, f2⟩ := map_turn hr hb hg h6 (clock' := clock)
            refine ⟨_, _, ρ, ?_, ⟨rfl, rfl⟩, f1, f2⟩
            simp only [Builtin.delete_, List.getElem?_toArray, List.getElem?_cons_zero, List.getElem?_cons_succ]
            rw [run_bind_ok (run_underlying' w ht)]
            simp only [Sem.run_bind, run_getObj_map h5, Result.andThen_ok, hck, g1, run_setObj_map h5, Sem.run_pure]
          | some x =>
            obtain ⟨i, kk, u⟩ := x
            obtain ⟨e, e1, e2, e3, rfl⟩ := g2
            cases h
            obtain ⟨f1, f2⟩ := map_turn hr hb hg (h6.dropAt (i := i)) (clock' := clock)
            refine ⟨_, _, ρ, ?_, ⟨rfl, rfl⟩, f1, f2⟩
            simp only [Builtin.delete_, List.getElem?_toArray, List.getElem?_cons_zero, List.getElem?_cons_succ]
            rw [run_bind_ok (run_underlying' w ht)]
            simp only [Sem.run_bind, run_getObj_map h5, Result.andThen_ok, hck, g1, run_setObj_map h5, Sem.run_pure]
            congr 3
            apply Array.ext'
            simp [Array.eraseIdxIfInBounds]
            split
            · simp
            · rw [List.eraseIdx_of_length_le (by omega)]

/-- clear of a map. -/
def aClearM (H : AHeap) (x : AV) : Option AHeap := match x with
  | .nilmap => some H
  | .map b => match H.get b with
    | some (.map _ clock) => some (H.put b (.map [] clock))
    | _ => none
  | _ => none

/-- clear of a slice. -/
def aClearS (zs : List AV) (H : AHeap) (x : AV) : Option AHeap := match x with
  | .nilsl => some H
  | .sl b o n _ => cond (Nat.beq n 0) (some H) (match H.get b with
      | some (.cells false esz nb t) => cond (allScal zs) (match t.wrN o (List.replicate n zs).flatten with
        | some t' => some (H.put b (.cells false esz nb t'))
        | none => none) none
      | _ => none)
  | _ => none

theorem allScal_flatten {zs : List AV} (h : allScal zs = true) : ∀ n, allScal (List.replicate n zs).flatten = true
  | 0 => rfl
  | n + 1 => by
    rw [List.replicate_succ, List.flatten_cons]
    have : ∀ (l m : List AV), allScal l = true → allScal m = true → allScal (l ++ m) = true := by
      intro l
      induction l with
      | nil => intro m _ hm; exact hm
      | cons x l ih =>
        intro m hl hm
        simp only [allScal] at hl
        obtain ⟨q1, q2⟩ := cond_true' hl
        show cond (isScal x) (allScal (l ++ m)) false = true
        rw [q1]; exact ih m q2 hm
    exact this _ _ h (allScal_flatten h n)

theorem aClearM_sound {t kt et ty : TypeId} {x : AV} {x' : Value} {H' : AHeap} (hr : HR base ρ H w) (ht : P.underlying t = some (.map kt et)) (h : aClearM H x = some H') (hx : VR ρ x x') :
    Goes P base ρ H w (Builtin.clear_ #[t] ty #[x']) H' (fun ρ' r => ρ' = ρ ∧ r = .tuple #[]) := by
  cases x <;> simp only [aClearM] at h <;> (try cases h)
  · obtain rfl := hx
    refine ⟨_, w, ρ, ?_, ⟨rfl, rfl⟩, hr, Ext.refl _ _ _⟩
    simp [Builtin.clear_, run_underlying ht]
  · rename_i b
    obtain ⟨L, hb, rfl⟩ := hx
    cases hg : H.get b with
    | none => rw [hg] at h; cases h
    | some ob =>
      rw [hg] at h
      cases ob <;> simp only at h <;> (try cases h)
      rename_i es clock
      obtain ⟨_, _, es', h5, h6⟩ := hr.obj b L _ hb hg
      obtain ⟨f1, f2⟩ := map_turn hr hb hg (es2 := []) (es2' := []) rfl (clock' := clock)
      refine ⟨_, _, ρ, ?_, ⟨rfl, rfl⟩, f1, f2⟩
      simp only [Builtin.clear_, List.getElem?_toArray, List.getElem?_cons_zero]
      rw [run_bind_ok (run_underlying' w ht)]
      simp only [Sem.run_bind, run_getObj_map h5, Result.andThen_ok, run_setObj_map h5, Sem.run_pure]

theorem zeroCells_toList (z : Array Value) (n : Nat) : (Builtin.zeroCells z n).toList = (List.replicate n z.toList).flatten := zeros_toList z n

theorem aClearS_sound {t e ty : TypeId} {x : AV} {x' z : Value} {i : TypeInfo} {zs : List AV} {H' : AHeap} (hr : HR base ρ H w) (ht : P.underlying t = some (.slice e)) (hi : P.info? e = some i) (hz : i.zero = some z) (hzs : VRs ρ zs z.cells.toList)
    (h : aClearS zs H x = some H') (hx : VR ρ x x') :
    Goes P base ρ H w (Builtin.clear_ #[t] ty #[x']) H' (fun ρ' r => ρ' = ρ ∧ r = .tuple #[]) := by
  cases x <;> simp only [aClearS] at h <;> (try cases h)
  · obtain rfl := hx
    refine ⟨_, w, ρ, ?_, ⟨rfl, rfl⟩, hr, Ext.refl _ _ _⟩
    simp [Builtin.clear_, run_underlying ht]
  · rename_i b o n cap
    obtain ⟨L, c, o', hb, rfl, hlc, ho, _⟩ := hx
    cases n with
    | zero =>
      cases h
      refine ⟨_, w, ρ, ?_, ⟨rfl, rfl⟩, hr, Ext.refl _ _ _⟩
      simp [Builtin.clear_, run_underlying ht]
    | succ n =>
      rw [show Nat.beq (n + 1) 0 = false from rfl] at h
      simp only [cond_false] at h
      cases hg : H.get b with
      | none => rw [hg] at h; cases h
      | some ob =>
        rw [hg] at h
        cases ob <;> (try simp only at h) <;> (try cases h)
        rename_i ro esz nb t0
        cases ro with
        | true => cases h
        | false =>
          dsimp only at h
          cases hsc : allScal zs with
          | false => rw [hsc] at h; cases h
          | true =>
            rw [hsc] at h
            simp only [cond_true] at h
            cases hwr : t0.wrN o (List.replicate (n + 1) zs).flatten with
            | none => rw [hwr] at h; cases h
            | some t' =>
              rw [hwr] at h; cases h
              obtain ⟨r, w', ρ', e1, e2, e3, e4⟩ := write_sound (P := P) hr hb hg (VRs_flatten hzs (n + 1)) (allScal_flatten hsc _) hwr
              have ho' := ho (by omega)
              subst ho'
              refine ⟨_, w', ρ', ?_, ⟨e2, rfl⟩, e3, e4⟩
              simp only [Builtin.clear_, List.getElem?_toArray, List.getElem?_cons_zero]
              rw [run_bind_ok (run_underlying' w ht)]
              simp only [Sem.run_bind, run_zeroValue hi hz, Result.andThen_ok, zeroCells_toList, e1, Sem.run_pure]

def aCopy (esz : Nat) (H : AHeap) (d s : AV) : Option (AV × AHeap) :=
  match aSrc esz H s with
  | none => none
  | some (m, f) => match d with
    | .nilsl => match f 0 with
      | some _ => some (.int .i64 0, H)
      | none => none
    | .sl b o len _ => match f (Nat.min m len) with
      | none => none
      | some l => cond (Nat.beq (Nat.min m len) 0) (some (.int .i64 0, H)) (match H.get b with
        | some (.cells false e nb t) => cond (allScal l) (match t.wrN o l with
          | some t' => some (.int .i64 (.ofNat (Nat.min m len)), H.put b (.cells false e nb t'))
          | none => none) none
        | _ => none)
    | _ => none

theorem aCopy_sound {t u e ty : TypeId} {i : TypeInfo} {d s v : AV} {d' s' : Value} {H' : AHeap} (hr : HR base ρ H w) (ht : P.underlying t = some (.slice e)) (hi : P.info? e = some i)
    (h : aCopy i.size H d s = some (v, H')) (hd : VR ρ d d') (hs : VR ρ s s') : Goes P base ρ H w (Builtin.copy_ #[t, u] ty #[d', s']) H' (fun ρ' r => ρ' = ρ ∧ VR ρ' v r) := by
  unfold aCopy at h
  cases hsrc : aSrc i.size H s with
  | none => rw [hsrc] at h; cases h
  | some mf =>
    obtain ⟨m, f⟩ := mf
    rw [hsrc] at h
    dsimp only at h
    cases d <;> simp only at h <;> (try cases h)
    · obtain rfl := hd
      cases hf : f 0 with
      | none => rw [hf] at h; cases h
      | some l =>
        rw [hf] at h; cases h
        obtain ⟨hlen, l', hn1, hn2, hn3⟩ := run_firstCells (P := P) hr hs hsrc hf (Nat.zero_le _)
        refine ⟨goInt 0, w, ρ, ?_, ⟨rfl, rfl⟩, hr, Ext.refl _ _ _⟩
        simp only [Builtin.copy_, List.getElem?_toArray, List.getElem?_cons_zero, List.getElem?_cons_succ]
        rw [run_bind_ok (run_underlying' w ht)]
        have e0 : Nat.min m 0 = 0 := Nat.min_zero _
        simp only [Sem.run_bind, hlen, Result.andThen_ok, run_sizeOf w hi, e0, hn3 w rfl, Sem.run_pure]
        rfl
    · rename_i b o len cap
      obtain ⟨L, c, o', hb, rfl, hlc, ho, _⟩ := hd
      cases hf : f (Nat.min m len) with
      | none => rw [hf] at h; cases h
      | some l =>
        rw [hf] at h
        dsimp only at h
        obtain ⟨hlen, l', hn1, hn2, hn3⟩ := run_firstCells (P := P) hr hs hsrc hf (Nat.min_le_left _ _)
        cases hz : Nat.beq (Nat.min m len) 0 with
        | true =>
          rw [hz] at h; cases h
          have hz' := Nat.eq_of_beq_eq_true hz
          have hl' : l' = [] := by
            have := hn1.length; rw [hn2, hz', Nat.zero_mul] at this; exact List.eq_nil_of_length_eq_zero this.symm
          subst hl'
          refine ⟨goInt (Nat.min m len : Nat), w, ρ, ?_, ⟨rfl, by rw [hz']; rfl⟩, hr, Ext.refl _ _ _⟩
          simp only [Builtin.copy_, List.getElem?_toArray, List.getElem?_cons_zero, List.getElem?_cons_succ]
          rw [run_bind_ok (run_underlying' w ht)]
          simp only [Sem.run_bind, hlen, Result.andThen_ok, run_sizeOf w hi, hn3 w rfl, Sem.run_pure]
          rfl
        | false =>
          rw [hz] at h
          simp only [cond_false] at h
          have hz' : Nat.min m len ≠ 0 := Nat.ne_of_beq_eq_false hz
          have hmin : Nat.min m len ≤ len := Nat.min_le_right _ _
          cases hg : H.get b with
          | none => rw [hg] at h; cases h
          | some ob =>
            rw [hg] at h
            cases ob <;> (try simp only at h) <;> (try cases h)
            rename_i ro esz nb t0
            cases ro with
            | true => cases h
            | false =>
              dsimp only at h
              cases hsc : allScal l with
              | false => rw [hsc] at h; cases h
              | true =>
                rw [hsc] at h
                simp only [cond_true] at h
                cases hwr : t0.wrN o l with
                | none => rw [hwr] at h; cases h
                | some t' =>
                  rw [hwr] at h; cases h
                  obtain ⟨r, w', ρ', e1, e2, e3, e4⟩ := write_sound (P := P) hr hb hg hn1 hsc hwr
                  have ho' := ho (by omega)
                  subst ho'
                  refine ⟨goInt (Nat.min m len : Nat), w', ρ', ?_, ⟨e2, rfl⟩, e3, e4⟩
                  simp only [Builtin.copy_, List.getElem?_toArray, List.getElem?_cons_zero, List.getElem?_cons_succ]
                  rw [run_bind_ok (run_underlying' w ht)]
                  simp only [Sem.run_bind, hlen, Result.andThen_ok, run_sizeOf w hi, hn3 w rfl, e1, Sem.run_pure]

end
end
end Go.Ab
