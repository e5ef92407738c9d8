/- '==', and keys of maps. -/
import Derived.Test.YtooindilclphjaaGreatDoorAbD
import Derived.WalkKit
import Derived.WalkLawsBesides
namespace Go.Ab
noncomputable section

def beqB : List UInt8 → List UInt8 → Bool
  | [], [] => true
  | a :: x, b :: y => cond (Nat.beq a.toNat b.toNat) (beqB x y) false
  | _, _ => false

theorem beqB_eq : ∀ (a b : List UInt8), beqB a b = decide (a = b)
  | [], [] => rfl
  | [], _ :: _ => rfl
  | _ :: _, [] => rfl
  | a :: x, b :: y => by
    show cond (Nat.beq a.toNat b.toNat) (beqB x y) false = _
    rw [beq_dec, beqB_eq x y]
    by_cases h : a = b
    · subst h; simp
    · have : ¬ a.toNat = b.toNat := fun e => h (UInt8.toNat_inj.1 e)
      simp [this, h]

inductive EqK where
  | bool | int | str | ptr | sl | map | fn | ifc
  | struct (fs : List (Nat × Option Nat × EqK))

def EqK.flat : EqK → Bool
  | .struct _ => false
  | _ => true

def bbeq : Bool → Bool → Bool
  | true, b => b
  | false, true => false
  | false, false => true
theorem bbeq_eq (a b : Bool) : bbeq a b = (a == b) := by cases a <;> cases b <;> rfl

def kindEq (k k' : IntKind) : Bool := decide (k = k')

def eqv1 : EqK → AV → AV → Option Bool
  | .bool, .bool a, .bool b => some (bbeq a b)
  | .int, .int k a, .int k' b => cond (kindEq k k') (some (ieq a b)) none
  | .str, .str a, .str b => some (beqB a b)
  | .ptr, .nilp, .nilp => some true
  | .ptr, .nilp, .ptr _ _ => some false
  | .ptr, .ptr _ _, .nilp => some false
  | .ptr, .ptr b o, .ptr b' o' => cond (Nat.beq b b') (some (Nat.beq o o')) none
  | .sl, .nilsl, .nilsl => some true
  | .sl, .nilsl, .sl _ _ _ _ => some false
  | .sl, .sl _ _ _ _, .nilsl => some false
  | .map, .nilmap, .nilmap => some true
  | .map, .nilmap, .map _ => some false
  | .map, .map _, .nilmap => some false
  | .fn, .nilfn, .nilfn => some true
  | .fn, .nilfn, .fn _ _ _ => some false
  | .fn, .fn _ _ _, .nilfn => some false
  | .ifc, .nilif, .nilif => some true
  | .ifc, .nilif, .iface _ _ => some false
  | .ifc, .iface _ _, .nilif => some false
  | _, _, _ => none

def partA (xs : List AV) (off : Nat) : Option Nat → Option AV
  | none => xs[off]?
  | some sz => some (.agg ((xs.drop off).take sz))

mutual
def eqv : EqK → AV → AV → Option Bool
  | .struct fs, .agg xs, .agg ys => eqvs fs xs ys
  | k, x, y => eqv1 k x y
def eqvs : List (Nat × Option Nat × EqK) → List AV → List AV → Option Bool
  | [], _, _ => some true
  | (off, sz, k) :: r, xs, ys =>
    match partA xs off sz, partA ys off sz with
    | some a, some b => match eqv k a b with
      | some true => eqvs r xs ys
      | some false => some false
      | none => none
    | _, _ => none
end

section
variable (P : Program)

def allM {α β : Type} (f : α → Option β) : List α → Option (List β)
  | [] => some []
  | x :: r => match f x with
    | none => none
    | some y => match allM f r with
      | none => none
      | some l => some (y :: l)

theorem allM_get {α β : Type} {f : α → Option β} : ∀ {l : List α} {m : List β}, allM f l = some m → l.length = m.length ∧ ∀ (i : Nat) (x : α), l[i]? = some x → ∃ y, m[i]? = some y ∧ f x = some y := by
  intro l
  induction l with
  | nil => intro m h; cases h; exact ⟨rfl, fun i x hx => by simp at hx⟩
  | cons a r ih =>
    intro m h
    simp only [allM] at h
    cases e : f a with
    | none => rw [e] at h; cases h
    | some y =>
      rw [e] at h
      cases e2 : allM f r with
      | none => rw [e2] at h; cases h
      | some m' =>
        rw [e2] at h; cases h
        obtain ⟨h1, h2⟩ := ih e2
        refine ⟨by simp [h1], fun i x hx => ?_⟩
        cases i with
        | zero => simp at hx; subst hx; exact ⟨y, rfl, e⟩
        | succ i => simpa using h2 i x (by simpa using hx)

/-- How values of a type are compared. -/
def eqK : Nat → TypeId → Option EqK
  | 0, _ => none
  | d + 1, t =>
    match P.underlying t with
    | some .bool => some .bool
    | some (.int _) => some .int
    | some .string => some .str
    | some (.pointer e) => match (P.info? e).map (·.size) with
      | some (_ + 1) => some .ptr
      | _ => none
    | some (.slice _) => some .sl
    | some (.map _ _) => some .map
    | some (.func _ _ _) => some .fn
    | some (.interface _) => some .ifc
    | some (.struct fs) =>
      if P.stoodInHeld t then none else
      match allM (fun (f : Field) => if f.name = "_" then none else
        match eqK d f.type with
        | none => none
        | some k => match P.underlying f.type with
          | some (.struct _) => (match P.info? f.type with
            | some i => some (f.offset, some i.size, k)
            | none => none)
          | some (.array _ _) => none
          | some _ => some (f.offset, none, k)
          | none => none) fs.toList with
      | some l => some (.struct l)
      | none => none
    | _ => none
end

section
variable {P : Program}

theorem run_sizeOf {t : TypeId} {i : TypeInfo} (w : World) (h : P.info? t = some i) : (sizeOf t).run P w = .ok i.size w := by
  simp [sizeOf, typeInfo, program, Sem.run, h]
theorem run_underlying' {t : TypeId} {d : TypeDesc} (w : World) (h : P.underlying t = some d) : (underlying t).run P w = .ok d w := run_underlying (w := w) h
theorem run_isAgg_false {t : TypeId} {d : TypeDesc} (w : World) (h : P.underlying t = some d) (hs : ∀ fs, d ≠ .struct fs) (ha : ∀ n e, d ≠ .array n e) : (isAgg t).run P w = .ok false w := by
  unfold isAgg
  rw [run_bind_ok (run_underlying' w h)]
  cases d <;> first | rfl | exact absurd rfl (hs _) | exact absurd rfl (ha _ _)
theorem run_isAgg_struct {t : TypeId} {fs : Array Field} (w : World) (h : P.underlying t = some (.struct fs)) : (isAgg t).run P w = .ok true w := by
  unfold isAgg
  rw [run_bind_ok (run_underlying' w h)]; rfl
theorem run_isAgg_array {t : TypeId} {n : Nat} {e : TypeId} (w : World) (h : P.underlying t = some (.array n e)) : (isAgg t).run P w = .ok true w := by
  unfold isAgg
  rw [run_bind_ok (run_underlying' w h)]; rfl

theorem run_part1 {t : TypeId} {d : TypeDesc} {cs : Array Value} {off : Nat} {v : Value} (w : World) (h : P.underlying t = some d) (hs : ∀ fs, d ≠ .struct fs) (ha : ∀ n e, d ≠ .array n e)
    (hv : cs[off]? = some v) : (part t cs off).run P w = .ok v w := by
  unfold part
  rw [run_bind_ok (run_isAgg_false w h hs ha), hv]; rfl
theorem run_partS {t : TypeId} {cs : Array Value} {off : Nat} {i : TypeInfo} (w : World) (h : (isAgg t).run P w = .ok true w) (hi : P.info? t = some i) :
    (part t cs off).run P w = .ok (.agg (cs.extract off (off + i.size))) w := by
  unfold part
  rw [run_bind_ok h]
  show (sizeOf t >>= fun s => pure (Value.agg (cs.extract off (off + s)))).run P w = _
  rw [run_bind_ok (run_sizeOf w hi)]; rfl

theorem VRs.extract {ρ : Ren} {l : List AV} {v : List Value} (h : VRs ρ l v) (off sz : Nat) : VRs ρ ((l.drop off).take sz) (((v.drop off).take sz)) := by
  have hl := h.length
  refine VRs.of_get (by simp [hl]) fun i x hx => ?_
  rw [List.getElem?_take] at hx ⊢
  split at hx
  · rw [List.getElem?_drop] at hx ⊢
    rename_i hi
    obtain ⟨y, hy, hr⟩ := VRs.get h hx
    exact ⟨y, by simp [hi, hy], hr⟩
  · cases hx

theorem toArray_extract (v : List Value) (off sz : Nat) : v.toArray.extract off (off + sz) = ((v.drop off).take sz).toArray := by
  simp [List.extract_toArray, List.extract_eq_take_drop]

theorem toList_mk (l : List UInt8) : (⟨l.toArray⟩ : ByteArray).toList = l := by
  rw [ByteArray.toList_eq]

theorem bytes_beq (a b : List UInt8) : ((⟨a.toArray⟩ : ByteArray) == ⟨b.toArray⟩) = beqB a b := by
  rw [beq_toListBytes, toList_mk, toList_mk, beqB_eq]
  by_cases h : a = b <;> simp [h]

theorem ieq_beq (a b : Int) : (a == b) = ieq a b := by
  rw [ieq_eq]; by_cases h : a = b <;> simp [h]

/-- Values of one cell. -/
theorem eqv1_sound {ρ : Ren} {w : World} {d : Nat} {t : TypeId} {k : EqK} {a b : AV} {r : Bool} {a' b' : Value} (hk : eqK P (d + 1) t = some k) (hf : k.flat = true) (h : eqv1 k a b = some r)
    (ha : VR ρ a a') (hb : VR ρ b b') (n : Nat) : (Op.equalIn (n + 1) t a' b').run P w = .ok r w := by
  simp only [eqK] at hk
  cases hu : P.underlying t with
  | none => rw [hu] at hk; cases hk
  | some D =>
    rw [hu] at hk
    unfold Op.equalIn
    rw [run_bind_ok (run_underlying' w hu)]
    cases D
    case bool =>
      cases hk
      cases a <;> cases b <;> simp only [eqv1] at h <;> (try cases h)
      obtain rfl := ha; obtain rfl := hb
      rw [bbeq_eq]; rfl
    case int q =>
      cases hk
      cases a <;> cases b <;> simp only [eqv1] at h <;> (try cases h)
      rename_i k1 x k2 y
      obtain rfl := ha; obtain rfl := hb
      cases hkk : kindEq k1 k2 with
      | false => rw [hkk] at h; cases h
      | true =>
        rw [hkk] at h; cases h
        have : k1 = k2 := by simpa [kindEq] using hkk
        subst this
        simp [ieq_beq]
    case string =>
      cases hk
      cases a <;> cases b <;> simp only [eqv1] at h <;> (try cases h)
      obtain rfl := ha; obtain rfl := hb
      simp [bytes_beq]
    case pointer e =>
      dsimp only at hk
      cases hi : (P.info? e).map (·.size) with
      | none => rw [hi] at hk; cases hk
      | some s =>
        rw [hi] at hk
        cases s with
        | zero => cases hk
        | succ s =>
          cases hk
          cases a <;> cases b <;> simp only [eqv1] at h <;> (try cases h)
          · obtain rfl := ha; obtain rfl := hb; rfl
          · obtain rfl := ha; obtain ⟨L, _, rfl⟩ := hb; rfl
          · obtain rfl := hb; obtain ⟨L, _, rfl⟩ := ha; rfl
          · rename_i b1 o1 b2 o2
            obtain ⟨L, e1, rfl⟩ := ha; obtain ⟨L', e2, rfl⟩ := hb
            cases hbb : Nat.beq b1 b2 with
            | false => rw [hbb] at h; cases h
            | true =>
              rw [hbb] at h; cases h
              obtain rfl := Nat.eq_of_beq_eq_true hbb
              rw [e1] at e2; cases e2
              cases hin : P.info? e with
              | none => rw [hin] at hi; cases hi
              | some inf =>
                rw [hin] at hi
                have hsz : inf.size = s + 1 := by simpa using hi
                dsimp only
                rw [run_bind_ok (run_sizeOf w hin), hsz]
                simp [sameAddr, beq_dec]
                by_cases c : o1 = o2 <;> simp [c]
    case slice e =>
      cases hk
      cases a <;> cases b <;> simp only [eqv1] at h <;> (try cases h)
      · obtain rfl := ha; obtain rfl := hb; rfl
      · obtain rfl := ha; obtain ⟨L, c, o, _, rfl, _⟩ := hb; rfl
      · obtain rfl := hb; obtain ⟨L, c, o, _, rfl, _⟩ := ha; rfl
    case map e1 e2 =>
      cases hk
      cases a <;> cases b <;> simp only [eqv1] at h <;> (try cases h)
      · obtain rfl := ha; obtain rfl := hb; rfl
      · obtain rfl := ha; obtain ⟨L, _, rfl⟩ := hb; rfl
      · obtain rfl := hb; obtain ⟨L, _, rfl⟩ := ha; rfl
    case func e1 e2 e3 =>
      cases hk
      cases a <;> cases b <;> simp only [eqv1] at h <;> (try cases h)
      · obtain rfl := ha; obtain rfl := hb; rfl
      · obtain rfl := ha; obtain ⟨x, y, rfl, _⟩ := hb; rfl
      · obtain rfl := hb; obtain ⟨x, y, rfl, _⟩ := ha; rfl
    case interface ms =>
      cases hk
      cases a <;> cases b <;> simp only [eqv1] at h <;> (try cases h)
      · obtain rfl := ha; obtain rfl := hb; rfl
      · obtain rfl := ha; obtain ⟨x, rfl, _⟩ := hb; rfl
      · obtain rfl := hb; obtain ⟨x, rfl, _⟩ := ha; rfl
    case struct fs =>
      dsimp only at hk
      split at hk
      · cases hk
      · split at hk
        · cases hk; cases hf
        · cases hk
    all_goals cases hk

theorem eqv_sound {ρ : Ren} {w : World} : ∀ {d : Nat} {t : TypeId} {k : EqK} {a b : AV} {r : Bool} {a' b' : Value}, eqK P d t = some k → eqv k a b = some r →
    VR ρ a a' → VR ρ b b' → ∀ n, d ≤ n → (Op.equalIn n t a' b').run P w = .ok r w := by
  intro d
  induction d with
  | zero => intro t k a b r a' b' hk; cases hk
  | succ d ih =>
    intro t k a b r a' b' hk h ha hb n hn
    obtain ⟨n, rfl⟩ : ∃ m, n = m + 1 := ⟨n - 1, by omega⟩
    cases hf : k.flat with
    | true =>
      refine eqv1_sound hk hf ?_ ha hb n
      cases k <;> simp [EqK.flat] at hf <;> simpa [eqv] using h
    | false =>
      cases k <;> simp [EqK.flat] at hf
      rename_i fsk
      cases a <;> cases b <;> simp only [eqv, eqv1] at h <;> (try cases h)
      rename_i xs ys
      obtain ⟨xs', rfl, hxs⟩ := ha
      obtain ⟨ys', rfl, hys⟩ := hb
      simp only [eqK] at hk
      cases hu : P.underlying t with
      | none => rw [hu] at hk; cases hk
      | some D =>
        rw [hu] at hk
        cases D <;> (try cases hk)
        case pointer e =>
          dsimp only at hk
          split at hk <;> cases hk
        case struct fs =>
          dsimp only at hk
          split at hk
          · cases hk
          · rename_i hst
            split at hk
            · rename_i l hl
              cases hk
              have hst' : P.stoodInHeld t = false := by simpa using hst
              have hfo : P.fieldsOf t = fs := by simp [Program.fieldsOf, hu]
              rw [run_equalIn_struct w n t _ _ (by rw [hfo]; exact hu) hst', hfo]
              generalize fs.toList = fl at hl
              clear hu hst hst' hfo
              induction fl generalizing fsk with
              | nil => cases hl; simp only [eqvs] at h; cases h; rfl
              | cons f fl ih2 =>
                simp only [allM] at hl
                split at hl
                · cases hl
                · rename_i y hy
                  split at hl
                  · cases hl
                  · rename_i l' hl'
                    cases hl
                    obtain ⟨off, sz, kf⟩ := y
                    simp only [eqvs] at h
                    split at hy
                    · cases hy
                    · rename_i hname
                      have key : ∃ av bv a1 b1, partA xs off sz = some av ∧ partA ys off sz = some bv ∧ VR ρ av a1 ∧ VR ρ bv b1 ∧ eqK P d f.type = some kf ∧ off = f.offset ∧
                          (part f.type xs'.toArray f.offset).run P w = .ok a1 w ∧ (part f.type ys'.toArray f.offset).run P w = .ok b1 w := by
                        cases hpa : partA xs off sz with
                        | none => rw [hpa] at h; cases h
                        | some av =>
                          cases hpb : partA ys off sz with
                          | none => rw [hpa, hpb] at h; cases h
                          | some bv =>
                            cases hkf : eqK P d f.type with
                            | none => rw [hkf] at hy; cases hy
                            | some kk =>
                              rw [hkf] at hy
                              dsimp only at hy
                              cases huf : P.underlying f.type with
                              | none => rw [huf] at hy; cases hy
                              | some D =>
                                rw [huf] at hy
                                by_cases hstr : ∃ q, D = .struct q
                                · obtain ⟨q, rfl⟩ := hstr
                                  cases hif : P.info? f.type with
                                  | none => rw [hif] at hy; cases hy
                                  | some i =>
                                    rw [hif] at hy
                                    cases hy
                                    simp only [partA] at hpa hpb
                                    cases hpa; cases hpb
                                    exact ⟨_, _, _, _, rfl, rfl, ⟨_, rfl, VRs.extract hxs _ _⟩, ⟨_, rfl, VRs.extract hys _ _⟩, rfl, rfl,
                                      by rw [run_partS w (run_isAgg_struct w huf) hif, toArray_extract], by rw [run_partS w (run_isAgg_struct w huf) hif, toArray_extract]⟩
                                · by_cases harr : ∃ q e, D = .array q e
                                  · obtain ⟨q, e, rfl⟩ := harr; cases hy
                                  · have hy' : (f.offset, (none : Option Nat), kk) = (off, sz, kf) := by
                                      cases D <;> first | exact Option.some.inj hy | exact absurd ⟨_, rfl⟩ hstr | exact absurd ⟨_, _, rfl⟩ harr
                                    cases hy'
                                    obtain ⟨a1, e1, r1⟩ := VRs.get hxs hpa
                                    obtain ⟨b1, e2, r2⟩ := VRs.get hys hpb
                                    exact ⟨_, _, a1, b1, rfl, rfl, r1, r2, rfl, rfl,
                                      run_part1 w huf (fun q e => hstr ⟨q, e⟩) (fun q e c => harr ⟨q, e, c⟩) (by simpa using e1),
                                      run_part1 w huf (fun q e => hstr ⟨q, e⟩) (fun q e c => harr ⟨q, e, c⟩) (by simpa using e2)⟩
                      obtain ⟨av, bv, a1, b1, p1, p2, r1, r2, hkf, rfl, q1, q2⟩ := key
                      rw [p1, p2] at h
                      dsimp only at h
                      have hnm : (f.name ≠ "_") = True := by simp [hname]
                      simp only [Op.eqFields, hnm, if_true]
                      rw [run_bind_ok q1, run_bind_ok q2]
                      cases he : eqv kf av bv with
                      | none => rw [he] at h; cases h
                      | some rb =>
                        rw [he] at h
                        rw [run_bind_ok (ih hkf he r1 r2 n (by omega))]
                        cases rb with
                        | false => cases h; rfl
                        | true => exact ih2 _ h hl'
            · cases hk

end
end
end Go.Ab
