/- Operations that read memory, cut slices, build values. -/
import Derived.Test.YtooindilclphjaaGreatDoorAbF
import Derived.Lib.Strings
namespace Go.Ab
noncomputable section

def aLoad (sz : Option Nat) (H : AHeap) (x : AV) : Option AV := match x with
  | .ptr b o => match H.get b with
    | some (.cells _ _ _ t) => match sz with
      | none => t.get? o
      | some n => match t.rdN o n with
        | some l => some (.agg l)
        | none => none
    | _ => none
  | _ => none

section
variable {P : Program} {base : Nat} {ρ : Ren} {H : AHeap} {w : World}

theorem cells_read {L : Loc} {ro : Bool} {esz n o k : Nat} {t : Tr AV} {l : List AV} (h : OR base ρ L (.cells ro esz n t) w) (hl : t.rdN o k = some l) :
    ∃ c el fr l', w.heap[L.blk]? = some (.cells c el fr) ∧ VRs ρ l l' ∧ l'.length = k ∧ ∀ (j : Nat), j < l'.length → c[L.off + o + j]? = l'[j]? := by
  obtain ⟨h1, h2, h3, h4, c, el, fr, h5, h6, h7, h8⟩ := h
  obtain ⟨e1, e2⟩ := Tr.rdN_spec hl
  have : ∀ (m : Nat), m ≤ k → ∃ l', VRs ρ (l.take m) l' ∧ l'.length = m ∧ ∀ (j : Nat), j < m → c[L.off + o + j]? = l'[j]? := by
    intro m
    induction m with
    | zero => intro _; exact ⟨[], by simp [VRs], rfl, fun j hj => by omega⟩
    | succ m ih =>
      intro hm
      obtain ⟨l', r1, r2, r3⟩ := ih (by omega)
      have hx : t.get? (o + m) = l[m]? := e2 m (by omega)
      have hlm : m < l.length := by omega
      obtain ⟨v', q1, q2⟩ := h8 (o + m) l[m] (by rw [hx, List.getElem?_eq_getElem hlm])
      refine ⟨l' ++ [v'], ?_, by simp [r2], fun j hj => ?_⟩
      · rw [List.take_succ_eq_append_getElem hlm]
        exact VRs.append r1 ⟨v', [], rfl, q2, rfl⟩
      · by_cases c1 : j < m
        · rw [r3 j c1, List.getElem?_append_left (by omega)]
        · have : j = m := by omega
          subst this
          rw [List.getElem?_append_right (by omega), r2, Nat.sub_self, Nat.add_assoc, q1]; rfl
  obtain ⟨l', r1, r2, r3⟩ := this k (Nat.le_refl _)
  rw [List.take_of_length_le (by omega)] at r1
  exact ⟨c, el, fr, l', h5, r1, r2, fun j hj => r3 j (by omega)⟩

theorem run_loadVar_of {t : TypeId} {sz : Option Nat} {a : Addr} {v : Value} (ht : partSz P t = some sz) (h1 : sz = none → (load a).run P w = .ok v w) 
    (h2 : ∀ n, sz = some n → ∃ l, (loadCells a n).run P w = .ok l w ∧ v = .agg l) : (loadVar t a).run P w = .ok v w := by
  unfold partSz at ht
  cases hu : P.underlying t with
  | none => rw [hu] at ht; cases ht
  | some D =>
    rw [hu] at ht
    have aggCase : ∀ (_ : (isAgg t).run P w = .ok true w), (P.info? t).map (fun i => some i.size) = some sz → (loadVar t a).run P w = .ok v w := by
      intro hag hm
      cases hi : P.info? t with
      | none => rw [hi] at hm; cases hm
      | some i =>
        rw [hi] at hm; cases hm
        obtain ⟨l, e, rfl⟩ := h2 _ rfl
        unfold loadVar
        rw [run_bind_ok hag]
        simp only [if_true]
        rw [run_bind_ok (run_sizeOf w hi), run_bind_ok e]; rfl
    by_cases hs : ∃ fs, D = .struct fs
    · obtain ⟨fs, rfl⟩ := hs
      exact aggCase (run_isAgg_struct w hu) ht
    · by_cases ha : ∃ n e, D = .array n e
      · obtain ⟨n, e, rfl⟩ := ha
        exact aggCase (run_isAgg_array w hu) ht
      · have : sz = none := by
          cases D <;> first | exact (Option.some.inj ht).symm | exact absurd ⟨_, rfl⟩ hs | exact absurd ⟨_, _, rfl⟩ ha
        unfold loadVar
        rw [run_bind_ok (run_isAgg_false w hu (fun q e => hs ⟨q, e⟩) (fun q e c => ha ⟨q, e, c⟩))]
        simp only [Bool.false_eq_true, if_false]
        exact h1 this

theorem aLoad_var {t : TypeId} {sz : Option Nat} {b o : Nat} {v : AV} {L : Loc} (hr : HR base ρ H w) (ht : partSz P t = some sz) (h : aLoad sz H (.ptr b o) = some v) (hb : ρ b = some L) :
    ∃ v', (loadVar t ⟨L.blk, L.off + o, none⟩).run P w = .ok v' w ∧ VR ρ v v' := by
  simp only [aLoad] at h
  cases hg : H.get b with
  | none => rw [hg] at h; cases h
  | some ob =>
    rw [hg] at h
    cases ob <;> simp only at h <;> (try (cases h; done))
    rename_i ro esz n tr
    have hor := hr.obj b L _ hb hg
    cases sz with
    | none =>
      dsimp only at h
      obtain ⟨h1, h2, h3, h4, c, el, fr, h5, h6, h7, h8⟩ := hor
      obtain ⟨v', e1, e2⟩ := h8 o v h
      exact ⟨v', run_loadVar_of ht (fun _ => run_load h5 e1 _) (fun n e => by cases e), e2⟩
    | some k =>
      dsimp only at h
      cases hd : tr.rdN o k with
      | none => rw [hd] at h; cases h
      | some l =>
        rw [hd] at h; cases h
        obtain ⟨c, el, fr, l', q1, q2, q3, q4⟩ := cells_read hor hd
        refine ⟨.agg l'.toArray, run_loadVar_of ht (fun e => by cases e) (fun n e => ?_), _, rfl, q2⟩
        cases e
        refine ⟨l'.toArray, ?_, rfl⟩
        rw [← q3]
        exact run_loadCells q1 l' q4

theorem aLoad_sound {t : TypeId} {sz : Option Nat} {x v : AV} {x' : Value} (hr : HR base ρ H w) (ht : partSz P t = some sz) (h : aLoad sz H x = some v) (hx : VR ρ x x') :
    ∃ v', (Instr.loadAt t x').run P w = .ok v' w ∧ VR ρ v v' := by
  cases x <;> (try cases h)
  obtain ⟨L, hb, rfl⟩ := hx
  exact aLoad_var hr ht h hb

/-- A number that is not below 0. -/
def aNat : AV → Option Nat
  | .int _ (.ofNat n) => some n
  | _ => none
def aOpt (d : Nat) : Option AV → Option Nat
  | none => some d
  | some v => aNat v

theorem aNat_sound {x : AV} {x' : Value} {n : Nat} (h : aNat x = some n) (hx : VR ρ x x') : ∃ k, x' = .int k (n : Int) := by
  cases x <;> simp only [aNat] at h <;> (try cases h)
  rename_i k m
  cases m with
  | negSucc m => cases h
  | ofNat m => cases h; obtain rfl := hx; exact ⟨k, rfl⟩

def capOf (len : Nat) : Option Nat → Nat
  | none => len
  | some c => c

def aSlice (esz : Nat) (H : AHeap) (x : AV) (lo hi mx : Option AV) : Option AV :=
  match x with
  | .sl b o len cap =>
    match aOpt 0 lo, aOpt len hi with
    | some l, some h =>
      cond (Nat.ble l h) (match mx with
        | none => match cap with
          | none => match H.get b with
            | some (.cells _ e _ _) => cond (Nat.ble h len && Nat.beq e esz) (some (.sl b (Nat.add o (Nat.mul l esz)) (Nat.sub h l) none)) none
            | _ => none
          | some c => cond (Nat.ble h c) (some (.sl b (cond (Nat.beq c l) o (Nat.add o (Nat.mul l esz))) (Nat.sub h l) (some (Nat.sub c l)))) none
        | some mv => match aNat mv with
          | none => none
          | some m => cond (Nat.ble h m && Nat.ble m (capOf len cap))
              (some (.sl b (cond (Nat.beq m l) o (Nat.add o (Nat.mul l esz))) (Nat.sub h l) (some (Nat.sub m l)))) none) none
    | _, _ => none
  | .nilsl =>
    match aOpt 0 lo, aOpt 0 hi, aOpt 0 mx with
    | some 0, some 0, some 0 => some .nilsl
    | _, _, _ => none
  | _ => none

theorem run_sliceBound' {k : IntKind} {n y : Nat} (h : n ≤ y) (code : BoundsCode) : (Instr.sliceBound (.int k (n : Int)) y code).run P w = .ok n w := by
  rw [run_sliceBound w k n y code (by omega) (by omega)]; simp

def OptR (ρ : Ren) : Option AV → Option Value → Prop
  | none, o => o = none
  | some x, o => ∃ y, o = some y ∧ VR ρ x y

/-- The bounds of a cut. -/
theorem bounds_sound {isSlice : Bool} {len cap l h m : Nat} {lo hi mx : Option AV} {lo' hi' mx' : Option Value} (h1 : aOpt 0 lo = some l) (h2 : aOpt len hi = some h) (h3 : aOpt cap mx = some m)
    (r1 : OptR ρ lo lo') (r2 : OptR ρ hi hi') (r3 : OptR ρ mx mx') (b1 : l ≤ h) (b2 : h ≤ m) (b3 : m ≤ cap) (b4 : mx ≠ none → hi ≠ none) :
    (Instr.sliceBounds isSlice len cap lo' hi' mx').run P w = .ok (l, h, m) w := by
  have go : ∀ (k : IntKind) (n y : Nat) (code : BoundsCode), n ≤ y → (Instr.sliceBound (.int k (n : Int)) y code).run P w = .ok n w := fun k n y code q => run_sliceBound' q code
  unfold Instr.sliceBounds
  cases mx with
  | none =>
    obtain rfl := r3; cases h3
    cases hi with
    | none =>
      obtain rfl := r2; cases h2
      cases lo with
      | none => obtain rfl := r1; cases h1; rfl
      | some v =>
        obtain ⟨y, rfl, hv⟩ := r1; obtain ⟨k, rfl⟩ := aNat_sound h1 hv
        simp only [Sem.run_bind, Sem.run_pure, Result.andThen_ok, go _ _ _ _ b1]
    | some u =>
      obtain ⟨z, rfl, hu⟩ := r2; obtain ⟨k2, rfl⟩ := aNat_sound h2 hu
      cases lo with
      | none => obtain rfl := r1; cases h1; simp only [Sem.run_bind, Sem.run_pure, Result.andThen_ok, go _ _ _ _ b2]
      | some v =>
        obtain ⟨y, rfl, hv⟩ := r1; obtain ⟨k, rfl⟩ := aNat_sound h1 hv
        simp only [Sem.run_bind, Sem.run_pure, Result.andThen_ok, go _ _ _ _ b1, go _ _ _ _ b2]
  | some x =>
    obtain ⟨x', rfl, hx⟩ := r3; obtain ⟨k3, rfl⟩ := aNat_sound h3 hx
    cases hi with
    | none => exact absurd rfl (b4 (by simp))
    | some u =>
      obtain ⟨z, rfl, hu⟩ := r2; obtain ⟨k2, rfl⟩ := aNat_sound h2 hu
      cases lo with
      | none => obtain rfl := r1; cases h1; simp only [Sem.run_bind, Sem.run_pure, Result.andThen_ok, go _ _ _ _ b2, go _ _ _ _ b3]
      | some v =>
        obtain ⟨y, rfl, hv⟩ := r1; obtain ⟨k, rfl⟩ := aNat_sound h1 hv
        simp only [Sem.run_bind, Sem.run_pure, Result.andThen_ok, go _ _ _ _ b1, go _ _ _ _ b2, go _ _ _ _ b3]

theorem aSlice_sound {t e : TypeId} {inf : TypeInfo} {x v : AV} {lo hi mx : Option AV} {x' : Value} {lo' hi' mx' : Option Value} (hr : HR base ρ H w) (ht : P.underlying t = some (.slice e)) (he : P.info? e = some inf)
    (h : aSlice inf.size H x lo hi mx = some v) (hx : VR ρ x x') (r1 : OptR ρ lo lo') (r2 : OptR ρ hi hi') (r3 : OptR ρ mx mx') (b4 : mx ≠ none → hi ≠ none) :
    ∃ v', (Instr.sliceAt t x' lo' hi' mx').run P w = .ok v' w ∧ VR ρ v v' := by
  have het : P.elem t = e := elem_of ht
  have ht' : P.underlying t = some (.slice (P.elem t)) := by rw [het]; exact ht
  rw [run_sliceAt_slice w t x' lo' hi' mx' ht']
  cases x <;> simp only [aSlice] at h <;> (try cases h)
  case nilsl =>
    obtain rfl := hx
    cases hl : aOpt 0 lo with
    | none => rw [hl] at h; cases h
    | some l =>
      cases hh : aOpt 0 hi with
      | none => rw [hl, hh] at h; cases l <;> cases h
      | some hv =>
        cases hm : aOpt 0 mx with
        | none => rw [hl, hh, hm] at h; cases l <;> cases hv <;> cases h
        | some m =>
          rw [hl, hh, hm] at h
          cases l <;> cases hv <;> cases m <;> (try cases h)
          refine ⟨.slice none 0 0, ?_, rfl⟩
          rw [run_slice_any w t none 0 0 ht', bounds_sound hl hh hm r1 r2 r3 (Nat.le_refl _) (Nat.le_refl _) (Nat.le_refl _) b4]
          simp [Result.andThen, het, run_sizeOf w he, sliced]
  case sl b o len cap =>
    obtain ⟨L, c, o', hb, rfl, hlc, ho, hcap⟩ := hx
    cases hl : aOpt 0 lo with
    | none => rw [hl] at h; cases h
    | some l =>
      cases hh : aOpt len hi with
      | none => rw [hl, hh] at h; cases h
      | some hv =>
        rw [hl, hh] at h
        dsimp only at h
        cases hlh : Nat.ble l hv with
        | false => rw [hlh] at h; cases h
        | true =>
          rw [hlh] at h
          have b1 := Nat.le_of_ble_eq_true hlh
          simp only [cond_true] at h
          have fin : ∀ (m : Nat), aOpt c mx = some m → hv ≤ m → m ≤ c → (Instr.slice t (.slice (some ⟨L.blk, o', none⟩) len c) lo' hi' mx').run P w =
              .ok (sliced (some ⟨L.blk, o', none⟩) l hv m inf.size) w := fun m q1 q2 q3 => by
            rw [run_slice_any w t _ len c ht', bounds_sound hl hh q1 r1 r2 r3 b1 q2 q3 b4]
            simp [Result.andThen, het, run_sizeOf w he]
          cases mx with
          | none =>
            dsimp only at h
            cases cap with
            | none =>
              dsimp only at h hcap
              cases hg : H.get b with
              | none => rw [hg] at h; cases h
              | some ob =>
                rw [hg] at h
                cases ob <;> simp only at h <;> (try cases h)
                rename_i ro esz n tr
                cases hq : (Nat.ble hv len && Nat.beq esz inf.size) with
                | false => rw [hq] at h; cases h
                | true =>
                  rw [hq] at h; cases h
                  simp only [Bool.and_eq_true] at hq
                  have c1 := Nat.le_of_ble_eq_true hq.1
                  have c2 := Nat.eq_of_beq_eq_true hq.2
                  have hesz : L.esz = inf.size := by
                    have := (hr.obj b L _ hb hg).1.1; omega
                  refine ⟨_, fin c rfl (by omega) (Nat.le_refl _), L, c - l, ?_⟩
                  by_cases ce : c = l
                  · refine ⟨o', hb, by simp [sliced, ce], by show hv - l ≤ c - l; omega, fun e => by omega, ?_⟩
                    dsimp only
                    have e2 : c - l = 0 := by omega
                    rw [e2, Nat.zero_mul]
                    rw [ce] at hcap
                    show L.off + (o + l * inf.size) + 0 ≤ L.top
                    rw [hesz] at hcap; omega
                  · have hc0 : c ≠ 0 := by omega
                    refine ⟨o' + l * inf.size, hb, by simp [sliced, ce, addr_add], by show hv - l ≤ c - l; omega, fun e => by rw [ho hc0]; show _ = L.off + (o + l * inf.size); omega, ?_⟩
                    dsimp only
                    show L.off + (o + l * inf.size) + (c - l) * L.esz ≤ L.top
                    have : (c - l) * L.esz + l * L.esz = c * L.esz := by rw [← Nat.add_mul]; congr 1; omega
                    rw [hesz] at this hcap ⊢
                    omega
            | some c0 =>
              dsimp only at h hcap
              subst hcap
              cases hq : Nat.ble hv c with
              | false => rw [hq] at h; cases h
              | true =>
                rw [hq] at h; cases h
                have c1 := Nat.le_of_ble_eq_true hq
                refine ⟨_, fin c rfl c1 (Nat.le_refl _), L, c - l, ?_⟩
                by_cases ce : c = l
                · refine ⟨o', hb, by simp [sliced, ce], by show hv - l ≤ c - l; omega, fun e => by omega, rfl⟩
                · have hc0 : c ≠ 0 := by omega
                  have hbe : Nat.beq c l = false := by rw [beq_dec]; simp [ce]
                  refine ⟨o' + l * inf.size, hb, by simp [sliced, ce, addr_add], by show hv - l ≤ c - l; omega, fun e => by rw [hbe, ho hc0]; show _ = L.off + (o + l * inf.size); omega, rfl⟩
          | some mv =>
            dsimp only at h
            cases hm : aNat mv with
            | none => rw [hm] at h; cases h
            | some m =>
              rw [hm] at h
              dsimp only at h
              cases hq : (Nat.ble hv m && Nat.ble m (capOf len cap)) with
              | false => rw [hq] at h; cases h
              | true =>
                rw [hq] at h; cases h
                simp only [Bool.and_eq_true] at hq
                have c1 := Nat.le_of_ble_eq_true hq.1
                have c2 : m ≤ c := by
                  have := Nat.le_of_ble_eq_true hq.2
                  cases cap with
                  | none => simp only [capOf] at this; omega
                  | some c0 => simp only [capOf] at this; dsimp only at hcap; omega
                refine ⟨_, fin m hm c1 c2, L, m - l, ?_⟩
                by_cases ce : m = l
                · refine ⟨o', hb, by simp [sliced, ce], by show hv - l ≤ m - l; omega, fun e => by omega, rfl⟩
                · have hc0 : c ≠ 0 := by omega
                  have hbe : Nat.beq m l = false := by rw [beq_dec]; simp [ce]
                  refine ⟨o' + l * inf.size, hb, by simp [sliced, ce, addr_add], by show hv - l ≤ m - l; omega, fun e => by rw [hbe, ho hc0]; show _ = L.off + (o + l * inf.size); omega, rfl⟩

def aSliceS (x : AV) (lo hi : Option AV) : Option AV :=
  match x with
  | .str s => match aOpt 0 lo, aOpt s.length hi with
    | some l, some h => cond (Nat.ble l h && Nat.ble h s.length) (some (.str ((s.drop l).take (Nat.sub h l)))) none
    | _, _ => none
  | _ => none

theorem aSliceS_sound {t : TypeId} {x v : AV} {lo hi : Option AV} {x' : Value} {lo' hi' : Option Value} (ht : P.underlying t = some .string)
    (h : aSliceS x lo hi = some v) (hx : VR ρ x x') (r1 : OptR ρ lo lo') (r2 : OptR ρ hi hi') :
    ∃ v', (Instr.sliceAt t x' lo' hi' none).run P w = .ok v' w ∧ VR ρ v v' := by
  rw [run_sliceAt_string w t x' lo' hi' none ht]
  cases x <;> simp only [aSliceS] at h <;> (try cases h)
  rename_i s
  obtain rfl := hx
  cases hl : aOpt 0 lo with
  | none => rw [hl] at h; cases h
  | some l =>
    cases hh : aOpt s.length hi with
    | none => rw [hl, hh] at h; cases h
    | some hv =>
      rw [hl, hh] at h
      dsimp only at h
      cases hq : (Nat.ble l hv && Nat.ble hv s.length) with
      | false => rw [hq] at h; cases h
      | true =>
        rw [hq] at h; cases h
        simp only [Bool.and_eq_true] at hq
        have c1 := Nat.le_of_ble_eq_true hq.1
        have c2 := Nat.le_of_ble_eq_true hq.2
        refine ⟨.string ((⟨s.toArray⟩ : ByteArray).extract l hv), ?_, ?_⟩
        · unfold Instr.slice
          rw [run_bind_ok (run_underlying' w ht)]
          simp only [Option.isSome_none, Bool.false_eq_true, if_false]
          have := bounds_sound (P := P) (w := w) (ρ := ρ) (isSlice := false) (len := s.length) (cap := s.length) hl hh (mx := none) rfl r1 r2 (mx' := none) rfl c1 c2 (Nat.le_refl _) (fun e => absurd rfl e)
          rw [run_bind_ok (show (Instr.sliceBounds false (⟨s.toArray⟩ : ByteArray).size (⟨s.toArray⟩ : ByteArray).size lo' hi' none).run P w = _ from this)]
          rfl
        · show Value.string _ = Value.string _
          congr 1
          apply ByteArray.ext
          apply Array.ext'
          rw [Lib.extract_data]; rfl

def aSliceA (esz n : Nat) (x : AV) (lo hi mx : Option AV) : Option AV :=
  match x with
  | .ptr b o => match aOpt 0 lo, aOpt n hi, aOpt n mx with
    | some l, some h, some m => cond (Nat.ble l h && (Nat.ble h m && Nat.ble m n)) (some (.sl b (cond (Nat.beq m l) o (Nat.add o (Nat.mul l esz))) (Nat.sub h l) (some (Nat.sub m l)))) none
    | _, _, _ => none
  | _ => none

theorem aSliceA_sound {t e : TypeId} {n : Nat} {inf : TypeInfo} {x v : AV} {lo hi mx : Option AV} {x' : Value} {lo' hi' mx' : Option Value} (ht : P.underlying t = some (.array n e)) (he : P.info? e = some inf)
    (h : aSliceA inf.size n x lo hi mx = some v) (hx : VR ρ x x') (r1 : OptR ρ lo lo') (r2 : OptR ρ hi hi') (r3 : OptR ρ mx mx') (b4 : mx ≠ none → hi ≠ none) :
    ∃ v', (Instr.sliceAt t x' lo' hi' mx').run P w = .ok v' w ∧ VR ρ v v' := by
  cases x <;> simp only [aSliceA] at h <;> (try cases h)
  rename_i b o
  obtain ⟨L, hb, rfl⟩ := hx
  cases hl : aOpt 0 lo with
  | none => rw [hl] at h; cases h
  | some l =>
    cases hh : aOpt n hi with
    | none => rw [hl, hh] at h; cases h
    | some hv =>
      cases hm : aOpt n mx with
      | none => rw [hl, hh, hm] at h; cases h
      | some m =>
        rw [hl, hh, hm] at h
        dsimp only at h
        cases hq : (Nat.ble l hv && (Nat.ble hv m && Nat.ble m n)) with
        | false => rw [hq] at h; cases h
        | true =>
          rw [hq] at h; cases h
          simp only [Bool.and_eq_true] at hq
          have c1 := Nat.le_of_ble_eq_true hq.1
          have c2 := Nat.le_of_ble_eq_true hq.2.1
          have c3 := Nat.le_of_ble_eq_true hq.2.2
          refine ⟨.slice (some (if m = l then ⟨L.blk, L.off + o, none⟩ else (⟨L.blk, L.off + o, none⟩ : Addr).add (l * inf.size))) (hv - l) (m - l), ?_, L, m - l, ?_⟩
          · unfold Instr.sliceAt
            rw [run_bind_ok (run_underlying' w ht)]
            simp only [Instr.sureAddr]
            show (Instr.sliceBounds false n n lo' hi' mx' >>= _).run P w = _
            rw [run_bind_ok (bounds_sound hl hh hm r1 r2 r3 c1 c2 c3 b4)]
            show (sizeOf e >>= _).run P w = _
            rw [run_bind_ok (run_sizeOf w he)]; rfl
          · by_cases ce : m = l
            · refine ⟨L.off + o, hb, by simp [ce], by show hv - l ≤ m - l; omega, fun e => by omega, rfl⟩
            · have hbe : Nat.beq m l = false := by rw [beq_dec]; simp [ce]
              exact ⟨L.off + o + l * inf.size, hb, by simp [ce, addr_add], by show hv - l ≤ m - l; omega, fun e => by rw [hbe]; show _ = L.off + (o + l * inf.size); omega, rfl⟩

inductive LenK where
  | str | sl | map
def lenK (P : Program) (t : TypeId) : Option LenK := match P.underlying t with
  | some .string => some .str
  | some (.slice _) => some .sl
  | some (.map _ _) => some .map
  | _ => none

def aLen (k : LenK) (H : AHeap) (x : AV) : Option AV :=
  match k, x with
  | .str, .str l => some (.int .i64 (.ofNat l.length))
  | .sl, .nilsl => some (.int .i64 0)
  | .sl, .sl _ _ n _ => some (.int .i64 (.ofNat n))
  | .map, .nilmap => some (.int .i64 0)
  | .map, .map b => match H.get b with
    | some (.map es _) => some (.int .i64 (.ofNat es.length))
    | _ => none
  | _, _ => none

theorem ER.length {ρ : Ren} : ∀ {a : List (AV × AV × Nat)} {l : List MapEntry}, ER ρ a l → a.length = l.length
  | [], _, rfl => rfl
  | (_, _, _) :: _, _, ⟨_, _, e, _, _, _, h⟩ => by subst e; simp [ER.length h]

theorem run_getObj_map {k : Nat} {es : Array MapEntry} {c : Nat} (h : w.heap[k]? = some (.map es c)) : (getObj k).run P w = .ok (.map es c) w := by
  simp [getObj, Sem.run, h]

theorem aLen_sound {t ty : TypeId} {k : LenK} {x v : AV} {x' : Value} (hr : HR base ρ H w) (ht : lenK P t = some k) (h : aLen k H x = some v) (hx : VR ρ x x') :
    ∃ v', (Builtin.len_ #[t] ty #[x']).run P w = .ok v' w ∧ VR ρ v v' := by
  unfold lenK at ht
  cases hu : P.underlying t with
  | none => rw [hu] at ht; cases ht
  | some D =>
    rw [hu] at ht
    unfold Builtin.len_
    cases D <;> (try cases ht)
    · cases x <;> simp only [aLen] at h <;> (try cases h)
      obtain rfl := hx
      exact ⟨goInt _, by simp only [List.getElem?_toArray, List.getElem?_cons_zero]; rw [run_bind_ok (run_underlying' w hu)]; rfl, rfl⟩
    · cases x <;> simp only [aLen] at h <;> (try cases h)
      · obtain rfl := hx
        exact ⟨goInt _, by simp only [List.getElem?_toArray, List.getElem?_cons_zero]; rw [run_bind_ok (run_underlying' w hu)]; rfl, rfl⟩
      · obtain ⟨L, c, o, _, rfl, _⟩ := hx
        exact ⟨goInt _, by simp only [List.getElem?_toArray, List.getElem?_cons_zero]; rw [run_bind_ok (run_underlying' w hu)]; rfl, rfl⟩
    · cases x <;> simp only [aLen] at h <;> (try cases h)
      · obtain rfl := hx
        exact ⟨goInt _, by simp only [List.getElem?_toArray, List.getElem?_cons_zero]; rw [run_bind_ok (run_underlying' w hu)]; rfl, rfl⟩
      · rename_i b
        obtain ⟨L, hb, rfl⟩ := hx
        cases hg : H.get b with
        | none => rw [hg] at h; cases h
        | some ob =>
          rw [hg] at h
          cases ob <;> simp only at h <;> (try cases h)
          obtain ⟨_, _, es', h5, h6⟩ := hr.obj b L _ hb hg
          refine ⟨goInt es'.length, ?_, by rw [ER.length h6]; rfl⟩
          simp only [List.getElem?_toArray, List.getElem?_cons_zero]
          rw [run_bind_ok (run_underlying' w hu)]
          show (getObj L.blk >>= _).run P w = _
          rw [run_bind_ok (run_getObj_map h5)]
          simp

def aMinMax (big : Bool) (x y : AV) : Option AV := match x, y with
  | .int k a, .int _ b => some (.int k (cond (cond big (!(ile b a)) (!(ile a b))) b a))
  | _, _ => none

theorem aMin_sound {ts : Array TypeId} {ty : TypeId} {x y v : AV} {x' y' : Value} (h : aMinMax false x y = some v) (hx : VR ρ x x') (hy : VR ρ y y') :
    ∃ v', (Builtin.min_ ts ty #[x', y']).run P w = .ok v' w ∧ VR ρ v v' := by
  cases x <;> cases y <;> simp only [aMinMax] at h <;> (try cases h)
  obtain rfl := hx; obtain rfl := hy
  refine ⟨_, run_min_int2 w ts ty _ _ _ _, ?_⟩
  show Value.int _ _ = Value.int _ _
  rename_i k a k' b
  rw [cond_false, not_ile]
  by_cases c : b < a <;> simp [c]

theorem aMax_sound {ts : Array TypeId} {ty : TypeId} {x y v : AV} {x' y' : Value} (h : aMinMax true x y = some v) (hx : VR ρ x x') (hy : VR ρ y y') :
    ∃ v', (Builtin.max_ ts ty #[x', y']).run P w = .ok v' w ∧ VR ρ v v' := by
  cases x <;> cases y <;> simp only [aMinMax] at h <;> (try cases h)
  obtain rfl := hx; obtain rfl := hy
  refine ⟨_, run_max_int2 w ts ty _ _ _ _, ?_⟩
  show Value.int _ _ = Value.int _ _
  rename_i k a k' b
  rw [cond_true, not_ile]
  by_cases c : b > a
  · have : a < b := c
    simp [this]
  · have : ¬ a < b := c
    simp [this]

/-- A value's parts are filled in. -/
def aFill (cells : List AV) : List (Nat × Nat × AV) → Option (List AV)
  | [] => some cells
  | (off, sz, v) :: r =>
    cond (Nat.beq v.cells.length sz && Nat.ble (Nat.add off sz) cells.length)
      (aFill (cells.take off ++ (v.cells ++ cells.drop (Nat.add off sz))) r) none

theorem VR.cells {ρ : Ren} {x : AV} {x' : Value} (h : VR ρ x x') : VRs ρ x.cells x'.cells.toList := by
  cases x
  case agg l => obtain ⟨l', rfl, hl⟩ := h; simpa [AV.cells, Value.cells] using hl
  case bool => obtain rfl := h; exact ⟨_, _, rfl, rfl, rfl⟩
  case int => obtain rfl := h; exact ⟨_, _, rfl, rfl, rfl⟩
  case str => obtain rfl := h; exact ⟨_, _, rfl, rfl, rfl⟩
  case nilp => obtain rfl := h; exact ⟨_, _, rfl, rfl, rfl⟩
  case ptr => have h' := h; obtain ⟨L, _, rfl⟩ := h; exact ⟨_, _, rfl, h', rfl⟩
  case nilsl => obtain rfl := h; exact ⟨_, _, rfl, rfl, rfl⟩
  case sl => have h' := h; obtain ⟨L, c, o, _, rfl, _⟩ := h; exact ⟨_, _, rfl, h', rfl⟩
  case nilmap => obtain rfl := h; exact ⟨_, _, rfl, rfl, rfl⟩
  case map => have h' := h; obtain ⟨L, _, rfl⟩ := h; exact ⟨_, _, rfl, h', rfl⟩
  case nilfn => obtain rfl := h; exact ⟨_, _, rfl, rfl, rfl⟩
  case fn => have h' := h; obtain ⟨a, b, rfl, _⟩ := h; exact ⟨_, _, rfl, h', rfl⟩
  case nilif => obtain rfl := h; exact ⟨_, _, rfl, rfl, rfl⟩
  case iface => have h' := h; obtain ⟨a, rfl, _⟩ := h; exact ⟨_, _, rfl, h', rfl⟩
  case tup => have h' := h; obtain ⟨a, rfl, _⟩ := h; exact ⟨_, _, rfl, h', rfl⟩

theorem foldl_zipIdx_wr : ∀ (l : List Value) (k off : Nat) (c : Array Value), (l.zipIdx k).foldl (fun cs (x : Value × Nat) => cs.setIfInBounds (off + x.2) x.1) c = wr c (off + k) l
  | [], _, _, _ => rfl
  | v :: l, k, off, c => by
    rw [List.zipIdx_cons, List.foldl_cons, foldl_zipIdx_wr l (k + 1) off]
    rfl

theorem wr_toList (c : Array Value) (off : Nat) (l : List Value) (h : off + l.length ≤ c.size) : (wr c off l).toList = c.toList.take off ++ (l ++ c.toList.drop (off + l.length)) := by
  apply List.ext_getElem?
  intro i
  rw [Array.getElem?_toList, wr_get l c off i h]
  have hs : c.toList.length = c.size := Array.length_toList
  by_cases c1 : i < off
  · rw [if_neg (by omega), List.getElem?_append_left (by simp; omega), List.getElem?_take, if_pos c1, Array.getElem?_toList]
  · rw [List.getElem?_append_right (by simp; omega)]
    have e : i - (c.toList.take off).length = i - off := by simp; omega
    rw [e]
    by_cases c2 : i < off + l.length
    · rw [if_pos (by omega), List.getElem?_append_left (by omega)]
    · rw [if_neg (by omega), List.getElem?_append_right (by omega), List.getElem?_drop, show off + l.length + (i - off - l.length) = i by omega, Array.getElem?_toList]

theorem VRs.take {ρ : Ren} {l : List AV} {v : List Value} (h : VRs ρ l v) (n : Nat) : VRs ρ (l.take n) (v.take n) := by
  have := VRs.extract h 0 n; simpa using this
theorem VRs.drop {ρ : Ren} {l : List AV} {v : List Value} (h : VRs ρ l v) (n : Nat) : VRs ρ (l.drop n) (v.drop n) := by
  have := VRs.extract h n l.length
  rwa [List.take_of_length_le (by simp), List.take_of_length_le (by simp [h.length])] at this

theorem aFill_sound {place : Nat → Option (Nat × Nat)} : ∀ {parts : List (Nat × Nat × AV)} {ps : List (Nat × Value)} {cells : List AV} {cs : Array Value} {r : List AV},
    VRs ρ cells cs.toList → parts.length = ps.length → (∀ (j : Nat) (off sz : Nat) (v : AV), parts[j]? = some (off, sz, v) → ∃ i v', ps[j]? = some (i, v') ∧ place i = some (off, sz) ∧ VR ρ v v') →
    aFill cells parts = some r → ∃ cs', Instr.fill place cs ps = some cs' ∧ VRs ρ r cs'.toList := by
  intro parts
  induction parts with
  | nil =>
    intro ps cells cs r hc hl _ h
    cases ps with
    | nil => cases h; exact ⟨cs, rfl, hc⟩
    | cons => simp at hl
  | cons p parts ih =>
    intro ps cells cs r hc hl hp h
    obtain ⟨off, sz, v⟩ := p
    cases ps with
    | nil => simp at hl
    | cons q ps =>
      obtain ⟨i, v', e1, e2, e3⟩ := hp 0 off sz v rfl
      simp at e1
      subst e1
      simp only [aFill] at h
      cases hq : (Nat.beq v.cells.length sz && Nat.ble (Nat.add off sz) cells.length) with
      | false => rw [hq] at h; cases h
      | true =>
        rw [hq] at h
        simp only [Bool.and_eq_true, cond_true] at hq h
        have c1 := Nat.eq_of_beq_eq_true hq.1
        have c2 : off + sz ≤ cells.length := Nat.le_of_ble_eq_true hq.2
        have hvc := e3.cells
        have hsz : v'.cells.size = sz := by rw [← c1, hvc.length]; simp
        have hcl := hc.length
        simp only [Array.length_toList] at hcl
        have hwr : (v'.cells.zipIdx.foldl (fun cs (x : Value × Nat) => cs.setIfInBounds (off + x.2) x.1) cs) = wr cs off v'.cells.toList := by
          rw [← Array.foldl_toList, Array.toList_zipIdx, foldl_zipIdx_wr]; rfl
        obtain ⟨cs', f1, f2⟩ := ih (ps := ps) (cells := cells.take off ++ (v.cells ++ cells.drop (Nat.add off sz))) (cs := wr cs off v'.cells.toList) (r := r) (by
            rw [wr_toList _ _ _ (by simp; omega)]
            refine VRs.append (hc.take off) (VRs.append hvc ?_)
            have := hc.drop (off + sz)
            rw [show off + v'.cells.toList.length = off + sz by simp; omega]; exact this)
          (by simpa using hl) (fun j off' sz' u hu => by simpa using hp (j + 1) off' sz' u (by simpa using hu)) h
        refine ⟨cs', ?_, f2⟩
        simp only [Instr.fill, e2]
        rw [if_neg (by simp [hsz]; omega), hwr]; exact f1

end
end
end Go.Ab
