/- What the operations come to, held against the model's. -/
import Derived.Test.YtooindilclphjaaGreatDoorAbL
namespace Go.Ab
noncomputable section

section
variable {P : Program} {base : Nat} {ρ : Ren} {H : AHeap} {w : World} {G : List Nat} {ev : Opnd → AV} {ea : Operand → Value}

theorem evs_sound : ∀ {l : List Operand} {m : List Opnd}, (∀ x ∈ l, EvR ρ ev ea G x) → allM (opnd G) l = some m → VRs ρ (evs ev m) (l.map ea) := by
  intro l
  induction l with
  | nil => intro m he h; cases h; rfl
  | cons x l ih =>
    intro m he h
    simp only [allM] at h
    cases e : opnd G x with
    | none => rw [e] at h; cases h
    | some y =>
      rw [e] at h
      cases e2 : allM (opnd G) l with
      | none => rw [e2] at h; cases h
      | some m' =>
        rw [e2] at h; cases h
        exact ⟨ea x, l.map ea, rfl, he x (List.mem_cons_self ..) y e, ih (fun z hz => he z (List.mem_cons_of_mem _ hz)) e2⟩

theorem optOp_sound {o : Option Operand} {m : Option Opnd} (he : ∀ x, o = some x → EvR ρ ev ea G x) (h : optOp G o = some m) : OptR ρ (m.map ev) (o.map ea) := by
  cases o with
  | none => cases h; rfl
  | some x =>
    simp only [optOp, Option.map_eq_some_iff] at h
    obtain ⟨y, h1, rfl⟩ := h
    exact ⟨ea x, rfl, he x rfl y h1⟩

theorem optOp_some {o : Option Operand} {m : Option Opnd} (h : optOp G o = some m) : m.isSome = o.isSome := by
  cases o with
  | none => cases h; rfl
  | some x =>
    simp only [optOp, Option.map_eq_some_iff] at h
    obtain ⟨y, h1, rfl⟩ := h
    rfl

theorem zeroOf_sound {t : Nat} {i : TypeInfo} {zs : List AV} (h : zeroOf P t = some (i, zs)) (ρ : Ren) : P.info? t = some i ∧ ∃ z, i.zero = some z ∧ VRs ρ zs z.cells.toList ∧ z.cells.size = i.size := by
  simp only [zeroOf, bind, Option.bind_eq_some_iff] at h
  obtain ⟨i', h1, z, h2, zs', h3, h4⟩ := h
  split at h4
  · rename_i hs
    cases h4
    exact ⟨h1, z, h2, ofVals_sound h3 ρ, hs⟩
  · cases h4

theorem partsOf_sound {place : Nat → Option (Nat × Nat)} : ∀ {l : List (Nat × Operand)} {m : List (Nat × Nat × Opnd)}, (∀ p ∈ l, EvR ρ ev ea G p.2) → partsOf G place l = some m →
    (evParts ev m).length = l.length ∧ ∀ (j : Nat) (off sz : Nat) (v : AV), (evParts ev m)[j]? = some (off, sz, v) → ∃ i x, l[j]? = some (i, x) ∧ place i = some (off, sz) ∧ VR ρ v (ea x) := by
  intro l
  induction l with
  | nil => intro m he h; cases h; exact ⟨rfl, fun j off sz v h => by simp [evParts] at h⟩
  | cons p l ih =>
    intro m he h
    obtain ⟨i, x⟩ := p
    simp only [partsOf, allM, bind] at h
    cases hp : place i with
    | none => rw [hp] at h; simp at h
    | some os =>
      obtain ⟨o, s⟩ := os
      rw [hp] at h
      simp only [Option.bind_some] at h
      cases hx : opnd G x with
      | none => rw [hx] at h; simp at h
      | some y =>
        rw [hx] at h
        simp only [Option.bind_some] at h
        split at h
        · cases h
        · rename_i m' hm'
          cases h
          obtain ⟨h1, h2⟩ := ih (m := m') (fun z hz => he z (List.mem_cons_of_mem _ hz)) hm'
          refine ⟨by simp [evParts, h1], fun j off sz v hj => ?_⟩
          cases j with
          | zero =>
            simp [evParts] at hj
            obtain ⟨rfl, rfl, rfl⟩ := hj
            exact ⟨i, x, rfl, hp, he (i, x) (List.mem_cons_self ..) y hx⟩
          | succ j => simpa using h2 j off sz v (by simpa [evParts] using hj)

theorem fieldPlaces_run {fs : Array Field} {ps : List (Nat × Nat)} (h : fieldPlaces P fs = some ps) :
    (fs.mapM fun f => do pure (f.offset, ← sizeOf f.type) : Sem (Array (Nat × Nat))).run P w = .ok ps.toArray w := by
  rw [Array.mapM_eq_mapM_toList]
  have : ∀ (l : List Field) (ps : List (Nat × Nat)), allM (fun (f : Field) => (P.info? f.type).map fun i => (f.offset, i.size)) l = some ps → (l.mapM fun f => do pure (f.offset, ← sizeOf f.type) : Sem (List (Nat × Nat))).run P w = .ok ps w := by
    intro l
    induction l with
    | nil => intro ps h; cases h; rfl
    | cons f l ih =>
      intro ps h
      simp only [allM] at h
      cases e : P.info? f.type with
      | none => rw [e] at h; cases h
      | some i =>
        rw [e] at h
        simp only [Option.map_some] at h
        split at h
        · cases h
        · rename_i m hm
          cases h
          rw [List.mapM_cons]
          simp only [Sem.run_bind, run_sizeOf w e, Result.andThen_ok, Sem.run_pure]
          have := ih m hm
          rw [this]; rfl
  have h2 := this fs.toList ps h
  show ((List.toArray <$> (fs.toList.mapM fun f => do pure (f.offset, ← sizeOf f.type)) : Sem (Array (Nat × Nat)))).run P w = _
  have hmap : ∀ {α β : Type} (g : α → β) (s : Sem α), (g <$> s) = (s >>= fun a => pure (g a)) := fun g s => rfl
  rw [hmap, run_bind_ok h2]; rfl

theorem aNil_sound {x v : AV} {x' : Value} (h : aNil x = some v) (hx : VR ρ x x') (o : Oper) (y : Operand) (ho : o.op = .nilCheck y) (hy : ea y = x') : (execOp ea o).run P w = .ok (.value x') w ∧ VR ρ v x' := by
  unfold execOp
  rw [ho]
  simp only [hy]
  cases x <;> simp only [aNil] at h <;> (try cases h)
  case bool => obtain rfl := hx; exact ⟨rfl, rfl⟩
  case int => obtain rfl := hx; exact ⟨rfl, rfl⟩
  case str => obtain rfl := hx; exact ⟨rfl, rfl⟩
  case ptr => have hx' := hx; obtain ⟨L, _, rfl⟩ := hx; exact ⟨rfl, hx'⟩
  case nilsl => obtain rfl := hx; exact ⟨rfl, rfl⟩
  case sl => have hx' := hx; obtain ⟨L, c, o, _, rfl, _⟩ := hx; exact ⟨rfl, hx'⟩
  case nilmap => obtain rfl := hx; exact ⟨rfl, rfl⟩
  case map => have hx' := hx; obtain ⟨L, _, rfl⟩ := hx; exact ⟨rfl, hx'⟩
  case fn => have hx' := hx; obtain ⟨a, b, rfl, _⟩ := hx; exact ⟨rfl, hx'⟩
  case iface => have hx' := hx; obtain ⟨a, rfl, _⟩ := hx; exact ⟨rfl, hx'⟩

theorem run_value {s : Sem Value} {v : Value} (h : s.run P w = .ok v w) : (do pure (Next.value (← s)) : Sem Next).run P w = .ok (.value v) w := by
  rw [run_bind_ok h]; rfl

theorem rd_sound {o : Oper} {k : KR} {v : AV} (hr : HR base ρ H w) (he : ∀ x ∈ o.op.operands, EvR ρ ev ea G x) (hc : compR P G o.op = some k) (h : rdK k ev H = some v) :
    ∃ v', (execOp ea o).run P w = .ok (.value v') w ∧ VR ρ v v' := by
  obtain ⟨dst, op, type, pos, after, guard⟩ := o
  simp only at hc
  unfold compR at hc
  split at hc
  · -- move
    simp only [bind, Option.bind_eq_some_iff] at hc
    obtain ⟨x, h1, h2⟩ := hc
    cases h2; cases h
    exact ⟨_, rfl, he _ (by simp [Op.operands]) x h1⟩
  · -- assign
    simp only [bind, Option.bind_eq_some_iff] at hc
    obtain ⟨x, h1, h2⟩ := hc
    cases h2; cases h
    exact ⟨_, rfl, he _ (by simp [Op.operands]) x h1⟩
  · -- pick
    simp only [bind, Option.bind_eq_some_iff] at hc
    obtain ⟨c, h1, a, h2, b, h3, h4⟩ := hc
    cases h4
    simp only [rdK] at h
    have r1 := he _ (by simp [Op.operands]) c h1
    revert h r1
    generalize ev c = cv
    intro h r1
    cases cv <;> simp only [aPick] at h <;> (try cases h)
    rename_i b0
    have e1 : ea _ = .bool b0 := r1
    cases b0 with
    | true => cases h; exact ⟨_, by simp only [execOp, e1, asBool]; rfl, he _ (by simp [Op.operands]) a h2⟩
    | false => cases h; exact ⟨_, by simp only [execOp, e1, asBool]; rfl, he _ (by simp [Op.operands]) b h3⟩
  · -- build
    simp only [bind, Option.bind_eq_some_iff] at hc
    obtain ⟨⟨i, zs⟩, h1, h2⟩ := hc
    obtain ⟨hi, z, hz, hzs, hsz⟩ := zeroOf_sound h1 ρ
    rename_i t parts
    split at h2
    · rename_i fs hu
      simp only [Option.bind_eq_some_iff] at h2
      obtain ⟨ps, h3, parts', h4, h5⟩ := h2
      cases h5
      simp only [rdK] at h
      cases hf : aFill zs (evParts ev parts') with
      | none => rw [hf] at h; cases h
      | some r =>
        rw [hf] at h; cases h
        obtain ⟨q1, q2⟩ := partsOf_sound (fun p hp => he p.2 (by simp only [Op.operands]; exact List.mem_toArray.2 (List.mem_map.2 ⟨p, hp, rfl⟩))) h4
        obtain ⟨cs', f1, f2⟩ := aFill_sound (place := fun j => ps[j]?) (ps := (parts.map fun (i, x) => (i, ea x)).toList) hzs (by simp [q1]) (fun j off sz v hj => by
          obtain ⟨i, x, e1, e2, e3⟩ := q2 j off sz v hj
          exact ⟨i, ea x, by simp only [Array.toList_map, List.getElem?_map, e1]; rfl, e2, e3⟩) hf
        refine ⟨.agg cs', ?_, _, by simp, f2⟩
        refine run_value (s := Instr.build t (parts.map fun (i, x) => (i, ea x))) ?_
        unfold Instr.build
        simp only [Sem.run_bind, run_zeroValue hi hz, Result.andThen_ok, run_underlying' w hu]
        have := fieldPlaces_run (w := w) h3
        rw [this]
        simp only [Result.andThen_ok]
        have hpl : (fun (x : Nat) => ps.toArray[x]?) = fun (x : Nat) => ps[x]? := by funext x; simp
        rw [hpl, f1]; rfl
    · rename_i n e hu
      simp only [Option.bind_eq_some_iff] at h2
      obtain ⟨ie, h3, parts', h4, h5⟩ := h2
      cases h5
      simp only [rdK] at h
      cases hf : aFill zs (evParts ev parts') with
      | none => rw [hf] at h; cases h
      | some r =>
        rw [hf] at h; cases h
        obtain ⟨q1, q2⟩ := partsOf_sound (fun p hp => he p.2 (by simp only [Op.operands]; exact List.mem_toArray.2 (List.mem_map.2 ⟨p, hp, rfl⟩))) h4
        obtain ⟨cs', f1, f2⟩ := aFill_sound (place := fun j => some (j * ie.size, ie.size)) (ps := (parts.map fun (i, x) => (i, ea x)).toList) hzs (by simp [q1]) (fun j off sz v hj => by
          obtain ⟨i, x, e1, e2, e3⟩ := q2 j off sz v hj
          exact ⟨i, ea x, by simp only [Array.toList_map, List.getElem?_map, e1]; rfl, e2, e3⟩) hf
        refine ⟨.agg cs', ?_, _, by simp, f2⟩
        refine run_value (s := Instr.build t (parts.map fun (i, x) => (i, ea x))) ?_
        unfold Instr.build
        simp only [Sem.run_bind, run_zeroValue hi hz, Result.andThen_ok, run_underlying' w hu, run_sizeOf w h3, f1, Sem.run_pure]
    · cases h2
  · -- load
    simp only [bind, Option.bind_eq_some_iff] at hc
    obtain ⟨sz, h1, x, h2, h3⟩ := hc
    cases h3
    obtain ⟨v', e1, e2⟩ := aLoad_sound hr h1 h (he _ (by simp [Op.operands]) x h2)
    exact ⟨v', run_value e1, e2⟩
  · -- nilCheck
    simp only [bind, Option.bind_eq_some_iff] at hc
    obtain ⟨x, h1, h2⟩ := hc
    cases h2
    obtain ⟨e1, e2⟩ := aNil_sound (P := P) (w := w) (ea := ea) (x' := ea _) h (he _ (by simp [Op.operands]) x h1) ⟨dst, .nilCheck _, type, pos, after, guard⟩ _ rfl rfl
    exact ⟨_, e1, e2⟩
  · -- binOp
    simp only [bind, Option.bind_eq_some_iff] at hc
    obtain ⟨a, h1, b, h2, h3⟩ := hc
    rename_i bop t x y yt
    have bin : ∀ {v : AV}, aBin bop (ev a) (ev b) = some v → ∃ v', (execOp ea ⟨dst, .binOp bop t x y yt, type, pos, after, guard⟩).run P w = .ok (.value v') w ∧ VR ρ v v' := by
      intro v hb
      obtain ⟨v', e1, e2⟩ := aBin_sound (P := P) (w := w) (t := t) hb (he _ (by simp [Op.operands]) a h1) (he _ (by simp [Op.operands]) b h2) x y
      exact ⟨v', run_value e1, e2⟩
    split at h3
    · rename_i hop
      split at h3
      · cases h3; exact bin h
      · cases h3; exact bin h
      · simp only [Option.bind_eq_some_iff] at h3
        obtain ⟨ke, h4, h5⟩ := h3
        split at h5
        · rename_i hg
          cases h5
          obtain ⟨v', e1, e2⟩ := aEq_sound (P := P) (w := w) h4 (by decide) hg h (he _ (by simp [Op.operands]) a h1) (he _ (by simp [Op.operands]) b h2)
          refine ⟨v', run_value ?_, e2⟩
          rcases hop with rfl | rfl
          · exact e1
          · exact e1
        · cases h5
    · cases h3; exact bin h
  · -- unOp
    simp only [bind, Option.bind_eq_some_iff] at hc
    obtain ⟨x, h1, h2⟩ := hc
    cases h2
    obtain ⟨v', e1, e2⟩ := aUn_sound (P := P) (w := w) h (he _ (by simp [Op.operands]) x h1)
    exact ⟨v', run_value e1, e2⟩
  · -- convert
    simp only [bind, Option.bind_eq_some_iff] at hc
    obtain ⟨x, h1, h2⟩ := hc
    split at h2
    · rename_i D kk hs hd
      cases h2
      obtain ⟨v', e1, e2⟩ := aConv_sound (P := P) (w := w) (by rw [hs]; rfl) hd h (he _ (by simp [Op.operands]) x h1)
      exact ⟨v', run_value e1, e2⟩
    · rename_i D hs hd
      cases h2
      simp only [rdK] at h
      have r1 := he _ (by simp [Op.operands]) x h1
      revert h r1
      generalize ev x = xv
      intro h r1
      cases xv <;> simp only [strOnly] at h <;> (try cases h)
      rename_i l
      refine ⟨ea _, run_value ?_, r1⟩
      have r1' : ea _ = .string ⟨l.toArray⟩ := r1
      rw [r1']
      unfold convert
      rw [run_bind_ok (run_underlying' w hs), run_bind_ok (run_underlying' w hd)]
      cases D <;> rfl
    · cases h2
  · -- makeInterface
    simp only [bind, Option.bind_eq_some_iff] at hc
    obtain ⟨x, h1, h2⟩ := hc
    split at h2
    · rename_i hcn
      cases h2; cases h
      exact ⟨_, run_value (run_makeInterface w _ _ hcn), _, rfl, he _ (by simp [Op.operands]) x h1⟩
    · cases h2
  · -- makeFunc
    simp only [bind, Option.bind_eq_some_iff] at hc
    obtain ⟨f1, h1, f2, h2, h3⟩ := hc
    cases h3; cases h
    rename_i f first caps
    refine ⟨.func (.func f) (first.map ea) (caps.map ea), rfl, _, _, ?_, evs_sound (fun z hz => he z (by simp only [Op.operands]; exact Array.mem_append.2 (.inl (Array.mem_toList_iff.1 hz)))) h1, evs_sound (fun z hz => he z (by simp only [Op.operands]; exact Array.mem_append.2 (.inr (Array.mem_toList_iff.1 hz)))) h2⟩
    rw [show Array.map ea first = (first.toList.map ea).toArray from by apply Array.ext'; simp, show Array.map ea caps = (caps.toList.map ea).toArray from by apply Array.ext'; simp]
  · -- slice
    simp only [bind, Option.bind_eq_some_iff] at hc
    obtain ⟨x, h1, l, h2, hh, h3, m, h4, h5⟩ := hc
    rename_i t x0 lo hi mx
    split at h5
    · cases h5
    · rename_i hmx
      have b4 : (m.map ev) ≠ none → (hh.map ev) ≠ none := by
        intro q1 q2
        have e1 := optOp_some h4
        have e2 := optOp_some h3
        cases m with
        | none => exact q1 rfl
        | some m0 =>
          cases hh with
          | none => exact hmx (by cases mx <;> cases hi <;> simp_all)
          | some h0 => cases q2
      split at h5
      · rename_i e hu
        simp only [Option.bind_eq_some_iff] at h5
        obtain ⟨i, h6, h7⟩ := h5
        cases h7
        obtain ⟨v', e1, e2⟩ := aSlice_sound hr hu h6 h (he _ (by simp [Op.operands]) x h1) (optOp_sound (fun z hz => he z (by subst hz; simp [Op.operands])) h2) (optOp_sound (fun z hz => he z (by subst hz; simp [Op.operands])) h3) (optOp_sound (fun z hz => he z (by subst hz; simp [Op.operands])) h4) b4
        exact ⟨v', run_value e1, e2⟩
      · rename_i hu
        split at h5
        · cases h5
        · rename_i hms
          cases h5
          cases mx with
          | some q => simp at hms
          | none =>
            obtain ⟨v', e1, e2⟩ := aSliceS_sound (P := P) (w := w) hu h (he _ (by simp [Op.operands]) x h1) (optOp_sound (fun z hz => he z (by subst hz; simp [Op.operands])) h2) (optOp_sound (fun z hz => he z (by subst hz; simp [Op.operands])) h3)
            exact ⟨v', run_value e1, e2⟩
      · rename_i n e hu
        simp only [Option.bind_eq_some_iff] at h5
        obtain ⟨i, h6, h7⟩ := h5
        cases h7
        obtain ⟨v', e1, e2⟩ := aSliceA_sound (w := w) hu h6 h (he _ (by simp [Op.operands]) x h1) (optOp_sound (fun z hz => he z (by subst hz; simp [Op.operands])) h2) (optOp_sound (fun z hz => he z (by subst hz; simp [Op.operands])) h3) (optOp_sound (fun z hz => he z (by subst hz; simp [Op.operands])) h4) b4
        exact ⟨v', run_value e1, e2⟩
      · cases h5
  · -- fieldAddr
    simp only [bind, Option.bind_eq_some_iff] at hc
    obtain ⟨x, h1, h2⟩ := hc
    split at h2
    · rename_i fs hu
      simp only [Option.bind_eq_some_iff] at h2
      obtain ⟨fd, h3, i, h4, h5⟩ := h2
      split at h5
      · cases h5
      · rename_i hz
        cases h5
        obtain ⟨v', e1, e2⟩ := aFaddr_sound (P := P) (w := w) hu h3 h4 hz h (he _ (by simp [Op.operands]) x h1)
        exact ⟨v', run_value e1, e2⟩
    · cases h2
  · -- indexAddr
    simp only [bind, Option.bind_eq_some_iff] at hc
    obtain ⟨x, h1, i, h2, h3⟩ := hc
    split at h3
    · rename_i e hu
      simp only [Option.bind_eq_some_iff] at h3
      obtain ⟨inf, h4, h5⟩ := h3
      cases h5
      obtain ⟨v', e1, e2⟩ := aIaddr_sound (P := P) (w := w) hu h4 h (he _ (by simp [Op.operands]) x h1) (he _ (by simp [Op.operands]) i h2)
      exact ⟨v', run_value e1, e2⟩
    · rename_i n e hu
      simp only [Option.bind_eq_some_iff] at h3
      obtain ⟨inf, h4, h5⟩ := h3
      cases h5
      obtain ⟨v', e1, e2⟩ := aIaddrA_sound (P := P) (w := w) hu h4 h (he _ (by simp [Op.operands]) x h1) (he _ (by simp [Op.operands]) i h2)
      exact ⟨v', run_value e1, e2⟩
    · cases h3
  · -- index
    simp only [bind, Option.bind_eq_some_iff] at hc
    obtain ⟨x, h1, i, h2, h3⟩ := hc
    split at h3
    · rename_i hu
      cases h3
      obtain ⟨v', e1, e2⟩ := aIdxS_sound (P := P) (w := w) hu h (he _ (by simp [Op.operands]) x h1) (he _ (by simp [Op.operands]) i h2)
      exact ⟨v', run_value e1, e2⟩
    · rename_i n e hu
      simp only [Option.bind_eq_some_iff] at h3
      obtain ⟨inf, h4, sz, h5, h6⟩ := h3
      cases h6
      obtain ⟨v', e1, e2⟩ := aIdxA_sound (P := P) (w := w) hu h4 h5 h (he _ (by simp [Op.operands]) x h1) (he _ (by simp [Op.operands]) i h2)
      exact ⟨v', run_value e1, e2⟩
    · cases h3
  · -- field
    simp only [bind, Option.bind_eq_some_iff] at hc
    obtain ⟨x, h1, h2⟩ := hc
    split at h2
    · rename_i fs hu
      simp only [Option.bind_eq_some_iff] at h2
      obtain ⟨fd, h3, sz, h4, h5⟩ := h2
      cases h5
      obtain ⟨v', e1, e2⟩ := aFld_sound (P := P) (w := w) hu h3 h4 h (he _ (by simp [Op.operands]) x h1)
      exact ⟨v', run_value e1, e2⟩
    · cases h2
  · -- lookup
    simp only [bind, Option.bind_eq_some_iff] at hc
    obtain ⟨m, h1, kk, h2, h3⟩ := hc
    split at h3
    · rename_i kt et hu
      simp only [Option.bind_eq_some_iff] at h3
      obtain ⟨ke, h4, i, h5, z, h6, za, h7, h8⟩ := h3
      cases h8
      have hz : VR ρ za z := by
        split at h7
        · simp only [Option.map_eq_some_iff] at h7
          obtain ⟨l, q1, rfl⟩ := h7
          exact ⟨_, by simp, ofVals_sound q1 ρ⟩
        · exact ofVal_sound h7 ρ
      obtain ⟨v', e1, e2⟩ := aLook_sound hr hu h4 (by decide) h5 h6 hz h (he _ (by simp [Op.operands]) m h1) (he _ (by simp [Op.operands]) kk h2)
      exact ⟨v', run_value e1, e2⟩
    · cases h3
  · -- extract
    simp only [bind, Option.bind_eq_some_iff] at hc
    obtain ⟨x, h1, h2⟩ := hc
    cases h2
    obtain ⟨v', e1, e2⟩ := aExt_sound (P := P) (w := w) h (he _ (by simp [Op.operands]) x h1)
    exact ⟨v', run_value e1, e2⟩
  · -- len
    rename_i args argTypes
    split at hc
    · rename_i x t ha ht
      simp only [bind, Option.bind_eq_some_iff] at hc
      obtain ⟨lk, h1, x', h2, h3⟩ := hc
      cases h3
      obtain ⟨args⟩ := args
      obtain ⟨argTypes⟩ := argTypes
      simp only at ha ht
      subst ha; subst ht
      obtain ⟨v', e1, e2⟩ := aLen_sound (ty := type) hr h1 h (he _ (by simp [Op.operands, Call.operands]) x' h2)
      exact ⟨v', by simp only [execOp, resolve, Sem.run_bind, Sem.run_pure, Result.andThen_ok, invoke, builtin]; rw [show Array.map ea (⟨[x]⟩ : Array Operand) = #[ea x] from by apply Array.ext'; simp]; rw [show (Builtin.len_ ⟨[t]⟩ type #[ea x]).run P w = _ from e1]; rfl, e2⟩
    · cases hc
  · -- min
    rename_i args argTypes
    split at hc
    · rename_i x y ha
      simp only [bind, Option.bind_eq_some_iff] at hc
      obtain ⟨x', h1, y', h2, h3⟩ := hc
      cases h3
      obtain ⟨args⟩ := args
      simp only at ha
      subst ha
      obtain ⟨v', e1, e2⟩ := aMin_sound (P := P) (w := w) (ts := argTypes) (ty := type) h (he _ (by simp [Op.operands, Call.operands]) x' h1) (he _ (by simp [Op.operands, Call.operands]) y' h2)
      exact ⟨v', by simp only [execOp, resolve, Sem.run_bind, Sem.run_pure, Result.andThen_ok, invoke, builtin]; rw [show Array.map ea (⟨[x, y]⟩ : Array Operand) = #[ea x, ea y] from by apply Array.ext'; simp]; rw [show (Builtin.min_ argTypes type #[ea x, ea y]).run P w = _ from e1]; rfl, e2⟩
    · cases hc
  · -- max
    rename_i args argTypes
    split at hc
    · rename_i x y ha
      simp only [bind, Option.bind_eq_some_iff] at hc
      obtain ⟨x', h1, y', h2, h3⟩ := hc
      cases h3
      obtain ⟨args⟩ := args
      simp only at ha
      subst ha
      obtain ⟨v', e1, e2⟩ := aMax_sound (P := P) (w := w) (ts := argTypes) (ty := type) h (he _ (by simp [Op.operands, Call.operands]) x' h1) (he _ (by simp [Op.operands, Call.operands]) y' h2)
      exact ⟨v', by simp only [execOp, resolve, Sem.run_bind, Sem.run_pure, Result.andThen_ok, invoke, builtin]; rw [show Array.map ea (⟨[x, y]⟩ : Array Operand) = #[ea x, ea y] from by apply Array.ext'; simp]; rw [show (Builtin.max_ argTypes type #[ea x, ea y]).run P w = _ from e1]; rfl, e2⟩
    · cases hc
  · cases hc

end
end
end Go.Ab
