/- Operations that make, write, call. -/
import Derived.Test.YtooindilclphjaaGreatDoorAbM
namespace Go.Ab
noncomputable section

section
variable {P : Program} {base : Nat} {ρ : Ren} {H : AHeap} {w : World} {G : List Nat} {ev : Opnd → AV} {ea : Operand → Value}

theorem nw_sound {o : Oper} {k : KN} {ob : AObj} {m : Mk} (hlow : base ≤ w.heap.size) (he : ∀ x ∈ o.op.operands, EvR ρ ev ea G x) (hc : compN P G o.op = some k) (h : nwK k ev = some (ob, m)) :
    ∃ s, execOp ea o = (s >>= fun v => pure (Next.value v)) ∧ Makes P base ρ w s ob m := by
  obtain ⟨dst, op, type, pos, after, guard⟩ := o
  simp only at hc
  unfold compN at hc
  split at hc
  · -- alloc
    simp only [bind, Option.bind_eq_some_iff] at hc
    obtain ⟨⟨i, zs⟩, h1, h2⟩ := hc
    obtain ⟨hi, z, hz, hzs, hsz⟩ := zeroOf_sound h1 ρ
    cases hb : isBld i zs with
    | false =>
      rw [hb] at h2
      cases h2; cases h
      exact ⟨_, rfl, aNew_sound hlow hi hz hzs⟩
    | true =>
      rw [hb] at h2
      cases h2; cases h
      unfold isBld at hb
      split at hb
      · exact ⟨_, rfl, aNewB_sound hlow hi hz hzs⟩
      · cases hb
  · -- box
    simp only [bind, Option.bind_eq_some_iff] at hc
    obtain ⟨x, h1, h2⟩ := hc
    cases h2; cases h
    exact ⟨_, rfl, aBox_sound hlow (he _ (by simp [Op.operands]) x h1)⟩
  · -- makeMap
    cases hc; cases h
    exact ⟨_, rfl, aMap_sound hlow rfl⟩
  · -- makeSlice
    split at hc
    · rename_i e hu
      simp only [bind, Option.bind_eq_some_iff] at hc
      obtain ⟨⟨i, zs⟩, h1, l, h2, c, h3, h4⟩ := hc
      obtain ⟨hi, z, hz, hzs, hsz⟩ := zeroOf_sound h1 ρ
      cases h4
      exact ⟨_, rfl, aMksl_sound hlow hu hi hz hzs hsz h (he _ (by simp [Op.operands]) l h2) (he _ (by simp [Op.operands]) c h3)⟩
    · cases hc
  · -- buildSlice
    rename_i t len parts
    split at hc
    · rename_i e hu
      simp only [bind, Option.bind_eq_some_iff] at hc
      obtain ⟨⟨i, zs⟩, h1, ps, h2, h3⟩ := hc
      obtain ⟨hi, z, hz, hzs, hsz⟩ := zeroOf_sound h1 ρ
      cases h3
      obtain ⟨q1, q2⟩ := partsOf_sound (fun p hp => he p.2 (by simp only [Op.operands]; exact List.mem_toArray.2 (List.mem_map.2 ⟨p, hp, rfl⟩))) h2
      have h' : aBsl i.size len zs (evParts ev ps) = some (ob, m) := h
      have hlen : (evParts ev ps).length = (parts.map fun (i, x) => (i, ea x)).toList.length := by rw [q1]; simp
      refine ⟨Instr.buildSlice t len (parts.map fun (i, x) => (i, ea x)), by simp only [execOp], ?_⟩
      refine aBsl_sound (parts := evParts ev ps) hlow hu hi hz hzs hsz hlen ?_ h'
      intro j off sz v hj
      obtain ⟨i', x, e1, e2, e3⟩ := q2 j off sz v hj
      simp only [Option.some.injEq, Prod.mk.injEq] at e2
      obtain ⟨rfl, rfl⟩ := e2
      have e4 : (parts.map fun (i, x) => (i, ea x)).toList[j]? = some (i', ea x) := by
        rw [Array.toList_map, List.getElem?_map, e1]; rfl
      exact ⟨i', ea x, e4, rfl, rfl, e3⟩
    · cases hc
  · cases hc

/-- The model's two ways to go on behind a loud operation. -/
def NextR (ρ : Ren) (v : AV) : Next → Prop
  | .value v' => VR ρ v v'
  | .skip => v = .undef
  | _ => False

theorem goes_value {s : Sem Value} {H' : AHeap} {R : Ren → Value → Prop} {v : AV} (h : Goes P base ρ H w s H' R) (hR : ∀ ρ' r, R ρ' r → VR ρ' v r) : Goes P base ρ H w (do pure (Next.value (← s)) : Sem Next) H' (fun ρ' r => NextR ρ' v r) := by
  obtain ⟨r, w', ρ', e1, e2, e3, e4⟩ := h
  exact ⟨.value r, w', ρ', by rw [run_bind_ok e1]; rfl, hR _ _ e2, e3, e4⟩
theorem goes_skip {s : Sem Unit} {H' : AHeap} {R : Ren → Unit → Prop} (h : Goes P base ρ H w s H' R) : Goes P base ρ H w (do s; pure Next.skip : Sem Next) H' (fun ρ' r => NextR ρ' .undef r) := by
  obtain ⟨r, w', ρ', e1, e2, e3, e4⟩ := h
  exact ⟨.skip, w', ρ', by rw [run_bind_ok e1]; rfl, rfl, e3, e4⟩

theorem unitW_some {o : Option AHeap} {v : AV} {H' : AHeap} (h : unitW o = some (v, H')) : o = some H' ∧ v = .undef := by
  cases o with
  | none => cases h
  | some x => cases h; exact ⟨rfl, rfl⟩

theorem wr_sound {o : Oper} {k : KW} {v : AV} {H' : AHeap} (hr : HR base ρ H w) (he : ∀ x ∈ o.op.operands, EvR ρ ev ea G x) (hc : compW P G o.op = some k) (h : wrK k ev H = some (v, H')) :
    Goes P base ρ H w (execOp ea o) H' (fun ρ' r => NextR ρ' v r) := by
  obtain ⟨dst, op, type, pos, after, guard⟩ := o
  simp only at hc
  unfold compW at hc
  split at hc
  · -- store
    simp only [bind, Option.bind_eq_some_iff] at hc
    obtain ⟨i, h1, a, h2, x, h3, h4⟩ := hc
    cases h4
    obtain ⟨e1, rfl⟩ := unitW_some h
    exact goes_skip (aStore_sound hr h1 e1 (he _ (by simp [Op.operands]) a h2) (he _ (by simp [Op.operands]) x h3))
  · -- mapUpdate
    split at hc
    · rename_i kt et hu
      simp only [bind, Option.bind_eq_some_iff] at hc
      obtain ⟨ke, h1, m, h2, kk, h3, x, h4, h5⟩ := hc
      cases h5
      obtain ⟨e1, rfl⟩ := unitW_some h
      exact goes_skip (aMapUp_sound hr hu h1 (by decide) e1 (he _ (by simp [Op.operands]) m h2) (he _ (by simp [Op.operands]) kk h3) (he _ (by simp [Op.operands]) x h4))
    · cases hc
  · -- append
    rename_i args argTypes
    split at hc
    · rename_i s x t u ha ht
      split at hc
      · rename_i e hu
        simp only [bind, Option.bind_eq_some_iff] at hc
        obtain ⟨⟨i, zs⟩, h1, h2⟩ := hc
        obtain ⟨hi, z, hz, hzs, hsz⟩ := zeroOf_sound h1 ρ
        split at h2
        · rename_i hso
          simp only [Option.bind_eq_some_iff] at h2
          obtain ⟨s', h3, x', h4, h5⟩ := h2
          cases h5
          obtain ⟨args⟩ := args
          obtain ⟨argTypes⟩ := argTypes
          simp only at ha ht
          subst ha; subst ht
          have hg := aApp_sound (ty := type) hr hu hi hz hsz hso h (he _ (by simp [Op.operands, Call.operands]) s' h3) (he _ (by simp [Op.operands, Call.operands]) x' h4)
          have := goes_value (v := v) hg (fun ρ' r q => q)
          obtain ⟨r, w', ρ', e1, e2, e3, e4⟩ := this
          refine ⟨r, w', ρ', ?_, e2, e3, e4⟩
          simp only [execOp, resolve, Sem.run_bind, Sem.run_pure, Result.andThen_ok, invoke, builtin]
          rw [show Array.map ea (⟨[s, x]⟩ : Array Operand) = #[ea s, ea x] from by apply Array.ext'; simp]
          simp only [Sem.run_bind, Sem.run_pure] at e1; exact e1
        · cases h2
      · cases hc
    · cases hc
  · -- copy
    rename_i args argTypes
    split at hc
    · rename_i s x t u ha ht
      split at hc
      · rename_i e hu
        simp only [bind, Option.bind_eq_some_iff] at hc
        obtain ⟨i, h1, s', h3, x', h4, h5⟩ := hc
        cases h5
        obtain ⟨args⟩ := args
        obtain ⟨argTypes⟩ := argTypes
        simp only at ha ht
        subst ha; subst ht
        have hg := aCopy_sound (u := u) (ty := type) hr hu h1 h (he _ (by simp [Op.operands, Call.operands]) s' h3) (he _ (by simp [Op.operands, Call.operands]) x' h4)
        obtain ⟨r, w', ρ', e1, e2, e3, e4⟩ := goes_value (v := v) hg (fun ρ' r q => q.2)
        refine ⟨r, w', ρ', ?_, e2, e3, e4⟩
        simp only [execOp, resolve, Sem.run_bind, Sem.run_pure, Result.andThen_ok, invoke, builtin]
        rw [show Array.map ea (⟨[s, x]⟩ : Array Operand) = #[ea s, ea x] from by apply Array.ext'; simp]
        simp only [Sem.run_bind, Sem.run_pure] at e1; exact e1
      · cases hc
    · cases hc
  · -- clear
    rename_i args argTypes
    split at hc
    · rename_i x t ha ht
      split at hc
      · rename_i e hu
        simp only [bind, Option.bind_eq_some_iff] at hc
        obtain ⟨⟨i, zs⟩, h1, x', h3, h4⟩ := hc
        obtain ⟨hi, z, hz, hzs, hsz⟩ := zeroOf_sound h1 ρ
        cases h4
        obtain ⟨e1, rfl⟩ := unitW_some h
        obtain ⟨args⟩ := args
        obtain ⟨argTypes⟩ := argTypes
        simp only at ha ht
        subst ha; subst ht
        have hg := aClearS_sound (ty := type) hr hu hi hz hzs e1 (he _ (by simp [Op.operands, Call.operands]) x' h3)
        obtain ⟨r, w', ρ', e1, e2, e3, e4⟩ := goes_value (v := .undef) hg (fun ρ' r q => by rw [q.2]; exact ⟨[], rfl, rfl⟩)
        refine ⟨r, w', ρ', ?_, e2, e3, e4⟩
        simp only [execOp, resolve, Sem.run_bind, Sem.run_pure, Result.andThen_ok, invoke, builtin]
        rw [show Array.map ea (⟨[x]⟩ : Array Operand) = #[ea x] from by apply Array.ext'; simp]
        simp only [Sem.run_bind, Sem.run_pure] at e1; exact e1
      · rename_i kt et hu
        simp only [bind, Option.bind_eq_some_iff] at hc
        obtain ⟨x', h3, h4⟩ := hc
        cases h4
        obtain ⟨e1, rfl⟩ := unitW_some h
        obtain ⟨args⟩ := args
        obtain ⟨argTypes⟩ := argTypes
        simp only at ha ht
        subst ha; subst ht
        have hg := aClearM_sound (ty := type) hr hu e1 (he _ (by simp [Op.operands, Call.operands]) x' h3)
        obtain ⟨r, w', ρ', e1, e2, e3, e4⟩ := goes_value (v := .undef) hg (fun ρ' r q => by rw [q.2]; exact ⟨[], rfl, rfl⟩)
        refine ⟨r, w', ρ', ?_, e2, e3, e4⟩
        simp only [execOp, resolve, Sem.run_bind, Sem.run_pure, Result.andThen_ok, invoke, builtin]
        rw [show Array.map ea (⟨[x]⟩ : Array Operand) = #[ea x] from by apply Array.ext'; simp]
        simp only [Sem.run_bind, Sem.run_pure] at e1; exact e1
      · cases hc
    · cases hc
  · -- delete
    rename_i args argTypes
    split at hc
    · rename_i m kk t u ha ht
      split at hc
      · rename_i kt et hu
        simp only [bind, Option.bind_eq_some_iff] at hc
        obtain ⟨ke, h1, m', h3, k', h4, h5⟩ := hc
        cases h5
        obtain ⟨e1, rfl⟩ := unitW_some h
        obtain ⟨args⟩ := args
        obtain ⟨argTypes⟩ := argTypes
        simp only at ha ht
        subst ha; subst ht
        have hg := aDelete_sound (ty := type) hr hu h1 (by decide) u e1 (he _ (by simp [Op.operands, Call.operands]) m' h3) (he _ (by simp [Op.operands, Call.operands]) k' h4)
        obtain ⟨r, w', ρ', e1, e2, e3, e4⟩ := goes_value (v := .undef) hg (fun ρ' r q => by rw [q.2]; exact ⟨[], rfl, rfl⟩)
        refine ⟨r, w', ρ', ?_, e2, e3, e4⟩
        simp only [execOp, resolve, Sem.run_bind, Sem.run_pure, Result.andThen_ok, invoke, builtin]
        rw [show Array.map ea (⟨[m, kk]⟩ : Array Operand) = #[ea m, ea kk] from by apply Array.ext'; simp]
        simp only [Sem.run_bind, Sem.run_pure] at e1; exact e1
      · cases hc
    · cases hc
  · -- convert
    split at hc
    · rename_i e hu hd
      split at hc
      · rename_i he'
        simp only [bind, Option.bind_eq_some_iff] at hc
        obtain ⟨x, h1, h2⟩ := hc
        cases h2
        exact goes_value (aS2b_sound hr hu hd he' h (he _ (by simp [Op.operands]) x h1)) (fun ρ' r q => q)
      · cases hc
    · cases hc
  · cases hc

/-- A function that may be called. -/
def Callable (P : Program) (f : Nat) : Prop := ∃ fn, P.funcs[f]? = some fn ∧ fn.body.isSome = true ∧ (fn.name == "runtime.NumGoroutine") = false

theorem run_callFunc {f : Nat} {args : Array Value} (h : Callable P f) : (callFunc f args).run P w = .ok (.enter f args) w := by
  obtain ⟨fn, h1, h2, h3⟩ := h
  unfold callFunc
  simp only [Sem.run_bind, run_program, Result.andThen_ok, h1]
  have h2' : fn.body.isNone = false := by cases hb : fn.body with
    | none => rw [hb] at h2; cases h2
    | some _ => rfl
  simp [h3, h2']

theorem metK_sound {t f : Nat} {name : String} {v : Value} (h : metK P t name = some f) (n : Nat) : (method (n + 1) t v name).run P w = .ok (f, v) w := by
  unfold metK at h
  split at h
  · rename_i i e hi hu
    split at h
    · rename_i m hm
      split at h
      · rename_i hp
        split at h
        · rename_i f' hf
          cases h
          have hti : (typeInfo t).run P w = .ok i w := by simp [typeInfo, program, Sem.run, hi]
          have hpath : m.path.toList = [] := by simpa using hp
          unfold method
          rw [run_bind_ok hti]
          simp only [hm]
          rw [hpath]
          simp only [follow, Sem.run_bind, Sem.run_pure, Result.andThen_ok, hf, receiverAt, run_underlying' w hu, Place.get]
        · cases h
      · cases h
    · cases h
  · cases h

theorem cl_sound {o : Oper} {k : KC} {f : Nat} {args : List AV} (hfun : ∀ f, ea (.func f) = .func (.func f) #[] #[]) (he : ∀ x ∈ o.op.operands, EvR ρ ev ea G x) (hc : compC G o.op = some k) (h : clK P k ev = some (f, args)) (hf : Callable P f) :
    ∃ args', (execOp ea o).run P w = .ok (.enter f (List.toArray args')) w ∧ VRs ρ args args' := by
  obtain ⟨dst, op, type, pos, after, guard⟩ := o
  simp only at hc
  have hmap : ∀ (l : Array Operand), Array.map ea l = (l.toList.map ea).toArray := fun l => by apply Array.ext'; simp
  have hval : ∀ {x : Operand} {y : Opnd} {args0 : Array Operand} {m : List Opnd} {tys : Array TypeId}, EvR ρ ev ea G x → (∀ z ∈ args0.toList, EvR ρ ev ea G z) → opnd G x = some y → allM (opnd G) args0.toList = some m → clK P (.val y m) ev = some (f, args) →
      ∃ args', (execOp ea ⟨dst, .call { callee := .value x, args := args0, argTypes := tys }, type, pos, after, guard⟩).run P w = .ok (.enter f (List.toArray args')) w ∧ VRs ρ args args' := by
    intro x y args0 m tys hx0 hz0 h1 h2 h3
    simp only [clK] at h3
    have r1 := hx0 y h1
    revert h3 r1
    generalize ev y = yv
    intro h3 r1
    cases yv <;> simp only at h3 <;> (try cases h3)
    rename_i a b
    obtain ⟨a', b', e1, e2, e3⟩ := r1
    refine ⟨a' ++ (args0.toList.map ea ++ b'), ?_, VRs.append e2 (VRs.append (evs_sound hz0 h2) e3)⟩
    simp only [execOp, resolve, e1, Deferred.ofValue, Sem.run_bind, Sem.run_pure, Result.andThen_ok, invoke, run_callFunc hf]
    congr 2
    rw [hmap]
    simp
  unfold compC at hc
  split at hc
  · -- a function by name
    rename_i f0 args0 tys
    simp only [bind, Option.bind_eq_some_iff] at hc
    obtain ⟨m, h1, h2⟩ := hc
    cases h2
    simp only [clK] at h
    cases h
    refine ⟨args0.toList.map ea, ?_, evs_sound (fun z hz => he z (by simp only [Op.operands, Call.operands]; exact Array.mem_append.2 (.inr (Array.mem_toList_iff.1 hz)))) h1⟩
    simp only [execOp, resolve, hfun, Deferred.ofValue, Sem.run_bind, Sem.run_pure, Result.andThen_ok, invoke, run_callFunc hf]
    rw [hmap]
    simp
  · rename_i x args0 tys hne
    simp only [bind, Option.bind_eq_some_iff] at hc
    obtain ⟨y, h1, m, h2, h3⟩ := hc
    cases h3
    exact hval (he x (by simp [Op.operands, Call.operands])) (fun z hz => he z (by simp only [Op.operands, Call.operands]; exact Array.mem_append.2 (.inr (Array.mem_toList_iff.1 hz)))) h1 h2 h
  · rename_i x name args0 tys
    simp only [bind, Option.bind_eq_some_iff] at hc
    obtain ⟨y, h1, m, h2, h3⟩ := hc
    cases h3
    simp only [clK] at h
    have r1 := he x (by simp [Op.operands, Call.operands]) y h1
    revert h r1
    generalize ev y = yv
    intro h r1
    cases yv <;> simp only at h <;> (try cases h)
    rename_i t v
    obtain ⟨v', e1, e2⟩ := r1
    cases hm : metK P t name with
    | none => rw [hm] at h; cases h
    | some f' =>
      rw [hm] at h; cases h
      refine ⟨v' :: args0.toList.map ea, ?_, ⟨_, _, rfl, e2, evs_sound (fun z hz => he z (by simp only [Op.operands, Call.operands]; exact Array.mem_append.2 (.inr (Array.mem_toList_iff.1 hz)))) h2⟩⟩
      have hmet : (method (P.types.size + Made.depth) t v' name).run P w = .ok (f, v') w := metK_sound hm _
      simp only [execOp, resolve, Sem.run_bind, Sem.run_pure, Result.andThen_ok, invoke, e1]
      rw [hmap]
      have hx : (#[Value.iface t v'] ++ (args0.toList.map ea).toArray)[0]? = some (.iface t v') := by simp
      simp only [hx, callMethod, Sem.run_bind, run_program, Result.andThen_ok, hmet]
      rw [run_callFunc hf]
      congr 2
      apply Array.ext'
      simp [List.take_of_length_le]
  · cases hc

end
end
end Go.Ab
