/- Operations that make blocks; stores; append. -/
import Derived.Test.YtooindilclphjaaGreatDoorAbG
namespace Go.Ab
noncomputable section

inductive Mk where
  | ptr
  | sl (len cap : Nat)
  | map
def Mk.val : Mk → Nat → AV
  | .ptr, b => .ptr b 0
  | .sl n c, b => .sl b 0 n (some c)
  | .map, b => .map b

/-- What a new block's operation comes to. -/
def Makes (P : Program) (base : Nat) (ρ : Ren) (w : World) (s : Sem Value) (o : AObj) (m : Mk) : Prop :=
  ∃ obj v', s.run P w = .ok v' { w with heap := w.heap.push obj } ∧
    ∀ b, ρ b = none → ∃ L, L.blk = w.heap.size ∧ OR base (ρ.upd b L) L o { w with heap := w.heap.push obj } ∧ VR (ρ.upd b L) (m.val b) v'

section
variable {P : Program} {base : Nat} {ρ : Ren} {H : AHeap} {w : World}

theorem OR.cells_new {b esz : Nat} {el : TypeId} {cs : List AV} {cs' : Array Value} {t : Tr AV} (hlow : base ≤ w.heap.size) (hb : ρ b = none) (hc : VRs ρ cs cs'.toList) (ht : t.Full cs.length) (hg : ∀ i, t.get? i = cs[i]?) :
    ∃ L : Loc, L.blk = w.heap.size ∧ L.off = 0 ∧ L.top = cs'.size ∧ L.esz = esz ∧ OR base (ρ.upd b L) L (.cells false esz cs.length t) { w with heap := w.heap.push (.cells cs' el) } := by
  have hl := hc.length
  simp only [Array.length_toList] at hl
  refine ⟨⟨w.heap.size, 0, cs'.size, esz⟩, rfl, rfl, rfl, rfl, ⟨rfl, fun _ => rfl⟩, ht, by show 0 + cs.length ≤ cs'.size; omega, fun _ => hlow, cs', el, (0, 0), by simp, fun _ => .inl rfl, rfl, fun i v hv => ?_⟩
  rw [hg] at hv
  obtain ⟨v', e1, e2⟩ := VRs.get hc hv
  exact ⟨v', by simpa using e1, e2.mono (Ren.sub_upd _ hb)⟩

theorem run_newRow (el : TypeId) (cs : Array Value) : (newRow el cs).run P w = .ok ⟨w.heap.size, 0, none⟩ { w with heap := w.heap.push (.cells cs el) } := by
  simp [newRow, newObj, Sem.run]

theorem makes_ptr {s : Sem Value} {el : TypeId} {cs : List AV} {cs' : Array Value} (hlow : base ≤ w.heap.size) (hc : VRs ρ cs cs'.toList)
    (hs : s.run P w = .ok (.pointer (some ⟨w.heap.size, 0, none⟩)) { w with heap := w.heap.push (.cells cs' el) }) : Makes P base ρ w s (.cells false 0 cs.length (Tr.ofList cs)) .ptr := by
  refine ⟨_, _, hs, fun b hb => ?_⟩
  obtain ⟨L, h1, h2, h3, h4, h5⟩ := OR.cells_new (esz := 0) (el := el) hlow hb hc (Tr.full_ofList cs) (Tr.get?_ofList cs)
  exact ⟨L, h1, h5, L, Ren.upd_same _ _ _, by rw [h1, h2]⟩

theorem run_zeroValue {t : TypeId} {i : TypeInfo} {z : Value} (hi : P.info? t = some i) (hz : i.zero = some z) : (zeroValue t).run P w = .ok z w := by
  simp [zeroValue, typeInfo, program, Sem.run, hi, hz]

theorem aNew_sound {t : TypeId} {i : TypeInfo} {z : Value} {cs : List AV} (hlow : base ≤ w.heap.size) (hi : P.info? t = some i) (hz : i.zero = some z) (hc : VRs ρ cs z.cells.toList) :
    Makes P base ρ w (Instr.alloc t true (.tuple #[])) (.cells false 0 cs.length (Tr.ofList cs)) .ptr := by
  refine makes_ptr (el := t) hlow hc ?_
  unfold Instr.alloc
  rw [run_bind_ok (run_zeroValue hi hz)]
  simp only [newVar]
  rw [run_bind_ok (run_newRow _ _)]; rfl

theorem aNewB_sound {t : TypeId} {i : TypeInfo} {z : Value} (hlow : base ≤ w.heap.size) (hi : P.info? t = some i) (hz : i.zero = some z) (hc : VRs ρ [.nilp, .nilsl] z.cells.toList) :
    Makes P base ρ w (Instr.alloc t true (.tuple #[])) (.bld t false none) .ptr := by
  obtain ⟨v0, r, e0, h0, v1, r1, e1, h1, e2⟩ := hc
  have h0 : v0 = .pointer none := h0
  have h1 : v1 = .slice none 0 0 := h1
  subst h0; subst h1
  have e2 : r1 = [] := e2
  subst e2; subst e1
  have hcs : z.cells = #[.pointer none, .slice none 0 0] := by rw [← Array.toList_inj, e0]
  refine ⟨.cells z.cells t, .pointer (some ⟨w.heap.size, 0, none⟩), ?_, fun b hb => ⟨⟨w.heap.size, 0, 2, 0⟩, rfl, ⟨rfl, hlow, .slice none 0 0, ?_, rfl⟩, ⟨w.heap.size, 0, 2, 0⟩, Ren.upd_same _ _ _, rfl⟩⟩
  · unfold Instr.alloc
    rw [run_bind_ok (run_zeroValue hi hz)]
    simp only [newVar]
    rw [run_bind_ok (run_newRow _ _)]; rfl
  · rw [hcs]; simp

theorem aBox_sound {t : TypeId} {x : AV} {x' : Value} (hlow : base ≤ w.heap.size) (hx : VR ρ x x') : Makes P base ρ w (Instr.box t x') (.cells false 0 x.cells.length (Tr.ofList x.cells)) .ptr := by
  refine makes_ptr (el := t) hlow hx.cells ?_
  unfold Instr.box
  simp only [newVar]
  rw [run_bind_ok (run_newRow _ _)]; rfl

theorem aMap_sound {t : TypeId} {r : Option Value} (hlow : base ≤ w.heap.size) (hr : r = none) : Makes P base ρ w (Instr.makeMap t r) (.map [] 0) .map := by
  subst hr
  refine ⟨.map #[] 0, .map (some w.heap.size), by simp [Instr.makeMap, newObj, Sem.run], fun b hb => ⟨⟨w.heap.size, 0, 0, 0⟩, rfl, ⟨rfl, hlow, [], by simp, rfl⟩, ⟨w.heap.size, 0, 0, 0⟩, Ren.upd_same _ _ _, rfl⟩⟩

theorem VRs_flatten {zs : List AV} {z : List Value} (h : VRs ρ zs z) : ∀ n, VRs ρ (List.replicate n zs).flatten (List.replicate n z).flatten
  | 0 => rfl
  | n + 1 => by
    rw [List.replicate_succ, List.replicate_succ, List.flatten_cons, List.flatten_cons]
    exact VRs.append h (VRs_flatten h n)

theorem flatten_get {α : Type} (z : List α) : ∀ (n i : Nat), i < n * z.length → (List.replicate n z).flatten[i]? = z[i % z.length]? := by
  intro n
  induction n with
  | zero => intro i h; omega
  | succ n ih =>
    intro i h
    rw [List.replicate_succ, List.flatten_cons]
    by_cases c : i < z.length
    · rw [List.getElem?_append_left c, Nat.mod_eq_of_lt c]
    · rw [List.getElem?_append_right (by omega), ih _ (by rw [Nat.add_mul] at h; omega)]
      congr 1
      have : i = (i - z.length) + z.length := by omega
      rw [this, Nat.add_mod_right]; congr 1; omega

theorem zeros_toList (z : Array Value) (n : Nat) : ((Array.range (n * z.size)).map (z[· % z.size]!)).toList = (List.replicate n z.toList).flatten := by
  apply List.ext_getElem?
  intro i
  rw [Array.getElem?_toList, Array.getElem?_map]
  by_cases c : i < n * z.size
  · rw [flatten_get z.toList n i (by simpa using c)]
    have hpos : 0 < z.size := by
      rcases Nat.eq_zero_or_pos z.size with e | e
      · rw [e] at c; omega
      · exact e
    have hm : i % z.size < z.size := Nat.mod_lt _ hpos
    simp [c, Array.getElem?_eq_getElem hm]
    exact getElem!_pos z (i % z.size) hm
  · rw [Array.getElem?_eq_none (by simp; omega), List.getElem?_eq_none (by simp [List.length_flatten]; omega)]
    rfl

def zerosA (n : Nat) (zs : List AV) : Tr AV := match zs with
  | [z] => Tr.rep n z
  | _ => Tr.ofList (List.replicate n zs).flatten

theorem zerosA_get (n : Nat) (zs : List AV) (i : Nat) : (zerosA n zs).get? i = (List.replicate n zs).flatten[i]? := by
  unfold zerosA
  split
  · rename_i z
    rw [Tr.get?_rep]
    by_cases c : i < n
    · rw [if_pos c, flatten_get [z] n i (by simpa using c)]; simp [Nat.mod_one]
    · rw [if_neg c, List.getElem?_eq_none (by simp; omega)]
  · exact Tr.get?_ofList _ _
theorem zerosA_full (n : Nat) (zs : List AV) : (zerosA n zs).Full (n * zs.length) := by
  unfold zerosA
  split
  · simpa using Tr.full_rep _ n
  · have := Tr.full_ofList (List.replicate n zs).flatten
    simpa [List.length_flatten] using this

def aMksl (esz bytes : Nat) (zs : List AV) (l c : AV) : Option (AObj × Mk) :=
  match aNat l, aNat c with
  | some l, some c => cond (Nat.ble l c && (Nat.ble (Nat.mul bytes c) 281474976710656 && Nat.ble c 281474976710656)) (some (.cells false esz (Nat.mul c esz) (zerosA c zs), .sl l c)) none
  | _, _ => none

theorem wrap64_small {n : Nat} (h : n ≤ 281474976710656) : IntKind.i64.wrap (n : Int) = n := by
  refine wrap_in ?_ ?_ <;> simp [IntKind.min, IntKind.max, IntKind.bits, IntKind.signed] <;> omega

theorem aMksl_sound {t e : TypeId} {i : TypeInfo} {z : Value} {zs : List AV} {l c : AV} {l' c' : Value} {o : AObj} {m : Mk} (hlow : base ≤ w.heap.size) (ht : P.underlying t = some (.slice e)) (hi : P.info? e = some i) (hz : i.zero = some z)
    (hzs : VRs ρ zs z.cells.toList) (hsz : z.cells.size = i.size) (h : aMksl i.size i.bytes zs l c = some (o, m)) (hl : VR ρ l l') (hc : VR ρ c c') : Makes P base ρ w (Instr.makeSlice t l' c') o m := by
  unfold aMksl at h
  cases hl1 : aNat l with
  | none => rw [hl1] at h; cases h
  | some n =>
    cases hc1 : aNat c with
    | none => rw [hl1, hc1] at h; cases h
    | some k =>
      rw [hl1, hc1] at h
      dsimp only at h
      cases hq : (Nat.ble n k && (Nat.ble (Nat.mul i.bytes k) 281474976710656 && Nat.ble k 281474976710656)) with
      | false => rw [hq] at h; cases h
      | true =>
        rw [hq] at h; cases h
        simp only [Bool.and_eq_true] at hq
        have c1 := Nat.le_of_ble_eq_true hq.1
        have c2 : i.bytes * k ≤ 281474976710656 := Nat.le_of_ble_eq_true hq.2.1
        have c3 := Nat.le_of_ble_eq_true hq.2.2
        obtain ⟨q1, rfl⟩ := aNat_sound hl1 hl
        obtain ⟨q2, rfl⟩ := aNat_sound hc1 hc
        have hlen : zs.length = i.size := by rw [hzs.length]; simpa using hsz
        have hzl : (zs.length : Nat) = z.cells.size := by rw [hlen, hsz]
        let cs' : Array Value := (Array.range (k * i.size)).map ((if k * i.size = 0 then (#[] : Array Value) else z.cells)[· % (if k * i.size = 0 then (#[] : Array Value) else z.cells).size]!)
        have hcs : cs'.toList = (List.replicate k z.cells.toList).flatten := by
          show ((Array.range (k * i.size)).map _).toList = _
          by_cases h0 : k * i.size = 0
          · rw [h0]
            have : (List.replicate k z.cells.toList).flatten = [] := by
              apply List.eq_nil_of_length_eq_zero
              simp [List.length_flatten, hsz, h0]
            rw [this]; simp
          · rw [if_neg h0, ← hsz]; exact zeros_toList z.cells k
        have hrun : (Instr.makeSlice t (.int q1 (n : Int)) (.int q2 (k : Int))).run P w = .ok (.slice (some ⟨w.heap.size, 0, none⟩) n k) { w with heap := w.heap.push (.cells cs' e) } := by
          unfold Instr.makeSlice
          rw [run_bind_ok (run_underlying' w ht)]
          dsimp only [asInt, asIntOf]
          have hti : (typeInfo e).run P w = .ok i w := by simp [typeInfo, program, Sem.run, hi]
          have g1 : ¬ ((k : Int) < 0) := by omega
          have g2 : ¬ (((i.bytes : Nat) : Int) * (k : Int) > 2 ^ 48) := by
            have : ((i.bytes * k : Nat) : Int) ≤ 281474976710656 := by omega
            simp only [Int.natCast_mul] at this; omega
          have g3 : ¬ ((n : Int) < 0) := by omega
          have g4 : ¬ ((n : Int) > (k : Int)) := by omega
          simp only [Sem.run_bind, Sem.run_pure, Result.andThen_ok, hti, wrap64_small c3, wrap64_small (show n ≤ 281474976710656 by omega), g1, g2, g3, g4, decide_false, Bool.or_false, Bool.false_eq_true, if_false]
          have hroom : (askRoom ((k : Int).toNat * i.bytes)).run P w = .ok () w := by
            unfold askRoom; split <;> simp [mark, Sem.run]
          rw [hroom]
          simp only [Result.andThen_ok, run_sizeOf w hi, Int.toNat_natCast]
          by_cases h0 : k * i.size = 0
          · rw [if_pos h0]
            simp only [Sem.run_bind, Sem.run_pure, Result.andThen_ok, run_newRow]
            simp [cs', h0]
          · rw [if_neg h0]
            simp only [Sem.run_bind, run_zeroValue hi hz, Result.andThen_ok, Sem.run_pure, run_newRow]
            simp [cs', h0]
        refine ⟨_, _, hrun, fun b hb => ?_⟩
        have hflat := VRs_flatten hzs k
        rw [← hcs] at hflat
        have hfl : (List.replicate k zs).flatten.length = k * i.size := by simp [List.length_flatten, hlen]
        obtain ⟨L, h1, h2, h3, h4, h5⟩ := OR.cells_new (esz := i.size) (el := e) hlow hb hflat (t := zerosA k zs) (by have := zerosA_full k zs; rw [hlen] at this; rw [hfl]; exact this) (zerosA_get k zs)
        rw [hfl] at h5
        exact ⟨L, h1, h5, L, k, 0, Ren.upd_same _ _ _, by rw [h1], c1, fun _ => by rw [h2], rfl⟩

/-- A literal slice. -/
def aBsl (esz len : Nat) (zs : List AV) (parts : List (Nat × Nat × AV)) : Option (AObj × Mk) :=
  cond (Nat.ble (Nat.mul len esz) 16777216) (match aFill (List.replicate len zs).flatten parts with
    | some cs => some (.cells false esz (Nat.mul len esz) (Tr.ofList cs), .sl len len)
    | none => none) none

theorem aFill_length : ∀ {parts : List (Nat × Nat × AV)} {cells r : List AV}, aFill cells parts = some r → r.length = cells.length := by
  intro parts
  induction parts with
  | nil => intro cells r h; cases h; rfl
  | cons p parts ih =>
    intro cells r h
    obtain ⟨off, sz, v⟩ := p
    simp only [aFill] at h
    cases hq : (Nat.beq v.cells.length sz && Nat.ble (Nat.add off sz) cells.length) with
    | false => rw [hq] at h; cases h
    | true =>
      rw [hq] at h
      simp only [Bool.and_eq_true] at hq
      have c1 := Nat.eq_of_beq_eq_true hq.1
      have c2 : off + sz ≤ cells.length := Nat.le_of_ble_eq_true hq.2
      rw [ih h]
      simp only [List.length_append, List.length_take, List.length_drop]
      show min off cells.length + (v.cells.length + (cells.length - (off + sz))) = _
      omega

theorem aBsl_sound {t e : TypeId} {i : TypeInfo} {z : Value} {zs : List AV} {len : Nat} {parts : List (Nat × Nat × AV)} {ps : Array (Nat × Value)} {o : AObj} {m : Mk} (hlow : base ≤ w.heap.size)
    (ht : P.underlying t = some (.slice e)) (hi : P.info? e = some i) (hz : i.zero = some z) (hzs : VRs ρ zs z.cells.toList) (hsz : z.cells.size = i.size)
    (hpl : parts.length = ps.toList.length) (hp : ∀ (j : Nat) (off sz : Nat) (v : AV), parts[j]? = some (off, sz, v) → ∃ k v', ps.toList[j]? = some (k, v') ∧ off = k * i.size ∧ sz = i.size ∧ VR ρ v v')
    (h : aBsl i.size len zs parts = some (o, m)) : Makes P base ρ w (Instr.buildSlice t len ps) o m := by
  unfold aBsl at h
  cases hq : Nat.ble (Nat.mul len i.size) 16777216 with
  | false => rw [hq] at h; cases h
  | true =>
    rw [hq] at h
    have c1 : len * i.size ≤ 16777216 := Nat.le_of_ble_eq_true hq
    simp only [cond_true] at h
    cases hf : aFill (List.replicate len zs).flatten parts with
    | none => rw [hf] at h; cases h
    | some cs =>
      rw [hf] at h; cases h
      have hlen : zs.length = i.size := by rw [hzs.length]; simpa using hsz
      have hflat := VRs_flatten hzs len
      let z0 : Array Value := if len * i.size = 0 then #[] else z.cells
      have hcs : ((Array.range (len * i.size)).map (z0[· % z0.size]!)).toList = (List.replicate len z.cells.toList).flatten := by
        by_cases h0 : len * i.size = 0
        · rw [h0]
          have : (List.replicate len z.cells.toList).flatten = [] := by
            apply List.eq_nil_of_length_eq_zero
            simp [List.length_flatten, hsz, h0]
          rw [this]; simp
        · show ((Array.range (len * i.size)).map ((if len * i.size = 0 then (#[] : Array Value) else z.cells)[· % (if len * i.size = 0 then (#[] : Array Value) else z.cells).size]!)).toList = _
          rw [if_neg h0, ← hsz]; exact zeros_toList z.cells len
      rw [← hcs] at hflat
      obtain ⟨cs', f1, f2⟩ := aFill_sound (place := fun j => some (j * i.size, i.size)) hflat hpl (fun j off sz v hj => by
        obtain ⟨k, v', q1, q2, q3, q4⟩ := hp j off sz v hj
        exact ⟨k, v', q1, by rw [q2, q3], q4⟩) hf
      have hcl : cs.length = len * i.size := by rw [aFill_length hf]; simp [List.length_flatten, hlen]
      have hrun : (Instr.buildSlice t len ps).run P w = .ok (.slice (some ⟨w.heap.size, 0, none⟩) len len) { w with heap := w.heap.push (.cells cs' e) } := by
        unfold Instr.buildSlice
        rw [run_bind_ok (run_underlying' w ht)]
        show (sizeOf e >>= _).run P w = _
        rw [run_bind_ok (run_sizeOf w hi)]
        rw [if_neg (by omega)]
        by_cases h0 : len * i.size = 0
        · simp only [h0, if_true]
          have f1' : Instr.fill (fun j => some (j * i.size, i.size)) ((Array.range 0).map fun x => (#[] : Array Value)[x % (#[] : Array Value).size]!) ps.toList = some cs' := by
            have := f1; simp only [z0, h0, if_true] at this; exact this
          simp only [f1', Sem.run_bind, Sem.run_pure, Result.andThen_ok, run_newRow]
        · simp only [h0, if_false]
          have f1' : Instr.fill (fun j => some (j * i.size, i.size)) ((Array.range (len * i.size)).map fun x => z.cells[x % z.cells.size]!) ps.toList = some cs' := by
            have := f1; simp only [z0, h0, if_false] at this; exact this
          simp only [Sem.run_bind, run_zeroValue hi hz, Result.andThen_ok, Sem.run_pure, f1', run_newRow]
      refine ⟨_, _, hrun, fun b hb => ?_⟩
      obtain ⟨L, h1, h2, h3, h4, h5⟩ := OR.cells_new (esz := i.size) (el := e) hlow hb f2 (Tr.full_ofList cs) (Tr.get?_ofList cs)
      rw [hcl] at h5
      exact ⟨L, h1, h5, L, len, 0, Ren.upd_same _ _ _, by rw [h1], Nat.le_refl _, fun _ => by rw [h2], rfl⟩

end
end
end Go.Ab
