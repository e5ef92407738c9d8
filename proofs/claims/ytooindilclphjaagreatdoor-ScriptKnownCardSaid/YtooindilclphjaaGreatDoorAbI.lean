/- Operations that write: store, append, copy, clear. -/
import Derived.Test.YtooindilclphjaaGreatDoorAbH
namespace Go.Ab
noncomputable section

def isScal : AV → Bool
  | .agg _ | .tup _ => false
  | _ => true
def allScal : List AV → Bool
  | [] => true
  | x :: r => cond (isScal x) (allScal r) false

theorem VR.scal {ρ : Ren} {x : AV} {x' : Value} (h : VR ρ x x') (hs : isScal x = true) : scalar x' = true := by
  cases x <;> simp [isScal] at hs
  case bool => obtain rfl := h; rfl
  case int => obtain rfl := h; rfl
  case str => obtain rfl := h; rfl
  case nilp => obtain rfl := h; rfl
  case ptr => obtain ⟨L, _, rfl⟩ := h; rfl
  case nilsl => obtain rfl := h; rfl
  case sl => obtain ⟨L, c, o, _, rfl, _⟩ := h; rfl
  case nilmap => obtain rfl := h; rfl
  case map => obtain ⟨L, _, rfl⟩ := h; rfl
  case nilfn => obtain rfl := h; rfl
  case fn => obtain ⟨a, b, rfl, _⟩ := h; rfl
  case nilif => obtain rfl := h; rfl
  case iface => obtain ⟨a, rfl, _⟩ := h; rfl

theorem VRs.scal {ρ : Ren} : ∀ {l : List AV} {v : List Value}, VRs ρ l v → allScal l = true → ∀ u ∈ v, scalar u = true
  | [], _, rfl, _ => fun u hu => by cases hu
  | x :: r, _, ⟨y, s, e, h1, h2⟩, hs => by
    subst e
    simp only [allScal] at hs
    cases hx : isScal x with
    | false => rw [hx] at hs; cases hs
    | true =>
      rw [hx] at hs
      intro u hu
      cases hu with
      | head => exact h1.scal hx
      | tail _ hm => exact VRs.scal h2 hs u hm

def aStore (sz : Nat) (H : AHeap) (a x : AV) : Option AHeap := match a with
  | .ptr b o => match H.get b with
    | some (.cells false esz n t) =>
      cond (Nat.beq x.cells.length sz && allScal x.cells) (match t.wrN o x.cells with
        | some t' => some (H.put b (.cells false esz n t'))
        | none => none) none
    | _ => none
  | _ => none

/-- A loud operation's result. -/
def Goes (P : Program) (base : Nat) (ρ : Ren) (H : AHeap) (w : World) {α : Type} (s : Sem α) (H' : AHeap) (R : Ren → α → Prop) : Prop :=
  ∃ r w' ρ', s.run P w = .ok r w' ∧ R ρ' r ∧ HR base ρ' H' w' ∧ Ext ρ H w ρ' H' w'

section
variable {P : Program} {base : Nat} {ρ : Ren} {H : AHeap} {w : World}

theorem wrN_full {t t' : Tr AV} {n o : Nat} {l : List AV} (h : t.wrN o l = some t') (hf : t.Full n) : t'.Full n ∧ (0 < l.length → o + l.length ≤ n) := by
  obtain ⟨h1, h2⟩ := Tr.wrN_spec h
  have hb : ∀ j, j < l.length → o + j < n := fun j hj => (hf _).1 (h1 j hj)
  refine ⟨fun i => ?_, fun hp => ?_⟩
  · rw [h2]
    by_cases c : o ≤ i ∧ i < o + l.length
    · have := hb (i - o) (by omega)
      rw [if_pos c, List.getElem?_eq_getElem (by omega)]
      simp; omega
    · rw [if_neg c]; exact hf i
  · have := hb (l.length - 1) (by omega); omega

/-- Cells of an owned block are written. -/
theorem write_sound {b o esz n : Nat} {t t' : Tr AV} {l : List AV} {l' : List Value} {L : Loc} (hr : HR base ρ H w) (hb : ρ b = some L) (hg : H.get b = some (.cells false esz n t)) (hl : VRs ρ l l')
    (hs : allScal l = true) (hw : t.wrN o l = some t') : Goes P base ρ H w (storeCells ⟨L.blk, L.off + o, none⟩ l') (H.put b (.cells false esz n t')) (fun ρ' _ => ρ' = ρ) := by
  obtain ⟨h1, h2, h3, h4, c, el, fr, h5, h6, h7, h8⟩ := hr.obj b L _ hb hg
  obtain ⟨f1, f2⟩ := wrN_full hw h2
  have hlen := hl.length
  have hfit : L.off + o + 0 + l'.length ≤ c.size ∨ l' = [] := by
    cases l' with
    | nil => exact .inr rfl
    | cons x r => simp only [List.length_cons] at hlen ⊢; have := f2 (by omega); left; omega
  rcases hfit with hfit | rfl
  · have hrun := run_storeCells (P := P) l' h5 (h6 rfl) 0 (hl.scal hs) hfit
    refine ⟨(), _, ρ, hrun, rfl, ?_⟩
    refine hr.turn hb hg rfl ⟨h1, f1, h3, h4, _, el, fr, by rw [setBlk_get (hr.dom b L hb).2, if_pos rfl], fun _ => by rw [wr_size]; exact h6 rfl, by rw [wr_size]; exact h7, fun i v hv => ?_⟩
    rw [(Tr.wrN_spec hw).2] at hv
    rw [wr_get _ _ _ _ (by omega), Nat.add_zero]
    by_cases q : o ≤ i ∧ i < o + l.length
    · rw [if_pos q] at hv
      rw [if_pos (by omega), show L.off + i - (L.off + o) = i - o by omega]
      exact VRs.get hl hv
    · rw [if_neg q] at hv
      rw [if_neg (by omega)]
      exact h8 i v hv
  · have hl0 : l = [] := List.eq_nil_of_length_eq_zero (by simpa using hlen)
    subst hl0
    cases hw
    have hself : H.put b (.cells false esz n t) = H ∨ True := .inr trivial
    have hturn := hr.turn (obj := .cells c el fr) hb hg rfl (o' := .cells false esz n t) (by rw [setBlk_self h5]; exact ⟨h1, h2, h3, h4, c, el, fr, h5, h6, h7, h8⟩)
    rw [setBlk_self h5] at hturn
    exact ⟨(), w, ρ, rfl, rfl, hturn.1, hturn.2⟩

theorem aStore_sound {t : TypeId} {i : TypeInfo} {a x : AV} {a' x' : Value} {H' : AHeap} (hr : HR base ρ H w) (hi : P.info? t = some i) (h : aStore i.size H a x = some H') (ha : VR ρ a a') (hx : VR ρ x x') :
    Goes P base ρ H w (Instr.storeAt t a' x') H' (fun ρ' _ => ρ' = ρ) := by
  cases a <;> simp only [aStore] at h <;> (try cases h)
  rename_i b o
  obtain ⟨L, hb, rfl⟩ := ha
  cases hg : H.get b with
  | none => rw [hg] at h; cases h
  | some ob =>
    rw [hg] at h
    cases ob <;> (try simp only at h) <;> (try (cases h; done))
    rename_i ro esz n t0
    cases ro with
    | true => cases h
    | false =>
      cases hq : (Nat.beq x.cells.length i.size && allScal x.cells) with
      | false => rw [hq] at h; cases h
      | true =>
        rw [hq] at h
        simp only [Bool.and_eq_true, cond_true] at hq h
        cases hw : t0.wrN o x.cells with
        | none => rw [hw] at h; cases h
        | some t' =>
          rw [hw] at h; cases h
          have hc := hx.cells
          obtain ⟨r, w', ρ', e1, e2, e3, e4⟩ := write_sound (P := P) hr hb hg hc hq.2 hw
          refine ⟨r, w', ρ', ?_, e2, e3, e4⟩
          have hsz : x'.cells.size = i.size := by
            have := hc.length
            rw [Nat.eq_of_beq_eq_true hq.1] at this
            simpa using this.symm
          unfold Instr.storeAt
          show (storeVar t ⟨L.blk, L.off + o, none⟩ x').run P w = _
          unfold storeVar
          rw [run_bind_ok (run_sizeOf w hi), if_neg (by simp [hsz])]
          exact e1

/-- A block that nobody asks for any more. -/
theorem HR.kill {b : Nat} {L : Loc} {o : AObj} (h : HR base ρ H w) (hb : ρ b = some L) (ho : H.get b = some o) : HR base ρ (H.put b .dead) w ∧ Ext ρ H w ρ (H.put b .dead) w := by
  refine ⟨⟨h.full.set _ _, h.low, h.dom, fun i K x e hx => ?_, fun i j K K' x x' e e' hx hx' h1 h2 hne => ?_⟩, ⟨Nat.le_refl _, fun _ _ => rfl, fun i hi e => ?_, Nat.le_refl _, fun _ _ _ => rfl, fun k => ?_, rfl, rfl, rfl⟩⟩
  · rw [AHeap.get_put ho] at hx
    by_cases c : i = b
    · rw [if_pos c] at hx; cases hx; trivial
    · rw [if_neg c] at hx; exact h.obj i K x e hx
  · rw [AHeap.get_put ho] at hx hx'
    by_cases c : i = b
    · rw [if_pos c] at hx; cases hx; simp [AObj.own] at h1
    · by_cases c' : j = b
      · rw [if_pos c'] at hx'; cases hx'; simp [AObj.live] at h2
      · rw [if_neg c] at hx; rw [if_neg c'] at hx'; exact h.apart i j K K' x x' e e' hx hx' h1 h2 hne
  · rw [AHeap.get_put ho, if_neg (fun c => by subst c; rw [hb] at e; cases e)]
  · rintro ⟨i, K, x, e, hx, h1, h2⟩
    rw [AHeap.get_put ho] at hx
    by_cases c : i = b
    · rw [if_pos c] at hx; cases hx; simp [AObj.own] at h1
    · rw [if_neg c] at hx; exact .inr ⟨i, K, x, e, hx, h1, h2⟩

/-- The cells of what is appended or copied: n elements. -/
def aSrc (esz : Nat) (H : AHeap) (x : AV) : Option (Nat × (Nat → Option (List AV))) := match x with
  | .nilsl => some (0, fun _ => some [])
  | .sl b o n _ => some (n, fun k => match k with
    | 0 => some []
    | _ => match H.get b with
      | some (.cells _ _ _ t) => t.rdN o (Nat.mul k esz)
      | _ => none)
  | .str l => some (l.length, fun k => cond (Nat.beq esz 1) (some ((l.take k).map fun c => AV.int .u8 (.ofNat c.toNat))) none)
  | _ => none

theorem run_firstCells {x : AV} {x' : Value} {esz n k : Nat} {f : Nat → Option (List AV)} {l : List AV} (hr : HR base ρ H w) (hx : VR ρ x x') (hs : aSrc esz H x = some (n, f)) (hf : f k = some l) (hk : k ≤ n) :
    (Builtin.lenOf x').run P w = .ok n w ∧ ∃ l', VRs ρ l l' ∧ l.length = k * esz ∧ ∀ w', w'.heap = w.heap → (Builtin.firstCells esz k x').run P w' = .ok l'.toArray w' := by
  cases x <;> simp only [aSrc] at hs <;> (try cases hs)
  case nilsl =>
    obtain rfl := hx; cases hf
    have : k = 0 := by omega
    subst this
    exact ⟨rfl, [], rfl, by simp, fun w' _ => rfl⟩
  case sl =>
    rename_i b o cap
    obtain ⟨L, c, o', hb, rfl, hlc, ho, _⟩ := hx
    refine ⟨rfl, ?_⟩
    cases k with
    | zero =>
      cases hf
      exact ⟨[], rfl, by simp, fun w' _ => by simp [Builtin.firstCells, loadCells, loadCellsFrom]⟩
    | succ k =>
      dsimp only at hf
      cases hg : H.get b with
      | none => rw [hg] at hf; cases hf
      | some ob =>
        rw [hg] at hf
        cases ob <;> simp only at hf <;> (try cases hf)
        rename_i ro e2 m t
        obtain ⟨c0, el, fr, l', q1, q2, q3, q4⟩ := cells_read (hr.obj b L _ hb hg) hf
        have ho' := ho (by omega)
        subst ho'
        refine ⟨l', q2, by rw [q2.length, q3]; rfl, fun w' hw => ?_⟩
        show (loadCells ⟨L.blk, L.off + o, none⟩ ((k + 1) * esz)).run P w' = _
        have q3' : l'.length = (k + 1) * esz := q3
        rw [← q3']
        exact run_loadCells (by rw [hw]; exact q1) l' q4
  case str s =>
    obtain rfl := hx
    refine ⟨rfl, ?_⟩
    dsimp only at hf
    cases he : Nat.beq esz 1 with
    | false => rw [he] at hf; cases hf
    | true =>
      rw [he] at hf; cases hf
      obtain rfl := Nat.eq_of_beq_eq_true he
      refine ⟨(s.take k).map fun c => Value.int .u8 c.toNat, ?_, by simp; omega, fun w' _ => ?_⟩
      · refine VRs.of_get (by simp) fun i x hx => ?_
        rw [List.getElem?_map] at hx ⊢
        cases hc : (s.take k)[i]? with
        | none => rw [hc] at hx; cases hx
        | some c => rw [hc] at hx; cases hx; exact ⟨_, rfl, rfl⟩
      · show (pure (((⟨s.toArray⟩ : ByteArray).extract 0 k).data.map fun b => Value.int .u8 b.toNat) : Sem (Array Value)).run P w' = _
        rw [run_pure]
        congr 1
        apply Array.ext'
        rw [Array.toList_map, Lib.extract_data]
        simp

/-- What may be appended: a slice or a string. -/
def srcOk (P : Program) (u : TypeId) : Bool := match P.underlying u with
  | some (.slice _) | some .string => true
  | _ => false

theorem srcOk_und {u : TypeId} (h : srcOk P u = true) : ∃ D, P.underlying u = some D ∧ ((∃ e, D = .slice e) ∨ D = .string) := by
  unfold srcOk at h
  cases hu : P.underlying u with
  | none => rw [hu] at h; cases h
  | some D => rw [hu] at h; cases D <;> first | exact ⟨_, rfl, .inl ⟨_, rfl⟩⟩ | exact ⟨_, rfl, .inr rfl⟩ | cases h

/-- append, where there is room. -/
theorem run_append_in {t u e ty : TypeId} {i : TypeInfo} {k o len c n : Nat} {x' : Value} {news : List Value} {w' : World} (ht : P.underlying t = some (.slice e)) (hi : P.info? e = some i) (hu : srcOk P u = true)
    (hl : (Builtin.lenOf x').run P w = .ok n w) (hf : (Builtin.firstCells i.size n x').run P w = .ok news.toArray w) (hroom : len + n ≤ c)
    (hst : (storeCells ⟨k, o + len * i.size, none⟩ news).run P w = .ok () w') :
    (Builtin.append_ #[t, u] ty #[.slice (some ⟨k, o, none⟩) len c, x']).run P w = .ok (.slice (some ⟨k, o, none⟩) (len + n) c) w' := by
  obtain ⟨D, hu1, hu2⟩ := srcOk_und hu
  rcases hu2 with ⟨e', rfl⟩ | rfl <;>
    simp [Builtin.append_, run_underlying ht, run_underlying hu1, run_sizeOf w hi, hl, hf, hroom, addr_add, hst]

/-- append to nil of nothing. -/
theorem run_append_nil0 {t u e ty : TypeId} {i : TypeInfo} {x' : Value} (ht : P.underlying t = some (.slice e)) (hi : P.info? e = some i) (hu : srcOk P u = true)
    (hl : (Builtin.lenOf x').run P w = .ok 0 w) (hf : (Builtin.firstCells i.size 0 x').run P w = .ok #[] w) :
    (Builtin.append_ #[t, u] ty #[.slice none 0 0, x']).run P w = .ok (.slice none 0 0) w := by
  obtain ⟨D, hu1, hu2⟩ := srcOk_und hu
  rcases hu2 with ⟨e', rfl⟩ | rfl <;>
    simp [Builtin.append_, run_underlying ht, run_underlying hu1, run_sizeOf w hi, hl, hf]

theorem run_askRoom (n : Nat) : (askRoom n).run P w = .ok () w := by unfold askRoom; split <;> simp [mark, Sem.run]

/-- append, where there is none. -/
theorem run_append_new {t u e ty : TypeId} {i : TypeInfo} {z : Value} {a : Option Addr} {len c n : Nat} {x' : Value} {olds news : List Value} (ht : P.underlying t = some (.slice e)) (hi : P.info? e = some i) (hz : i.zero = some z) (hu : srcOk P u = true)
    (hl : (Builtin.lenOf x').run P w = .ok n w) (hf : ∀ w', w'.heap = w.heap → (Builtin.firstCells i.size n x').run P w' = .ok news.toArray w')
    (ho : ∀ w', w'.heap = w.heap → (Builtin.firstCells i.size len (.slice a len c)).run P w' = .ok olds.toArray w') (hroom : c < len + n) (h60 : len + n ≤ 1152921504606846976) (h47 : (len + n) * i.bytes ≤ 140737488355328) :
    ∃ (cap : Nat) (w1 : World), len + n ≤ cap ∧ w1.heap = w.heap ∧ w1.os = w.os ∧ w1.tape = w.tape ∧ w1.output = w.output ∧
      (Builtin.append_ #[t, u] ty #[.slice a len c, x']).run P w = .ok (.slice (some ⟨w.heap.size, 0, none⟩) (len + n) cap)
        { w1 with heap := w.heap.push (.cells ((olds ++ news).toArray ++ Builtin.zeroCells z.cells (cap - (len + n))) e) } := by
  obtain ⟨D, hu1, hu2⟩ := srcOk_und hu
  have hnot : ¬ (len + n ≤ c) := by omega
  have h63' : ¬ (9223372036854775807 < ((len : Int) + (n : Int))) := by omega
  have h48' : ¬ (281474976710656 < Builtin.nextslicecap (len + n) c * i.bytes) := by have := growslice_fits hroom h47; omega
  have hf' := hf w.drew rfl
  have ho' := ho w.drew rfl
  refine ⟨grownCap w (len + n) c e, w.drew, grownCap_ge _ _ _ _, rfl, rfl, rfl, rfl, ?_⟩
  have fin : ∀ Z : Array Value, w.drew.alloc (.cells (olds.toArray ++ (news.toArray ++ Z)) e) = w.drew.alloc (.cells ((olds ++ news).toArray ++ Z) e) := fun Z => by
    refine congrArg (fun c => w.drew.alloc (.cells c e)) ?_
    apply Array.ext'
    simp
  rcases hu2 with ⟨e', rfl⟩ | rfl
  · simp [Builtin.append_, run_underlying ht, run_underlying hu1, sizeOf, typeInfo, zeroValue, hi, hz, hl, hnot, h63', h48', Question.forced, hf', ho', newRow, grownCap]
    exact fin _
  · simp [Builtin.append_, run_underlying ht, run_underlying hu1, sizeOf, typeInfo, zeroValue, hi, hz, hl, hnot, h63', h48', Question.forced, hf', ho', newRow, grownCap]
    exact fin _

end
end
end Go.Ab
