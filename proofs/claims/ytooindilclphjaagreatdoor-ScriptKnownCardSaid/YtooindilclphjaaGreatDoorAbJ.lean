/- append, copy, clear; maps. -/
import Derived.Test.YtooindilclphjaaGreatDoorAbI
import Derived.Lib.ConvBytes
namespace Go.Ab
noncomputable section

def okNeed (bytes need : Nat) : Bool := Nat.ble need 1152921504606846976 && Nat.ble (Nat.mul need bytes) 140737488355328

def aAppSl (esz : Nat) (H : AHeap) (b o len : Nat) (cap : Option Nat) (news : List AV) (need : Nat) : Option (AV × AHeap) :=
  match H.get b with
  | some (.cells ro e nb t) =>
    match cap with
    | some c => cond (Nat.ble need c)
        (cond ro none (match t.wrN (Nat.add o (Nat.mul len esz)) news with
          | some t' => some (.sl b o need (some c), H.put b (.cells false e nb t'))
          | none => none))
        (match t.rdN o (Nat.mul len esz) with
          | some olds => some (.sl H.n 0 need none, H.add (.cells false esz (Nat.mul need esz) (Tr.ofList (olds ++ news))))
          | none => none)
    | none => cond (Nat.beq e esz && (Nat.ble 1 esz && !ro))
        (cond (Nat.beq o 0 && Nat.beq nb (Nat.mul len esz))
          (some (.sl H.n 0 need none, (H.put b .dead).add (.cells false esz (Nat.mul need esz) (t.pushAll nb news))))
          (match t.rdN o (Nat.mul len esz) with
            | some olds => some (.sl H.n 0 need none, (H.put b .dead).add (.cells false esz (Nat.mul need esz) (Tr.ofList (olds ++ news))))
            | none => none)) none
  | _ => none

def aApp (esz bytes : Nat) (H : AHeap) (s x : AV) : Option (AV × AHeap) :=
  match aSrc esz H x with
  | none => none
  | some (n, f) =>
    match f n with
    | none => none
    | some news =>
      match n with
      | 0 => (match s with
        | .nilsl => some (s, H)
        | .sl _ _ _ _ => some (s, H)
        | _ => none)
      | n' + 1 =>
        cond (allScal news) (match s with
          | .nilsl => cond (okNeed bytes (n' + 1)) (some (.sl H.n 0 (n' + 1) none, H.add (.cells false esz (Nat.mul (n' + 1) esz) (Tr.ofList news)))) none
          | .sl b o len cap => cond (okNeed bytes (Nat.add len (n' + 1))) (aAppSl esz H b o len cap news (Nat.add len (n' + 1))) none
          | _ => none) none

/-- The bytes of a string, in a block of their own. -/
def byteCell (b : UInt8) : AV := .int .u8 (.ofNat b.toNat)
def aS2b (H : AHeap) (x : AV) : Option (AV × AHeap) := match x with
  | .str l => some (.sl H.n 0 l.length none, H.add (.cells false 1 l.length (Tr.ofList (l.map byteCell))))
  | _ => none

section
variable {P : Program} {base : Nat} {ρ : Ren} {H : AHeap} {w : World}

theorem OR.cells_pre {b esz n : Nat} {el : TypeId} {cs : List AV} {l : List Value} {Z : Array Value} {t : Tr AV} {w1 : World} (hlow : base ≤ w.heap.size) (hb : ρ b = none) (hc : VRs ρ cs l) (hn : n = cs.length) (ht : t.Full cs.length) (hg : ∀ i, t.get? i = cs[i]?)
    (hw : w1.heap = w.heap.push (.cells (l.toArray ++ Z) el)) :
    ∃ L : Loc, L.blk = w.heap.size ∧ L.off = 0 ∧ L.top = l.length + Z.size ∧ L.esz = esz ∧ OR base (ρ.upd b L) L (.cells false esz n t) w1 := by
  subst hn
  have hl := hc.length
  refine ⟨⟨w.heap.size, 0, l.length + Z.size, esz⟩, rfl, rfl, rfl, rfl, ⟨rfl, fun _ => rfl⟩, ht, by show 0 + cs.length ≤ l.length + Z.size; omega, fun _ => hlow, l.toArray ++ Z, el, (0, 0), by rw [hw]; simp, fun _ => .inl rfl, by simp, fun i v hv => ?_⟩
  rw [hg] at hv
  obtain ⟨v', e1, e2⟩ := VRs.get hc hv
  have hi : i < l.length := by
    rcases Nat.lt_or_ge i l.length with c | c
    · exact c
    · rw [List.getElem?_eq_none c] at e1; cases e1
  refine ⟨v', ?_, e2.mono (Ren.sub_upd _ hb)⟩
  show (l.toArray ++ Z)[0 + i]? = some v'
  rw [Nat.zero_add, Array.getElem?_append_left (by simpa using hi)]
  simpa using e1

theorem HR.new' {L : Loc} {o : AObj} {obj : Obj} {w1 : World} (h : HR base ρ H w) (hw : w1.heap = w.heap.push obj) (h1 : w1.os = w.os) (h2 : w1.tape = w.tape) (h3 : w1.output = w.output) (hL : L.blk = w.heap.size)
    (hor : OR base (ρ.upd H.n L) L o w1) :
    HR base (ρ.upd H.n L) (H.add o) w1 ∧ Ext ρ H w (ρ.upd H.n L) (H.add o) w1 := by
  have hor' : OR base (ρ.upd H.n L) L o { w with heap := w.heap.push obj } := hor.mono (Sub.refl _) (by rw [hw])
  obtain ⟨a, b⟩ := h.new hL hor'
  exact ⟨a.of_heap hw, b.trans (Ext.of_heap hw h1 h2 h3)⟩

/-- A fresh block with more room than is filled. -/
theorem fresh_sound {esz need cap : Nat} {e : TypeId} {s : Sem Value} {cs : List AV} {l : List Value} {Z : Array Value} {t : Tr AV} {w1 : World} (hr : HR base ρ H w) (hc : VRs ρ cs l) (hn : cs.length = need * esz) (ht : t.Full cs.length) (hg : ∀ i, t.get? i = cs[i]?)
    (hZ : Z.size = (cap - need) * esz) (hcap : need ≤ cap) (hrun : s.run P w = .ok (.slice (some ⟨w.heap.size, 0, none⟩) need cap) w1) (hw : w1.heap = w.heap.push (.cells (l.toArray ++ Z) e)) (h1 : w1.os = w.os) (h2 : w1.tape = w.tape) (h3 : w1.output = w.output) :
    Goes P base ρ H w s (H.add (.cells false esz (Nat.mul need esz) t)) (fun ρ' r => VR ρ' (.sl H.n 0 need none) r) := by
  obtain ⟨L, q1, q2, q3, q4, q5⟩ := OR.cells_pre (esz := esz) (n := Nat.mul need esz) hr.low (hr.none (Nat.le_refl _)) hc (by rw [hn]; rfl) ht hg hw
  obtain ⟨f1, f2⟩ := hr.new' hw h1 h2 h3 q1 q5
  refine ⟨_, w1, _, hrun, ⟨L, cap, 0, Ren.upd_same _ _ _, by rw [q1], hcap, fun _ => by rw [q2], ?_⟩, f1, f2⟩
  dsimp only
  rw [q2, q3, q4, hZ, ← hc.length, hn, ← Nat.add_mul, show need + (cap - need) = cap by omega]
  omega

theorem okNeed_spec {bytes need : Nat} (h : okNeed bytes need = true) : need ≤ 1152921504606846976 ∧ need * bytes ≤ 140737488355328 := by
  simp only [okNeed, Bool.and_eq_true] at h
  exact ⟨Nat.le_of_ble_eq_true h.1, Nat.le_of_ble_eq_true h.2⟩

theorem aApp_sound {t u e ty : TypeId} {i : TypeInfo} {z : Value} {s x v : AV} {s' x' : Value} {H' : AHeap} (hr : HR base ρ H w) (ht : P.underlying t = some (.slice e)) (hi : P.info? e = some i) (hz : i.zero = some z) (hzs : z.cells.size = i.size) (hu : srcOk P u = true)
    (h : aApp i.size i.bytes H s x = some (v, H')) (hs : VR ρ s s') (hx : VR ρ x x') :
    Goes P base ρ H w (Builtin.append_ #[t, u] ty #[s', x']) H' (fun ρ' r => VR ρ' v r) := by
  unfold aApp at h
  cases hsrc : aSrc i.size H x with
  | none => rw [hsrc] at h; cases h
  | some nf =>
    obtain ⟨n, f⟩ := nf
    rw [hsrc] at h
    dsimp only at h
    cases hf : f n with
    | none => rw [hf] at h; cases h
    | some news =>
      rw [hf] at h
      dsimp only at h
      obtain ⟨hlen, news', hn1, hn2, hn3⟩ := run_firstCells (P := P) hr hx hsrc hf (Nat.le_refl _)
      cases n with
      | zero =>
        dsimp only at h
        have hnil : news' = [] := by
          have := hn1.length; rw [hn2] at this; exact List.eq_nil_of_length_eq_zero (by omega)
        subst hnil
        cases s <;> simp only at h <;> (try cases h)
        · obtain rfl := hs
          exact ⟨_, w, ρ, run_append_nil0 ht hi hu hlen (hn3 w rfl), rfl, hr, Ext.refl _ _ _⟩
        · have hs' := hs
          obtain ⟨L, c, o', hb, rfl, hlc, ho, hcap⟩ := hs
          exact ⟨_, w, ρ, run_append_in ht hi hu hlen (hn3 w rfl) (by omega) rfl, hs', hr, Ext.refl _ _ _⟩
      | succ n =>
        dsimp only at h
        cases hsc : allScal news with
        | false => rw [hsc] at h; cases h
        | true =>
          rw [hsc] at h
          simp only [cond_true] at h
          cases s <;> simp only at h <;> (try cases h)
          case nilsl =>
            obtain rfl := hs
            cases hok : okNeed i.bytes (n + 1) with
            | false => rw [hok] at h; cases h
            | true =>
              rw [hok] at h; cases h
              obtain ⟨k1, k2⟩ := okNeed_spec hok
              obtain ⟨cap, w1, c1, c2, c3, c4, c5, hrun⟩ := run_append_new (P := P) (w := w) (a := none) (len := 0) (c := 0) (ty := ty) (olds := []) ht hi hz hu hlen hn3 (fun w' _ => by simp [Builtin.firstCells]) (by omega) (by omega) (by rw [Nat.zero_add]; exact k2)
              rw [Nat.zero_add] at c1 hrun
              exact fresh_sound hr hn1 hn2 (Tr.full_ofList _) (Tr.get?_ofList _) (by rw [size_zeroCells, hzs]) c1 hrun rfl c3 c4 c5
          case sl b o len cap0 =>
            cases hok : okNeed i.bytes (Nat.add len (n + 1)) with
            | false => rw [hok] at h; cases h
            | true =>
              rw [hok] at h
              simp only [cond_true] at h
              obtain ⟨k1, k2⟩ := okNeed_spec hok
              have k1' : len + (n + 1) ≤ 1152921504606846976 := k1
              have k2' : (len + (n + 1)) * i.bytes ≤ 140737488355328 := k2
              unfold aAppSl at h
              cases hg : H.get b with
              | none => rw [hg] at h; cases h
              | some ob =>
                rw [hg] at h
                cases ob <;> simp only at h <;> (try cases h)
                rename_i ro e2 nb t0
                have hs0 := hs
                obtain ⟨L, c, o', hb, rfl, hlc, ho, hcap⟩ := hs
                have hor := hr.obj b L _ hb hg
                have holds : ∀ {olds : List AV}, t0.rdN o (Nat.mul len i.size) = some olds → ∃ olds', VRs ρ olds olds' ∧ olds.length = len * i.size ∧
                    (∀ (j : Nat), j < olds'.length → ∃ cc el fr, w.heap[L.blk]? = some (.cells cc el fr) ∧ cc[L.off + o + j]? = olds'[j]?) ∧
                    ∀ w', w'.heap = w.heap → (Builtin.firstCells i.size len (.slice (some ⟨L.blk, o', none⟩) len c)).run P w' = .ok olds'.toArray w' := by
                  intro olds hol
                  have hsr : aSrc i.size H (.sl b o len cap0) = some (len, fun k => match k with
                      | 0 => some []
                      | _ => match H.get b with
                        | some (.cells _ _ _ t) => t.rdN o (Nat.mul k i.size)
                        | _ => none) := rfl
                  have hff : (fun k => match k with
                      | 0 => some []
                      | _ => match H.get b with
                        | some (.cells _ _ _ t) => t.rdN o (Nat.mul k i.size)
                        | _ => none : Nat → Option (List AV)) len = some olds := by
                    cases len with
                    | zero => rw [show Nat.mul 0 i.size = 0 from Nat.zero_mul _] at hol; exact hol
                    | succ m => simp only [hg]; exact hol
                  obtain ⟨_, ol, r1, r2, r3⟩ := run_firstCells (P := P) hr hs0 hsr hff (Nat.le_refl _)
                  obtain ⟨cc, el, fr, ol2, p1, p2, p3, p4⟩ := cells_read hor hol
                  refine ⟨ol, r1, r2, fun j hj => ?_, r3⟩
                  refine ⟨cc, el, fr, p1, ?_⟩
                  -- both lists are what the cells hold
                  have hcells := r3 w rfl
                  have : (Builtin.firstCells i.size len (.slice (some ⟨L.blk, o', none⟩) len c)).run P w = .ok ol2.toArray w := by
                    cases len with
                    | zero =>
                      have : ol2 = [] := by
                        have := p2.length; rw [r2, Nat.zero_mul] at this; exact List.eq_nil_of_length_eq_zero this.symm
                      subst this
                      simp [Builtin.firstCells, loadCells, loadCellsFrom]
                    | succ m =>
                      have ho' := ho (by omega)
                      subst ho'
                      show (loadCells ⟨L.blk, L.off + o, none⟩ ((m + 1) * i.size)).run P w = _
                      have p3' : ol2.length = (m + 1) * i.size := p3
                      rw [← p3']
                      exact run_loadCells p1 ol2 p4
                  rw [hcells] at this
                  have heq : ol = ol2 := by
                    have := congrArg (fun r => match r with | Result.ok a _ => a.toList | .halt _ _ => []) this
                    simpa using this
                  subst heq
                  exact p4 j hj
                cases cap0 with
                | some c0 =>
                  dsimp only at h hcap
                  subst hcap
                  cases hroom : Nat.ble (Nat.add len (n + 1)) c with
                  | true =>
                    rw [hroom] at h
                    simp only [cond_true] at h
                    have hroom' : len + (n + 1) ≤ c := Nat.le_of_ble_eq_true hroom
                    cases ro with
                    | true => cases h
                    | false =>
                      simp only [cond_false] at h
                      cases hwr : t0.wrN (Nat.add o (Nat.mul len i.size)) news with
                      | none => rw [hwr] at h; cases h
                      | some t' =>
                        rw [hwr] at h; cases h
                        obtain ⟨r, w', ρ', e1, e2, e3, e4⟩ := write_sound (P := P) hr hb hg hn1 hsc hwr
                        subst e2
                        have ho' := ho (by omega)
                        subst ho'
                        refine ⟨_, w', ρ', run_append_in ht hi hu hlen (hn3 w rfl) hroom' (k := L.blk) (o := L.off + o) (w' := w') ?_, ⟨L, c, L.off + o, hb, rfl, hroom', fun _ => rfl, rfl⟩, e3, e4⟩
                        cases r
                        rw [show L.off + o + len * i.size = L.off + Nat.add o (Nat.mul len i.size) by show _ = L.off + (o + len * i.size); omega]
                        exact e1
                  | false =>
                    rw [hroom] at h
                    simp only [cond_false] at h
                    have hroom' : ¬ len + (n + 1) ≤ c := fun q => by
                      have := Nat.ble_eq_true_of_le q
                      rw [show Nat.ble (len + (n + 1)) c = false from hroom] at this; cases this
                    cases hol : t0.rdN o (Nat.mul len i.size) with
                    | none => rw [hol] at h; cases h
                    | some olds =>
                      rw [hol] at h; cases h
                      obtain ⟨olds', r1, r2, _, r3⟩ := holds hol
                      obtain ⟨cap, w1, c1, c2, c3, c4, c5, hrun⟩ := run_append_new (P := P) (w := w) (ty := ty) ht hi hz hu hlen hn3 r3 (by omega) (by omega) k2'
                      exact fresh_sound hr (VRs.append r1 hn1) (by rw [List.length_append, r2, hn2, ← Nat.add_mul]; rfl) (Tr.full_ofList _) (Tr.get?_ofList _) (by rw [size_zeroCells, hzs]; rfl) c1 hrun rfl c3 c4 c5
                | none =>
                  dsimp only at h hcap
                  cases hq : (Nat.beq e2 i.size && (Nat.ble 1 i.size && !ro)) with
                  | false => rw [hq] at h; cases h
                  | true =>
                    rw [hq] at h
                    simp only [Bool.and_eq_true, cond_true] at hq h
                    obtain rfl := Nat.eq_of_beq_eq_true hq.1
                    have hro : ro = false := by simpa using hq.2.2
                    have hpos := Nat.le_of_ble_eq_true hq.2.1
                    subst hro
                    -- what the new block holds
                    have hnew : ∃ olds tn, t0.rdN o (Nat.mul len i.size) = some olds ∧ v = .sl H.n 0 (Nat.add len (n + 1)) none ∧ H' = (H.put b .dead).add (.cells false i.size (Nat.mul (Nat.add len (n + 1)) i.size) tn) ∧
                        tn.Full (olds ++ news).length ∧ ∀ j, tn.get? j = (olds ++ news)[j]? := by
                      cases hw0 : (Nat.beq o 0 && Nat.beq nb (Nat.mul len i.size)) with
                      | true =>
                        rw [hw0] at h; cases h
                        simp only [Bool.and_eq_true] at hw0
                        obtain rfl := Nat.eq_of_beq_eq_true hw0.1
                        have hnb := Nat.eq_of_beq_eq_true hw0.2
                        have hfull := hor.2.1
                        have hread : ∀ (k p : Nat), p + k ≤ nb → ∃ l, t0.rdN p k = some l := by
                          intro k
                          induction k with
                          | zero => intro p _; exact ⟨[], rfl⟩
                          | succ k ih =>
                            intro p hp
                            have := (hfull p).2 (by omega)
                            obtain ⟨v, hv⟩ := Option.isSome_iff_exists.1 this
                            obtain ⟨l, hl⟩ := ih (p + 1) (by omega)
                            exact ⟨v :: l, by simp [Tr.rdN, hv, hl]⟩
                        obtain ⟨olds, hol⟩ := hread (Nat.mul len i.size) 0 (by omega)
                        obtain ⟨g1, g2⟩ := Tr.rdN_spec hol
                        obtain ⟨p1, p2⟩ := Tr.pushAll_spec news hfull
                        refine ⟨olds, _, hol, rfl, rfl, by rw [List.length_append, g1, ← hnb]; exact p1, fun j => ?_⟩
                        rw [p2]
                        by_cases cj : nb ≤ j
                        · rw [if_pos cj, List.getElem?_append_right (by omega), g1, ← hnb]
                        · rw [if_neg cj, List.getElem?_append_left (by omega), ← g2 j (by omega), Nat.zero_add]
                      | false =>
                        rw [hw0] at h
                        simp only [cond_false] at h
                        cases hol : t0.rdN o (Nat.mul len i.size) with
                        | none => rw [hol] at h; cases h
                        | some olds => rw [hol] at h; cases h; exact ⟨olds, _, rfl, rfl, rfl, Tr.full_ofList _, Tr.get?_ofList _⟩
                    obtain ⟨olds, tn, hol, rfl, rfl, hfn, hgn⟩ := hnew
                    obtain ⟨olds', r1, r2, r4, r3⟩ := holds hol
                    have hall := VRs.append r1 hn1
                    have hallen : (olds ++ news).length = (len + (n + 1)) * i.size := by rw [List.length_append, r2, hn2, ← Nat.add_mul]
                    by_cases hroom : len + (n + 1) ≤ c
                    · -- in place
                      obtain ⟨⟨h1, _⟩, h2, h3, h4, cc, el, fr, h5, h6, h7, h8⟩ := hor
                      have ho' := ho (by omega)
                      subst ho'
                      have hfit : L.off + o + len * i.size + 0 + news'.length ≤ cc.size := by
                        rw [h7, ← hn1.length, hn2]
                        have : (len + (n + 1)) * i.size ≤ c * i.size := Nat.mul_le_mul_right _ hroom
                        rw [Nat.add_mul] at this
                        rw [h1] at hcap
                        omega
                      have hrun := run_storeCells (P := P) (o := L.off + o + len * i.size) news' h5 (h6 rfl) 0 (hn1.scal hsc) hfit
                      have hmv := hr.move (L' := ⟨L.blk, L.off + o, L.top, i.size⟩) (o' := .cells false i.size (Nat.mul (Nat.add len (n + 1)) i.size) tn) (obj := .cells (wr cc (L.off + o + len * i.size + 0) news') el fr) hb hg rfl rfl (by
                        refine ⟨⟨rfl, fun e => by omega⟩, by rw [hallen] at hfn; exact hfn, ?_, h4, _, el, fr, by rw [setBlk_get (hr.dom b L hb).2, if_pos rfl], fun _ => by rw [wr_size]; exact h6 rfl, by rw [wr_size]; exact h7, fun j y hy => ?_⟩
                        · show L.off + o + (len + (n + 1)) * i.size ≤ L.top
                          have : (len + (n + 1)) * i.size ≤ c * i.size := Nat.mul_le_mul_right _ hroom
                          rw [h1] at hcap
                          omega
                        · rw [hgn] at hy
                          obtain ⟨y', e1, e2⟩ := VRs.get hall hy
                          refine ⟨y', ?_, e2.mono (Ren.sub_upd _ (hr.none (Nat.le_refl _)))⟩
                          show (wr cc (L.off + o + len * i.size + 0) news')[L.off + o + j]? = some y'
                          rw [wr_get _ _ _ _ (by omega)]
                          have hol' : olds'.length = len * i.size := by rw [← r1.length, r2]
                          by_cases cj : j < len * i.size
                          · rw [if_neg (by omega)]
                            rw [List.getElem?_append_left (by omega)] at e1
                            obtain ⟨cc2, el2, fr2, u1, u2⟩ := r4 j (by omega)
                            rw [h5] at u1; cases u1
                            rw [u2]; exact e1
                          · rw [List.getElem?_append_right (by omega)] at e1
                            have hjn : j - olds'.length < news'.length := by
                              rcases Nat.lt_or_ge (j - olds'.length) news'.length with q | q
                              · exact q
                              · rw [List.getElem?_eq_none q] at e1; cases e1
                            rw [if_pos (by omega), show L.off + o + j - (L.off + o + len * i.size + 0) = j - olds'.length by omega]; exact e1)
                      refine ⟨_, _, ρ.upd H.n ⟨L.blk, L.off + o, L.top, i.size⟩, run_append_in ht hi hu hlen (hn3 w rfl) hroom hrun, ⟨⟨L.blk, L.off + o, L.top, i.size⟩, c, L.off + o, Ren.upd_same _ _ _, rfl, hroom, fun _ => rfl, ?_⟩, hmv.1, hmv.2⟩
                      show L.off + o + 0 + c * i.size ≤ L.top
                      rw [h1] at hcap; omega
                    · -- a new place
                      obtain ⟨cap, w1, c1, c2, c3, c4, c5, hrun⟩ := run_append_new (P := P) (w := w) (ty := ty) ht hi hz hu hlen hn3 r3 (by omega) (by omega) k2'
                      obtain ⟨kr, ke⟩ := hr.kill hb hg
                      have hfr := fresh_sound (s := Builtin.append_ #[t, u] ty #[.slice (some ⟨L.blk, o', none⟩) len c, x']) kr hall (by rw [hallen]) hfn hgn (by rw [size_zeroCells, hzs]) c1 hrun rfl c3 c4 c5
                      obtain ⟨r, w2, ρ2, g1, g2, g3, g4⟩ := hfr
                      exact ⟨r, w2, ρ2, g1, g2, g3, ke.trans g4⟩

theorem bytesWorld_heap (w : World) (e : TypeId) (s : ByteArray) : (Go.Lib.bytesWorld w e s).heap = w.heap.push (.cells (Go.Lib.bytesCells w e s) e ((Go.Lib.bytesCells w e s).size, (Go.Lib.bytesCells w e s).size + 1)) := by
  apply Array.ext_getElem?
  intro i
  rcases Nat.lt_trichotomy i w.heap.size with h | h | h
  · rw [Go.Lib.bytesWorld_at_old w e s i h, Array.getElem?_push, if_neg (by omega)]
  · subst h
    rw [Go.Lib.bytesWorld_at_new, Array.getElem?_push, if_pos rfl]
  · rw [Array.getElem?_eq_none (by rw [Go.Lib.bytesWorld_size]; omega), Array.getElem?_eq_none (by rw [Array.size_push]; omega)]

theorem VRs_bytes (l : List UInt8) : VRs ρ (l.map byteCell) (l.map fun b => Value.int .u8 b.toNat) := by
  induction l with
  | nil => rfl
  | cons b l ih => exact ⟨_, _, rfl, rfl, ih⟩

theorem aS2b_sound {s d e : TypeId} {u : TypeDesc} {x v : AV} {x' : Value} {H' : AHeap} (hr : HR base ρ H w) (hs : P.underlying s = some u) (hd : P.underlying d = some (.slice e)) (he : P.underlying e = some (.int .u8))
    (h : aS2b H x = some (v, H')) (hx : VR ρ x x') : Goes P base ρ H w (convert s d x') H' (fun ρ' r => VR ρ' v r) := by
  cases x <;> simp only [aS2b] at h <;> (try cases h)
  rename_i l
  obtain rfl := hx
  have hrun := Go.Lib.run_convert_string_bytes w s d e ⟨l.toArray⟩ hs hd he
  have hw := bytesWorld_heap w e ⟨l.toArray⟩
  have hb : ρ H.n = none := hr.none (Nat.le_refl _)
  have hsz : (⟨l.toArray⟩ : ByteArray).size = l.length := rfl
  have hge : l.length ≤ grownCap w l.length 0 e := grownCap_ge _ _ _ _
  have hcs : (Go.Lib.bytesCells w e ⟨l.toArray⟩).size = grownCap w l.length 0 e := by
    simp only [Go.Lib.bytesCells, Array.size_append, Array.size_map, Array.size_replicate, hsz]
    show l.toArray.size + _ = _
    rw [List.size_toArray]; omega
  obtain ⟨f1, f2⟩ := hr.new' (L := ⟨w.heap.size, 0, grownCap w l.length 0 e, 1⟩) (o := .cells false 1 l.length (Tr.ofList (l.map byteCell))) hw rfl rfl rfl rfl (by
    refine ⟨⟨rfl, fun _ => rfl⟩, by have := Tr.full_ofList (l.map byteCell); rwa [List.length_map] at this, by show 0 + l.length ≤ grownCap w l.length 0 e; omega, fun _ => hr.low, Go.Lib.bytesCells w e ⟨l.toArray⟩, e, ((Go.Lib.bytesCells w e ⟨l.toArray⟩).size, (Go.Lib.bytesCells w e ⟨l.toArray⟩).size + 1), by rw [hw]; simp, fun _ => .inr (Nat.le_refl _), hcs, fun i v hv => ?_⟩
    rw [Tr.get?_ofList] at hv
    obtain ⟨v', e1, e2⟩ := VRs.get (VRs_bytes (ρ := ρ) l) hv
    have hi : i < l.length := by
      rcases Nat.lt_or_ge i l.length with c | c
      · exact c
      · rw [List.getElem?_eq_none (by simpa using c)] at e1; cases e1
    refine ⟨v', ?_, e2.mono (Ren.sub_upd _ hb)⟩
    show (Go.Lib.bytesCells w e ⟨l.toArray⟩)[0 + i]? = some v'
    rw [Nat.zero_add, Go.Lib.bytesCells, Array.getElem?_append_left (by simpa using hi), ← e1]
    simp)
  refine ⟨_, _, _, hrun, ⟨⟨w.heap.size, 0, grownCap w l.length 0 e, 1⟩, grownCap w l.length 0 e, 0, Ren.upd_same _ _ _, rfl, hge, fun _ => rfl, ?_⟩, f1, f2⟩
  show 0 + 0 + grownCap w l.length 0 e * 1 ≤ grownCap w l.length 0 e
  omega

end
end
end Go.Ab
