/- The operations made ready; regions; bodies; calls. -/
import Derived.Test.YtcolbcpeialmhaaGreatDoorA0
import Derived.Lib.ConvBytes
import Derived.Orders
import Derived.Laws.Sem
import Derived.Defers
namespace Go.Ab
noncomputable section
def dL (bytes need : Nat) : Bool := Nat.ble need 1152921504606846976 && Nat.ble (Nat.mul need bytes) 140737488355328
def rP (esz : Nat) (H : AHeap) (b o len : Nat) (cap : Option Nat) (news : List AV) (need : Nat) : Option (AV × AHeap) :=
 match H.get b with
 | some (.cells ro e nb t) =>
  match cap with
  | some c => cond (Nat.ble need c)
   (cond ro none (match t.wrN (Nat.add o (Nat.mul len esz)) news with
    | some t' => some (.sl b o need (some c), H.put b (.cells false e nb t'))
    | none => none))
   (match t.rdN o (Nat.mul len esz) with
    | some olds => some (.sl H.n 0 need none, H.add (.cells false esz (Nat.mul need esz) (Tr.ofList (olds ++ news))))
    | none => none)
  | none => cond (Nat.beq e esz && (Nat.ble 1 esz && !ro))
   (cond (Nat.beq o 0 && Nat.beq nb (Nat.mul len esz))
    (some (.sl H.n 0 need none, (H.put b .dead).add (.cells false esz (Nat.mul need esz) (t.pushAll nb news))))
    (match t.rdN o (Nat.mul len esz) with
     | some olds => some (.sl H.n 0 need none, (H.put b .dead).add (.cells false esz (Nat.mul need esz) (Tr.ofList (olds ++ news))))
     | none => none)) none
 | _ => none
def bz (esz bytes : Nat) (H : AHeap) (s x : AV) : Option (AV × AHeap) :=
 match rE esz H x with
 | none => none
 | some (n, f) =>
  match f n with
  | none => none
  | some news =>
   match n with
   | 0 => (match s with
    | .nilsl => some (s, H)
    | .sl _ _ _ _ => some (s, H)
    | _ => none)
   | n' + 1 =>
    cond (aI news) (match s with
     | .nilsl => cond (dL bytes (n' + 1)) (some (.sl H.n 0 (n' + 1) none, H.add (.cells false esz (Nat.mul (n' + 1) esz) (Tr.ofList news)))) none
     | .sl b o len cap => cond (dL bytes (Nat.add len (n' + 1))) (rP esz H b o len cap news (Nat.add len (n' + 1))) none
     | _ => none) none
def jP (b : UInt8) : AV := .int .u8 (.ofNat b.toNat)
def MF (H : AHeap) (x : AV) : Option (AV × AHeap) := match x with
 | .str l => some (.sl H.n 0 l.length none, H.add (.cells false 1 l.length (Tr.ofList (l.map jP))))
 | _ => none
section
variable {P : Program} {base : Nat} {ρ : Ren} {H : AHeap} {w : World}
theorem OR.cells_pre {b esz n : Nat} {el : TypeId} {cs : List AV} {l : List Value} {Z : Array Value} {t : Tr AV} {w1 : World} (hlow : base ≤ w.heap.size) (hb : ρ b = none) (hc : VRs ρ cs l) (hn : n = cs.length) (ht : t.Full cs.length) (hg : ∀ i, t.get? i = cs[i]?)
 (hw : w1.heap = w.heap.push (.cells (l.toArray ++ Z) el)) :
 ∃ L : Loc, L.blk = w.heap.size ∧ L.off = 0 ∧ L.top = l.length + Z.size ∧ L.esz = esz ∧ OR base (ρ.upd b L) L (.cells false esz n t) w1 := by
 subst hn
 have hl := hc.length
 refine ⟨⟨w.heap.size, 0, l.length + Z.size, esz⟩, rfl, rfl, rfl, rfl, ⟨rfl, fun _ => rfl⟩, ht, by show 0 + cs.length ≤ l.length + Z.size; omega, fun _ => hlow, l.toArray ++ Z, el, (0, 0), by rw [hw]; simp, fun _ => .inl rfl, by simp, fun i v hv => ?_⟩
 rw [hg] at hv
 obtain ⟨v', e1, e2⟩ := VRs.get hc hv
 have hi : i < l.length := by
  rcases Nat.lt_or_ge i l.length with c | c
  · exact c
  · rw [List.getElem?_eq_none c] at e1; cases e1
 refine ⟨v', ?_, e2.mono (Ren.sub_upd _ hb)⟩
 show (l.toArray ++ Z)[0 + i]? = some v'
 rw [Nat.zero_add, Array.getElem?_append_left (by simpa using hi)]
 simpa using e1
theorem HR.new' {L : Loc} {o : AObj} {obj : Obj} {w1 : World} (h : HR base ρ H w) (hw : w1.heap = w.heap.push obj) (h1 : w1.os = w.os) (h2 : w1.tape = w.tape) (h3 : w1.output = w.output) (hL : L.blk = w.heap.size)
 (hor : OR base (ρ.upd H.n L) L o w1) :
 HR base (ρ.upd H.n L) (H.add o) w1 ∧ Ext ρ H w (ρ.upd H.n L) (H.add o) w1 := by
 have hor' : OR base (ρ.upd H.n L) L o { w with heap := w.heap.push obj } := hor.mono (Sub.refl _) (by rw [hw])
 obtain ⟨a, b⟩ := h.new hL hor'
 exact ⟨a.of_heap hw, b.trans (Ext.of_heap hw h1 h2 h3)⟩
theorem gO {esz need cap : Nat} {e : TypeId} {s : Sem Value} {cs : List AV} {l : List Value} {Z : Array Value} {t : Tr AV} {w1 : World} (hr : HR base ρ H w) (hc : VRs ρ cs l) (hn : cs.length = need * esz) (ht : t.Full cs.length) (hg : ∀ i, t.get? i = cs[i]?)
 (hZ : Z.size = (cap - need) * esz) (hcap : need ≤ cap) (hrun : s.run P w = .ok (.slice (some ⟨w.heap.size, 0, none⟩) need cap) w1) (hw : w1.heap = w.heap.push (.cells (l.toArray ++ Z) e)) (h1 : w1.os = w.os) (h2 : w1.tape = w.tape) (h3 : w1.output = w.output) :
 j5 P base ρ H w s (H.add (.cells false esz (Nat.mul need esz) t)) (fun ρ' r => VR ρ' (.sl H.n 0 need none) r) := by
 obtain ⟨L, q1, q2, q3, q4, q5⟩ := OR.cells_pre (esz := esz) (n := Nat.mul need esz) hr.low (hr.none (Nat.le_refl _)) hc (by rw [hn]; rfl) ht hg hw
 obtain ⟨f1, f2⟩ := hr.new' hw h1 h2 h3 q1 q5
 refine ⟨_, w1, _, hrun, ⟨L, cap, 0, Ren.upd_same _ _ _, by rw [q1], hcap, fun _ => by rw [q2], ?_⟩, f1, f2⟩
 dsimp only
 rw [q2, q3, q4, hZ, ← hc.length, hn, ← Nat.add_mul, show need + (cap - need) = cap by omega]
 omega
theorem lr {bytes need : Nat} (h : dL bytes need = true) : need ≤ 1152921504606846976 ∧ need * bytes ≤ 140737488355328 := by
 simp only [dL, Bool.and_eq_true] at h
 exact ⟨Nat.le_of_ble_eq_true h.1, Nat.le_of_ble_eq_true h.2⟩
theorem ya {t u e ty : TypeId} {i : TypeInfo} {z : Value} {s x v : AV} {s' x' : Value} {H' : AHeap} (hr : HR base ρ H w) (ht : P.underlying t = some (.slice e)) (hi : P.info? e = some i) (hz : i.zero = some z) (hzs : z.cells.size = i.size) (hu : l6 P u = true)
 (h : bz i.size i.bytes H s x = some (v, H')) (hs : VR ρ s s') (hx : VR ρ x x') :
 j5 P base ρ H w (Builtin.append_ #[t, u] ty #[s', x']) H' (fun ρ' r => VR ρ' v r) := by
 unfold bz at h
 cases hsrc : rE i.size H x with
 | none => rw [hsrc] at h; cases h
 | some nf =>
  obtain ⟨n, f⟩ := nf
  rw [hsrc] at h
  dsimp only at h
  cases hf : f n with
  | none => rw [hf] at h; cases h
  | some news =>
   rw [hf] at h
   dsimp only at h
   obtain ⟨hlen, news', hn1, hn2, hn3⟩ := cZ (P := P) hr hx hsrc hf (Nat.le_refl _)
   cases n with
   | zero =>
    dsimp only at h
    have hnil : news' = [] := by
     have := hn1.length; rw [hn2] at this; exact List.eq_nil_of_length_eq_zero (by omega)
    subst hnil
    cases s <;> simp only at h <;> (try cases h)
    · obtain rfl := hs
      exact ⟨_, w, ρ, lJ ht hi hu hlen (hn3 w rfl), rfl, hr, Ext.refl _ _ _⟩
    · have hs' := hs
      obtain ⟨L, c, o', hb, rfl, hlc, ho, hcap⟩ := hs
      exact ⟨_, w, ρ, eT ht hi hu hlen (hn3 w rfl) (by omega) rfl, hs', hr, Ext.refl _ _ _⟩
   | succ n =>
    dsimp only at h
    cases hsc : aI news with
    | false => rw [hsc] at h; cases h
    | true =>
     rw [hsc] at h
     simp only [cond_true] at h
     cases s <;> simp only at h <;> (try cases h)
     case nilsl =>
      obtain rfl := hs
      cases hok : dL i.bytes (n + 1) with
      | false => rw [hok] at h; cases h
      | true =>
       rw [hok] at h; cases h
       obtain ⟨k1, k2⟩ := lr hok
       obtain ⟨cap, w1, c1, c2, c3, c4, c5, hrun⟩ := ef (P := P) (w := w) (a := none) (len := 0) (c := 0) (ty := ty) (olds := []) ht hi hz hu hlen hn3 (fun w' _ => by simp [Builtin.firstCells]) (by omega) (by omega) (by rw [Nat.zero_add]; exact k2)
       rw [Nat.zero_add] at c1 hrun
       exact gO hr hn1 hn2 (Tr.full_ofList _) (Tr.get?_ofList _) (by rw [size_zeroCells, hzs]) c1 hrun rfl c3 c4 c5
     case sl b o len cap0 =>
      cases hok : dL i.bytes (Nat.add len (n + 1)) with
      | false => rw [hok] at h; cases h
      | true =>
       rw [hok] at h
       simp only [cond_true] at h
       obtain ⟨k1, k2⟩ := lr hok
       have k1' : len + (n + 1) ≤ 1152921504606846976 := k1
       have k2' : (len + (n + 1)) * i.bytes ≤ 140737488355328 := k2
       unfold rP at h
       cases hg : H.get b with
       | none => rw [hg] at h; cases h
       | some ob =>
        rw [hg] at h
        cases ob <;> simp only at h <;> (try cases h)
        rename_i ro e2 nb t0
        have hs0 := hs
        obtain ⟨L, c, o', hb, rfl, hlc, ho, hcap⟩ := hs
        have hor := hr.obj b L _ hb hg
        have holds : ∀ {olds : List AV}, t0.rdN o (Nat.mul len i.size) = some olds → ∃ olds', VRs ρ olds olds' ∧ olds.length = len * i.size ∧
         (∀ (j : Nat), j < olds'.length → ∃ cc el fr, w.heap[L.blk]? = some (.cells cc el fr) ∧ cc[L.off + o + j]? = olds'[j]?) ∧
         ∀ w', w'.heap = w.heap → (Builtin.firstCells i.size len (.slice (some ⟨L.blk, o', none⟩) len c)).run P w' = .ok olds'.toArray w' := by
         intro olds hol
         have hsr : rE i.size H (.sl b o len cap0) = some (len, fun k => match k with
          | 0 => some []
          | _ => match H.get b with
           | some (.cells _ _ _ t) => t.rdN o (Nat.mul k i.size)
           | _ => none) := rfl
         have hff : (fun k => match k with
          | 0 => some []
          | _ => match H.get b with
           | some (.cells _ _ _ t) => t.rdN o (Nat.mul k i.size)
           | _ => none : Nat → Option (List AV)) len = some olds := by
          cases len with
          | zero => rw [show Nat.mul 0 i.size = 0 from Nat.zero_mul _] at hol; exact hol
          | succ m => simp only [hg]; exact hol
         obtain ⟨_, ol, r1, r2, r3⟩ := cZ (P := P) hr hs0 hsr hff (Nat.le_refl _)
         obtain ⟨cc, el, fr, ol2, p1, p2, p3, p4⟩ := iX hor hol
         refine ⟨ol, r1, r2, fun j hj => ?_, r3⟩
         refine ⟨cc, el, fr, p1, ?_⟩
         have hcells := r3 w rfl
         have : (Builtin.firstCells i.size len (.slice (some ⟨L.blk, o', none⟩) len c)).run P w = .ok ol2.toArray w := by
          cases len with
          | zero =>
           have : ol2 = [] := by
            have := p2.length; rw [r2, Nat.zero_mul] at this; exact List.eq_nil_of_length_eq_zero this.symm
           subst this
           simp [Builtin.firstCells, loadCells, loadCellsFrom]
          | succ m =>
           have ho' := ho (by omega)
           subst ho'
           show (loadCells ⟨L.blk, L.off + o, none⟩ ((m + 1) * i.size)).run P w = _
           have p3' : ol2.length = (m + 1) * i.size := p3
           rw [← p3']
           exact eS p1 ol2 p4
         rw [hcells] at this
         have heq : ol = ol2 := by
          have := congrArg (fun r => match r with | Result.ok a _ => a.toList | .halt _ _ => []) this
          simpa using this
         subst heq
         exact p4 j hj
        cases cap0 with
        | some c0 =>
         dsimp only at h hcap
         subst hcap
         cases hroom : Nat.ble (Nat.add len (n + 1)) c with
         | true =>
          rw [hroom] at h
          simp only [cond_true] at h
          have hroom' : len + (n + 1) ≤ c := Nat.le_of_ble_eq_true hroom
          cases ro with
          | true => cases h
          | false =>
           simp only [cond_false] at h
           cases hwr : t0.wrN (Nat.add o (Nat.mul len i.size)) news with
           | none => rw [hwr] at h; cases h
           | some t' =>
            rw [hwr] at h; cases h
            obtain ⟨r, w', ρ', e1, e2, e3, e4⟩ := eD (P := P) hr hb hg hn1 hsc hwr
            subst e2
            have ho' := ho (by omega)
            subst ho'
            refine ⟨_, w', ρ', eT ht hi hu hlen (hn3 w rfl) hroom' (k := L.blk) (o := L.off + o) (w' := w') ?_, ⟨L, c, L.off + o, hb, rfl, hroom', fun _ => rfl, rfl⟩, e3, e4⟩
            cases r
            rw [show L.off + o + len * i.size = L.off + Nat.add o (Nat.mul len i.size) by show _ = L.off + (o + len * i.size); omega]
            exact e1
         | false =>
          rw [hroom] at h
          simp only [cond_false] at h
          have hroom' : ¬ len + (n + 1) ≤ c := fun q => by
           have := Nat.ble_eq_true_of_le q
           rw [show Nat.ble (len + (n + 1)) c = false from hroom] at this; cases this
          cases hol : t0.rdN o (Nat.mul len i.size) with
          | none => rw [hol] at h; cases h
          | some olds =>
           rw [hol] at h; cases h
           obtain ⟨olds', r1, r2, _, r3⟩ := holds hol
           obtain ⟨cap, w1, c1, c2, c3, c4, c5, hrun⟩ := ef (P := P) (w := w) (ty := ty) ht hi hz hu hlen hn3 r3 (by omega) (by omega) k2'
           exact gO hr (VRs.append r1 hn1) (by rw [List.length_append, r2, hn2, ← Nat.add_mul]; rfl) (Tr.full_ofList _) (Tr.get?_ofList _) (by rw [size_zeroCells, hzs]; rfl) c1 hrun rfl c3 c4 c5
        | none =>
         dsimp only at h hcap
         cases hq : (Nat.beq e2 i.size && (Nat.ble 1 i.size && !ro)) with
         | false => rw [hq] at h; cases h
         | true =>
          rw [hq] at h
          simp only [Bool.and_eq_true, cond_true] at hq h
          obtain rfl := Nat.eq_of_beq_eq_true hq.1
          have hro : ro = false := by simpa using hq.2.2
          have hpos := Nat.le_of_ble_eq_true hq.2.1
          subst hro
          have hnew : ∃ olds tn, t0.rdN o (Nat.mul len i.size) = some olds ∧ v = .sl H.n 0 (Nat.add len (n + 1)) none ∧ H' = (H.put b .dead).add (.cells false i.size (Nat.mul (Nat.add len (n + 1)) i.size) tn) ∧
           tn.Full (olds ++ news).length ∧ ∀ j, tn.get? j = (olds ++ news)[j]? := by
           cases hw0 : (Nat.beq o 0 && Nat.beq nb (Nat.mul len i.size)) with
           | true =>
            rw [hw0] at h; cases h
            simp only [Bool.and_eq_true] at hw0
            obtain rfl := Nat.eq_of_beq_eq_true hw0.1
            have hnb := Nat.eq_of_beq_eq_true hw0.2
            have hfull := hor.2.1
            have hread : ∀ (k p : Nat), p + k ≤ nb → ∃ l, t0.rdN p k = some l := by
             intro k
             induction k with
             | zero => intro p _; exact ⟨[], rfl⟩
             | succ k ih =>
              intro p hp
              have := (hfull p).2 (by omega)
              obtain ⟨v, hv⟩ := Option.isSome_iff_exists.1 this
              obtain ⟨l, hl⟩ := ih (p + 1) (by omega)
              exact ⟨v :: l, by simp [Tr.rdN, hv, hl]⟩
            obtain ⟨olds, hol⟩ := hread (Nat.mul len i.size) 0 (by omega)
            obtain ⟨g1, g2⟩ := Tr.rdN_spec hol
            obtain ⟨p1, p2⟩ := Tr.pushAll_spec news hfull
            refine ⟨olds, _, hol, rfl, rfl, by rw [List.length_append, g1, ← hnb]; exact p1, fun j => ?_⟩
            rw [p2]
            by_cases cj : nb ≤ j
            · rw [if_pos cj, List.getElem?_append_right (by omega), g1, ← hnb]
            · rw [if_neg cj, List.getElem?_append_left (by omega), ← g2 j (by omega), Nat.zero_add]
           | false =>
            rw [hw0] at h
            simp only [cond_false] at h
            cases hol : t0.rdN o (Nat.mul len i.size) with
            | none => rw [hol] at h; cases h
            | some olds => rw [hol] at h; cases h; exact ⟨olds, _, rfl, rfl, rfl, Tr.full_ofList _, Tr.get?_ofList _⟩
          obtain ⟨olds, tn, hol, rfl, rfl, hfn, hgn⟩ := hnew
          obtain ⟨olds', r1, r2, r4, r3⟩ := holds hol
          have hall := VRs.append r1 hn1
          have hallen : (olds ++ news).length = (len + (n + 1)) * i.size := by rw [List.length_append, r2, hn2, ← Nat.add_mul]
          by_cases hroom : len + (n + 1) ≤ c
          ·
           obtain ⟨⟨h1, _⟩, h2, h3, h4, cc, el, fr, h5, h6, h7, h8⟩ := hor
           have ho' := ho (by omega)
           subst ho'
           have hfit : L.off + o + len * i.size + 0 + news'.length ≤ cc.size := by
            rw [h7, ← hn1.length, hn2]
            have : (len + (n + 1)) * i.size ≤ c * i.size := Nat.mul_le_mul_right _ hroom
            rw [Nat.add_mul] at this
            rw [h1] at hcap
            omega
           have hrun := gF (P := P) (o := L.off + o + len * i.size) news' h5 (h6 rfl) 0 (hn1.scal hsc) hfit
           have hmv := hr.move (L' := ⟨L.blk, L.off + o, L.top, i.size⟩) (o' := .cells false i.size (Nat.mul (Nat.add len (n + 1)) i.size) tn) (obj := .cells (wr cc (L.off + o + len * i.size + 0) news') el fr) hb hg rfl rfl (by
            refine ⟨⟨rfl, fun e => by omega⟩, by rw [hallen] at hfn; exact hfn, ?_, h4, _, el, fr, by rw [c8 (hr.dom b L hb).2, if_pos rfl], fun _ => by rw [j9]; exact h6 rfl, by rw [j9]; exact h7, fun j y hy => ?_⟩
            · show L.off + o + (len + (n + 1)) * i.size ≤ L.top
              have : (len + (n + 1)) * i.size ≤ c * i.size := Nat.mul_le_mul_right _ hroom
              rw [h1] at hcap
              omega
            · rw [hgn] at hy
              obtain ⟨y', e1, e2⟩ := VRs.get hall hy
              refine ⟨y', ?_, e2.mono (Ren.sub_upd _ (hr.none (Nat.le_refl _)))⟩
              show (wr cc (L.off + o + len * i.size + 0) news')[L.off + o + j]? = some y'
              rw [qB _ _ _ _ (by omega)]
              have hol' : olds'.length = len * i.size := by rw [← r1.length, r2]
              by_cases cj : j < len * i.size
              · rw [if_neg (by omega)]
                rw [List.getElem?_append_left (by omega)] at e1
                obtain ⟨cc2, el2, fr2, u1, u2⟩ := r4 j (by omega)
                rw [h5] at u1; cases u1
                rw [u2]; exact e1
              · rw [List.getElem?_append_right (by omega)] at e1
                have hjn : j - olds'.length < news'.length := by
                 rcases Nat.lt_or_ge (j - olds'.length) news'.length with q | q
                 · exact q
                 · rw [List.getElem?_eq_none q] at e1; cases e1
                rw [if_pos (by omega), show L.off + o + j - (L.off + o + len * i.size + 0) = j - olds'.length by omega]; exact e1)
           refine ⟨_, _, ρ.upd H.n ⟨L.blk, L.off + o, L.top, i.size⟩, eT ht hi hu hlen (hn3 w rfl) hroom hrun, ⟨⟨L.blk, L.off + o, L.top, i.size⟩, c, L.off + o, Ren.upd_same _ _ _, rfl, hroom, fun _ => rfl, ?_⟩, hmv.1, hmv.2⟩
           show L.off + o + 0 + c * i.size ≤ L.top
           rw [h1] at hcap; omega
          ·
           obtain ⟨cap, w1, c1, c2, c3, c4, c5, hrun⟩ := ef (P := P) (w := w) (ty := ty) ht hi hz hu hlen hn3 r3 (by omega) (by omega) k2'
           obtain ⟨kr, ke⟩ := hr.kill hb hg
           have hfr := gO (s := Builtin.append_ #[t, u] ty #[.slice (some ⟨L.blk, o', none⟩) len c, x']) kr hall (by rw [hallen]) hfn hgn (by rw [size_zeroCells, hzs]) c1 hrun rfl c3 c4 c5
           obtain ⟨r, w2, ρ2, g1, g2, g3, g4⟩ := hfr
           exact ⟨r, w2, ρ2, g1, g2, g3, ke.trans g4⟩
theorem lO (w : World) (e : TypeId) (s : ByteArray) : (Go.Lib.bytesWorld w e s).heap = w.heap.push (.cells (Go.Lib.bytesCells w e s) e ((Go.Lib.bytesCells w e s).size, (Go.Lib.bytesCells w e s).size + 1)) := by
 apply Array.ext_getElem?
 intro i
 rcases Nat.lt_trichotomy i w.heap.size with h | h | h
 · rw [Go.Lib.bytesWorld_at_old w e s i h, Array.getElem?_push, if_neg (by omega)]
 · subst h
   rw [Go.Lib.bytesWorld_at_new, Array.getElem?_push, if_pos rfl]
 · rw [Array.getElem?_eq_none (by rw [Go.Lib.bytesWorld_size]; omega), Array.getElem?_eq_none (by rw [Array.size_push]; omega)]
theorem FH (l : List UInt8) : VRs ρ (l.map jP) (l.map fun b => Value.int .u8 b.toNat) := by
 induction l with
 | nil => rfl
 | cons b l ih => exact ⟨_, _, rfl, rfl, ih⟩
theorem xQ {s d e : TypeId} {u : TypeDesc} {x v : AV} {x' : Value} {H' : AHeap} (hr : HR base ρ H w) (hs : P.underlying s = some u) (hd : P.underlying d = some (.slice e)) (he : P.underlying e = some (.int .u8))
 (h : MF H x = some (v, H')) (hx : VR ρ x x') : j5 P base ρ H w (convert s d x') H' (fun ρ' r => VR ρ' v r) := by
 cases x <;> simp only [MF] at h <;> (try cases h)
 rename_i l
 obtain rfl := hx
 have hrun := Go.Lib.run_convert_string_bytes w s d e ⟨l.toArray⟩ hs hd he
 have hw := lO w e ⟨l.toArray⟩
 have hb : ρ H.n = none := hr.none (Nat.le_refl _)
 have hsz : (⟨l.toArray⟩ : ByteArray).size = l.length := rfl
 have hge : l.length ≤ grownCap w l.length 0 e := grownCap_ge _ _ _ _
 have hcs : (Go.Lib.bytesCells w e ⟨l.toArray⟩).size = grownCap w l.length 0 e := by
  simp only [Go.Lib.bytesCells, Array.size_append, Array.size_map, Array.size_replicate, hsz]
  show l.toArray.size + _ = _
  rw [List.size_toArray]; omega
 obtain ⟨f1, f2⟩ := hr.new' (L := ⟨w.heap.size, 0, grownCap w l.length 0 e, 1⟩) (o := .cells false 1 l.length (Tr.ofList (l.map jP))) hw rfl rfl rfl rfl (by
  refine ⟨⟨rfl, fun _ => rfl⟩, by have := Tr.full_ofList (l.map jP); rwa [List.length_map] at this, by show 0 + l.length ≤ grownCap w l.length 0 e; omega, fun _ => hr.low, Go.Lib.bytesCells w e ⟨l.toArray⟩, e, ((Go.Lib.bytesCells w e ⟨l.toArray⟩).size, (Go.Lib.bytesCells w e ⟨l.toArray⟩).size + 1), by rw [hw]; simp, fun _ => .inr (Nat.le_refl _), hcs, fun i v hv => ?_⟩
  rw [Tr.get?_ofList] at hv
  obtain ⟨v', e1, e2⟩ := VRs.get (FH (ρ := ρ) l) hv
  have hi : i < l.length := by
   rcases Nat.lt_or_ge i l.length with c | c
   · exact c
   · rw [List.getElem?_eq_none (by simpa using c)] at e1; cases e1
  refine ⟨v', ?_, e2.mono (Ren.sub_upd _ hb)⟩
  show (Go.Lib.bytesCells w e ⟨l.toArray⟩)[0 + i]? = some v'
  rw [Nat.zero_add, Go.Lib.bytesCells, Array.getElem?_append_left (by simpa using hi), ← e1]
  simp)
 refine ⟨_, _, _, hrun, ⟨⟨w.heap.size, 0, grownCap w l.length 0 e, 1⟩, grownCap w l.length 0 e, 0, Ren.upd_same _ _ _, rfl, hge, fun _ => rfl, ?_⟩, f1, f2⟩
 show 0 + 0 + grownCap w l.length 0 e * 1 ≤ grownCap w l.length 0 e
 omega
end
end
noncomputable section
def HI : Option Nat → Option Nat → Bool
 | none, none => true
 | some x, some y => Nat.beq x y
 | _, _ => false
theorem HH {a b : Option Nat} (h : HI a b = true) : a = b := by
 cases a <;> cases b <;> simp only [HI] at h <;> first | rfl | cases h | rw [Nat.eq_of_beq_eq_true h]
mutual
def AV.beq : AV → AV → Bool
 | .bool a, .bool b => HQ a b
 | .int k a, .int k' b => cond (bH k k') (ieq a b) false
 | .str a, .str b => kW a b
 | .nilp, .nilp => true
 | .ptr a b, .ptr c d => cond (Nat.beq a c) (Nat.beq b d) false
 | .nilsl, .nilsl => true
 | .sl a b c d, .sl e f g h => cond (Nat.beq a e) (cond (Nat.beq b f) (cond (Nat.beq c g) (HI d h) false) false) false
 | .nilmap, .nilmap => true
 | .map a, .map b => Nat.beq a b
 | .nilfn, .nilfn => true
 | .fn a b c, .fn d e f => cond (Nat.beq a d) (cond (AV.beqs b e) (AV.beqs c f) false) false
 | .nilif, .nilif => true
 | .iface a b, .iface c d => cond (Nat.beq a c) (AV.beq b d) false
 | .agg a, .agg b => AV.beqs a b
 | .tup a, .tup b => AV.beqs a b
 | _, _ => false
def AV.beqs : List AV → List AV → Bool
 | [], [] => true
 | a :: r, b :: s => cond (AV.beq a b) (AV.beqs r s) false
 | _, _ => false
end
theorem bn {a b : Bool} (h : cond a b false = true) : a = true ∧ b = true := by cases a <;> simp_all
mutual
theorem AV.beq_eq : ∀ {a b : AV}, AV.beq a b = true → a = b
 | .bool a, b, h => by cases b <;> simp only [AV.beq] at h <;> (try cases h); rw [fT] at h; simp at h; rw [h]
 | .int k a, b, h => by
  cases b <;> simp only [AV.beq] at h <;> (try cases h)
  obtain ⟨h1, h2⟩ := bn h
  rw [cD] at h2
  rw [dI h1, of_decide_eq_true h2]
 | .str a, b, h => by
  cases b <;> simp only [AV.beq] at h <;> (try cases h)
  rw [dF] at h
  rw [of_decide_eq_true h]
 | .nilp, b, h => by cases b <;> simp only [AV.beq] at h <;> first | rfl | cases h
 | .ptr x y, b, h => by
  cases b <;> simp only [AV.beq] at h <;> (try cases h)
  obtain ⟨h1, h2⟩ := bn h
  rw [Nat.eq_of_beq_eq_true h1, Nat.eq_of_beq_eq_true h2]
 | .nilsl, b, h => by cases b <;> simp only [AV.beq] at h <;> first | rfl | cases h
 | .sl x y z c, b, h => by
  cases b <;> simp only [AV.beq] at h <;> (try cases h)
  obtain ⟨h1, h2⟩ := bn h
  obtain ⟨h2, h3⟩ := bn h2
  obtain ⟨h3, h4⟩ := bn h3
  rw [Nat.eq_of_beq_eq_true h1, Nat.eq_of_beq_eq_true h2, Nat.eq_of_beq_eq_true h3, HH h4]
 | .nilmap, b, h => by cases b <;> simp only [AV.beq] at h <;> first | rfl | cases h
 | .map x, b, h => by cases b <;> simp only [AV.beq] at h <;> (try cases h); rw [Nat.eq_of_beq_eq_true h]
 | .nilfn, b, h => by cases b <;> simp only [AV.beq] at h <;> first | rfl | cases h
 | .fn x y z, b, h => by
  cases b <;> simp only [AV.beq] at h <;> (try cases h)
  obtain ⟨h1, h2⟩ := bn h
  obtain ⟨h2, h3⟩ := bn h2
  rw [Nat.eq_of_beq_eq_true h1, AV.beqs_eq h2, AV.beqs_eq h3]
 | .nilif, b, h => by cases b <;> simp only [AV.beq] at h <;> first | rfl | cases h
 | .iface x y, b, h => by
  cases b <;> simp only [AV.beq] at h <;> (try cases h)
  obtain ⟨h1, h2⟩ := bn h
  rw [Nat.eq_of_beq_eq_true h1, AV.beq_eq h2]
 | .agg x, b, h => by cases b <;> simp only [AV.beq] at h <;> (try cases h); rw [AV.beqs_eq h]
 | .tup x, b, h => by cases b <;> simp only [AV.beq] at h <;> (try cases h); rw [AV.beqs_eq h]
theorem AV.beqs_eq : ∀ {a b : List AV}, AV.beqs a b = true → a = b
 | [], b, h => by cases b <;> simp only [AV.beqs] at h <;> first | rfl | cases h
 | x :: r, b, h => by
  cases b <;> simp only [AV.beqs] at h <;> (try cases h)
  obtain ⟨h1, h2⟩ := bn h
  rw [AV.beq_eq h1, AV.beqs_eq h2]
end
def mQ : AV → Bool
 | .bool _ | .int _ _ | .str _ => true
 | _ => false
def qK : List AV → Bool
 | [] => true
 | x :: r => cond (mQ x) (qK r) false
def qL : AV → Bool
 | .agg l => qK l
 | x => mQ x
section
variable {P : Program} {base : Nat} {ρ : Ren} {H : AHeap} {w : World}
theorem fK {x : AV} {a b : Value} (h : mQ x = true) (ha : VR ρ x a) (hb : VR ρ x b) : a = b ∧ ∀ n, Instr.sameBits n a b = true := by
 cases x <;> simp [mQ] at h <;> obtain rfl := ha <;> obtain rfl := hb <;> exact ⟨rfl, fun n => by cases n <;> simp [Instr.sameBits, qw, dF]⟩
theorem mP : ∀ {l : List AV} {a b : List Value}, qK l = true → VRs ρ l a → VRs ρ l b → a = b ∧ ∀ n, ((a.zip b).all fun (x, y) => Instr.sameBits n x y) = true
 | [], _, _, _, rfl, rfl => ⟨rfl, fun n => rfl⟩
 | x :: r, _, _, h, ⟨y, s, e1, h1, h2⟩, ⟨y', s', e2, h3, h4⟩ => by
  subst e1; subst e2
  simp only [qK] at h
  obtain ⟨p1, p2⟩ := bn h
  obtain ⟨q1, q2⟩ := fK p1 h1 h3
  obtain ⟨r1, r2⟩ := mP p2 h2 h4
  exact ⟨by rw [q1, r1], fun n => by simp only [List.zip_cons_cons, List.all_cons, q2 n, Bool.true_and]; exact r2 n⟩
theorem wY {x : AV} {a b : Value} (h : qL x = true) (ha : VR ρ x a) (hb : VR ρ x b) (n : Nat) : Instr.sameBits (n + 1) a b = true := by
 cases x
 case agg l =>
  obtain ⟨l1, rfl, h1⟩ := ha; obtain ⟨l2, rfl, h2⟩ := hb
  obtain ⟨rfl, q⟩ := mP h h1 h2
  simp only [Instr.sameBits]
  simp only [Bool.and_eq_true]
  exact ⟨by simp, by simpa using q n⟩
 case bool b => exact (fK (x := .bool b) h ha hb).2 _
 case int k n => exact (fK (x := .int k n) h ha hb).2 _
 case str l => exact (fK (x := .str l) h ha hb).2 _
 all_goals simp [qL, mQ] at h
mutual
def eL : EqK → AV → Bool
 | .struct fs, .agg xs => xr fs xs
 | .struct _, _ => false
 | .bool, _ | .int, _ | .str, _ | .ptr, _ => true
 | _, _ => false
def xr : List (Nat × Option Nat × EqK) → List AV → Bool
 | [], _ => true
 | (off, sz, k) :: r, xs => match fm xs off sz with
  | some a => cond (eL k a) (xr r xs) false
  | none => false
end
theorem ew {e : Bool} : ∀ {d : Nat} {t : TypeId} {k : EqK} {a : AV} {a' : Value}, eqK P d t = some k → eL k a = true → VR ρ a a' → ∀ n, d ≤ n → (Instr.checkKey e n t a').run P w = .ok () w := by
 intro d
 induction d with
 | zero => intro t k a a' hk; cases hk
 | succ d ih =>
  intro t k a a' hk h ha n hn
  obtain ⟨n, rfl⟩ : ∃ m, n = m + 1 := ⟨n - 1, by omega⟩
  simp only [eqK] at hk
  cases hu : P.underlying t with
  | none => rw [hu] at hk; cases hk
  | some D =>
   rw [hu] at hk
   unfold Instr.checkKey
   rw [ag (an w hu)]
   cases D
   case bool => rfl
   case int => rfl
   case string => rfl
   case pointer => rfl
   case slice => cases hk; simp [eL] at h
   case map => cases hk; simp [eL] at h
   case func => cases hk; simp [eL] at h
   case interface => cases hk; simp [eL] at h
   case struct fs =>
    dsimp only at hk
    split at hk
    · cases hk
    · split at hk
      · rename_i l hl
        cases hk
        cases a <;> simp only [eL] at h <;> (try cases h)
        rename_i xs
        obtain ⟨xs', rfl, hxs⟩ := ha
        dsimp only
        rw [← Array.forIn_toList]
        generalize fs.toList = fl at hl
        clear hu
        have loop : (forIn fl PUnit.unit (fun (f : Field) (_ : PUnit) => (if f.name ≠ "_" then do
         let v ← part f.type xs'.toArray f.offset
         Instr.checkKey e n f.type v
         pure (ForInStep.yield PUnit.unit) else pure (ForInStep.yield PUnit.unit) : Sem (ForInStep PUnit)))).run P w = .ok () w := by
         induction fl generalizing l with
         | nil => rfl
         | cons f fl ih2 =>
          simp only [aD] at hl
          split at hl
          · cases hl
          · rename_i y hy
            split at hl
            · cases hl
            · rename_i l' hl'
              cases hl
              obtain ⟨off, sz, kf⟩ := y
              simp only [xr] at h
              split at hy
              · cases hy
              · rename_i hname
                cases hpa : fm xs off sz with
                | none => rw [hpa] at h; cases h
                | some av =>
                 rw [hpa] at h
                 obtain ⟨g1, g2⟩ := bn h
                 cases hkf : eqK P d f.type with
                 | none => rw [hkf] at hy; cases hy
                 | some kk =>
                  rw [hkf] at hy
                  dsimp only at hy
                  have hpt : ∃ b1, (part f.type xs'.toArray f.offset).run P w = .ok b1 w ∧ VR ρ av b1 ∧ kk = kf := by
                   cases huf : P.underlying f.type with
                   | none => rw [huf] at hy; cases hy
                   | some D =>
                    rw [huf] at hy
                    by_cases hstr : ∃ q, D = .struct q
                    · obtain ⟨q, rfl⟩ := hstr
                      cases hif : P.info? f.type with
                      | none => rw [hif] at hy; cases hy
                      | some i =>
                       rw [hif] at hy
                       cases hy
                       simp only [fm] at hpa
                       cases hpa
                       exact ⟨_, by rw [fe w (bJ w huf) hif, bU], ⟨_, rfl, VRs.extract hxs _ _⟩, rfl⟩
                    · by_cases harr : ∃ q e, D = .array q e
                      · obtain ⟨q, e, rfl⟩ := harr; cases hy
                      · have hy' : (f.offset, (none : Option Nat), kk) = (off, sz, kf) := by
                         cases D <;> first | exact Option.some.inj hy | exact absurd ⟨_, rfl⟩ hstr | exact absurd ⟨_, _, rfl⟩ harr
                        cases hy'
                        obtain ⟨a1, e1, r1⟩ := VRs.get hxs hpa
                        exact ⟨a1, gU w huf (fun q e => hstr ⟨q, e⟩) (fun q e c => harr ⟨q, e, c⟩) (by simpa using e1), r1, rfl⟩
                  obtain ⟨b1, p1, p2, rfl⟩ := hpt
                  have hnm : (f.name ≠ "_") = True := by simp [hname]
                  rw [List.forIn_cons]
                  simp only [hnm, if_true, Sem.run_bind, p1, Result.andThen_ok, ih hkf g1 p2 n (by omega), Sem.run_pure]
                  exact ih2 _ g2 hl'
        rw [ag loop]; rfl
      · cases hk
   all_goals cases hk
def gn (k : EqK) (key : AV) : List (AV × AV × Nat) → Nat → Option (Option (Nat × AV × AV))
 | [], _ => some none
 | (kk, v, _) :: r, i => match eqv k key kk with
  | some true => some (some (i, kk, v))
  | some false => gn k key r (Nat.succ i)
  | none => none
def FR (ρ : Ren) (es : List MapEntry) : Option (Nat × AV × AV) → Option (Nat × Value) → Prop
 | none, r => r = none
 | some (i, kk, v), r => ∃ e, es[i]? = some e ∧ VR ρ kk e.key ∧ VR ρ v e.val ∧ r = some (i, e.val)
theorem xB {d : Nat} {t : TypeId} {D : TypeDesc} {k : EqK} {key : AV} {key' : Value} (hk : eqK P d t = some k) (hd : d ≤ 10000) (hD : P.underlying t = some D) (hkey : VR ρ key key') (all : List MapEntry) :
 ∀ {es : List (AV × AV × Nat)} {es' : List MapEntry} {i : Nat} {r : Option (Nat × AV × AV)}, (∀ j, all[i + j]? = es'[j]?) → ER ρ es es' → gn k key es i = some r →
  ∃ r', (Instr.findAsking t key' es' i).run P w = .ok r' w ∧ FR ρ all r r' ∧ ∀ q, Instr.findNow D key' es' i = some q → q = r' := by
 intro es
 induction es with
 | nil =>
  intro es' i r hall he h
  obtain rfl := he
  cases h
  exact ⟨none, rfl, rfl, fun q hq => by cases hq; rfl⟩
 | cons x es ih =>
  intro es' i r hall he h
  obtain ⟨kk, v, s⟩ := x
  obtain ⟨e, m, rfl, h1, h2, h3, h4⟩ := he
  simp only [gn] at h
  cases hq : eqv k key kk with
  | none => rw [hq] at h; cases h
  | some b =>
   rw [hq] at h
   have hrun := qt (w := w) hk hq hkey h1 10000 hd
   have hrun' : (Op.equal t key' e.key).run P w = .ok b w := hrun
   have hnow : ∀ c, Instr.sameNow D key' e.key = some c → c = b := by
    intro c hc
    unfold Op.equalIn at hrun
    rw [ag (an w hD)] at hrun
    revert hc hrun
    generalize e.key = ek
    intro hc hrun
    unfold Instr.sameNow at hc
    split at hc
    · rename_i k1 a1 k2 a2
      by_cases ck : k1 = k2
      · rw [if_pos ck] at hc; cases hc
        simp only [if_pos ck] at hrun
        simpa [Sem.run] using hrun
      · rw [if_neg ck] at hc; cases hc
    · cases hc; simpa [Sem.run] using hrun
    · cases hc; simpa [Sem.run] using hrun
    · cases hc
   cases b with
   | true =>
    cases h
    refine ⟨some (i, e.val), ?_, ⟨e, by simpa using hall 0, h1, h2, rfl⟩, fun q hq' => ?_⟩
    · simp only [Instr.findAsking]; rw [ag hrun']; rfl
    · simp only [Instr.findNow] at hq'
      cases hs : Instr.sameNow D key' e.key with
      | none => rw [hs] at hq'; cases hq'
      | some c => rw [hs] at hq'; have := hnow c hs; subst this; cases hq'; rfl
   | false =>
    dsimp only at h
    obtain ⟨r', g1, g2, g3⟩ := ih (es' := m) (i := i + 1) (r := r) (fun j => by have := hall (j + 1); rw [show i + 1 + j = i + (j + 1) by omega]; simpa using this) h4 h
    refine ⟨r', ?_, g2, fun q hq' => ?_⟩
    · simp only [Instr.findAsking]; rw [ag hrun']; exact g1
    · simp only [Instr.findNow] at hq'
      cases hs : Instr.sameNow D key' e.key with
      | none => rw [hs] at hq'; cases hq'
      | some c => rw [hs] at hq'; have := hnow c hs; subst this; exact g3 q hq'
theorem fa {d : Nat} {t : TypeId} {k : EqK} {key : AV} {key' : Value} (hk : eqK P d t = some k) (hd : d ≤ 10000) (hkey : VR ρ key key') {es : List (AV × AV × Nat)} {es' : List MapEntry} {r : Option (Nat × AV × AV)}
 (he : ER ρ es es') (h : gn k key es 0 = some r) : ∃ r', (Instr.findKey t key' es').run P w = .ok r' w ∧ FR ρ es' r r' := by
 have hD : ∃ D, P.underlying t = some D := by
  cases d with
  | zero => cases hk
  | succ d => simp only [eqK] at hk; cases hu : P.underlying t with
   | none => rw [hu] at hk; cases hk
   | some D => exact ⟨D, rfl⟩
 obtain ⟨D, hD⟩ := hD
 obtain ⟨r', g1, g2, g3⟩ := xB (w := w) hk hd hD hkey es' (fun j => by rw [Nat.zero_add]) he h
 refine ⟨r', ?_, g2⟩
 unfold Instr.findKey
 rw [ag (an w hD)]
 cases hn : Instr.findNow D key' es' 0 with
 | none => exact g1
 | some q => rw [g3 q hn]; rfl
def gm (k : EqK) (zero : AV) (ok : Bool) (H : AHeap) (m key : AV) : Option AV :=
 cond (eL k key) (match m with
  | .nilmap => some (cond ok (.tup [zero, .bool false]) zero)
  | .map b => match H.get b with
   | some (.map es _) => match gn k key es 0 with
    | some (some (_, _, v)) => some (cond ok (.tup [v, .bool true]) v)
    | some none => some (cond ok (.tup [zero, .bool false]) zero)
    | none => none
   | _ => none
  | _ => none) none
theorem wo {t kt et : TypeId} {d : Nat} {k : EqK} {zero m key v : AV} {z m' key' : Value} {i : TypeInfo} {ok : Bool} (hr : HR base ρ H w) (ht : P.underlying t = some (.map kt et)) (hk : eqK P d kt = some k) (hd : d ≤ 10000)
 (hi : P.info? et = some i) (hz : i.zero = some z) (hzr : VR ρ zero z) (h : gm k zero ok H m key = some v) (hm : VR ρ m m') (hkey : VR ρ key key') :
 ∃ v', (Instr.lookup t m' key' ok).run P w = .ok v' w ∧ VR ρ v v' := by
 unfold gm at h
 cases hko : eL k key with
 | false => rw [hko] at h; cases h
 | true =>
  rw [hko] at h
  simp only [cond_true] at h
  have hck : ∀ e, (Instr.checkKey e 10000 kt key').run P w = .ok () w := fun e => ew hk hko hkey 10000 hd
  unfold Instr.lookup
  rw [ag (an w ht)]
  have fin : ∀ (x : AV) (x' : Value) (b : Bool), VR ρ x x' → VR ρ (cond ok (.tup [x, .bool b]) x) (if ok then .tuple #[x', .bool b] else x') := by
   intro x x' b hx
   cases ok
   · exact hx
   · exact ⟨[x', .bool b], rfl, x', [.bool b], rfl, hx, .bool b, [], rfl, rfl, rfl⟩
  cases m <;> simp only at h <;> (try cases h)
  · obtain rfl := hm
    refine ⟨_, ?_, fin zero z false hzr⟩
    simp only [Sem.run_bind, Sem.run_pure, Result.andThen_ok, hck, Instr.findKey, Instr.findNow]
    cases hu : P.underlying kt with
    | none => cases d with
     | zero => cases hk
     | succ d => simp only [eqK] at hk; rw [hu] at hk; cases hk
    | some D => simp only [an w hu, Result.andThen_ok]; simp only [Sem.run_bind, Sem.run_pure, Result.andThen_ok, bk hi hz]
  · rename_i b
    obtain ⟨L, hb, rfl⟩ := hm
    cases hg : H.get b with
    | none => rw [hg] at h; cases h
    | some ob =>
     rw [hg] at h
     cases ob <;> simp only at h <;> (try cases h)
     rename_i es clock
     obtain ⟨_, _, es', h5, h6⟩ := hr.obj b L _ hb hg
     cases hf : gn k key es 0 with
     | none => rw [hf] at h; cases h
     | some r =>
      rw [hf] at h
      obtain ⟨r', g1, g2⟩ := fa (w := w) hk hd hkey h6 hf
      simp only [Sem.run_bind, bA h5, Sem.run_pure, Result.andThen_ok, hck, g1]
      cases r with
      | none =>
       obtain rfl := g2
       cases h
       exact ⟨_, by simp only [Sem.run_bind, bk hi hz, Result.andThen_ok, Sem.run_pure], fin zero z false hzr⟩
      | some x =>
       obtain ⟨j, kk, u⟩ := x
       obtain ⟨e, e1, e2, e3, rfl⟩ := g2
       cases h
       exact ⟨_, rfl, fin u e.val true e3⟩
def setVal (es : List (AV × AV × Nat)) (i : Nat) (v : AV) : List (AV × AV × Nat) := match es, i with
 | [], _ => []
 | (k, _, s) :: r, 0 => (k, v, s) :: r
 | x :: r, i + 1 => x :: setVal r i v
def kZ (k : EqK) (H : AHeap) (m key v : AV) : Option AHeap :=
 cond (eL k key) (match m with
  | .map b => match H.get b with
   | some (.map es clock) => match gn k key es 0 with
    | some (some (i, kk, _)) => cond (AV.beq kk key && qL key) (some (H.put b (.map (setVal es i v) clock))) none
    | some none => some (H.put b (.map (es ++ [(key, v, clock)]) (Nat.succ clock)))
    | none => none
   | _ => none
  | _ => none) none
theorem ER.append {a b : List (AV × AV × Nat)} : ∀ {l m : List MapEntry}, ER ρ a l → ER ρ b m → ER ρ (a ++ b) (l ++ m) := by
 induction a with
 | nil => intro l m h1 h2; obtain rfl := h1; exact h2
 | cons x a ih =>
  intro l m h1 h2
  obtain ⟨k, v, s⟩ := x
  obtain ⟨e, r, rfl, q1, q2, q3, q4⟩ := h1
  exact ⟨e, r ++ m, rfl, q1, q2, q3, ih q4 h2⟩
theorem ER.get {a : List (AV × AV × Nat)} : ∀ {l : List MapEntry} {i : Nat} {k v : AV} {s : Nat}, ER ρ a l → a[i]? = some (k, v, s) → ∃ e, l[i]? = some e ∧ VR ρ k e.key ∧ VR ρ v e.val ∧ e.born = s := by
 induction a with
 | nil => intro l i k v s _ h; simp at h
 | cons x a ih =>
  intro l i k v s h1 h
  obtain ⟨k0, v0, s0⟩ := x
  obtain ⟨e, r, rfl, q1, q2, q3, q4⟩ := h1
  cases i with
  | zero => simp at h; obtain ⟨rfl, rfl, rfl⟩ := h; exact ⟨e, rfl, q1, q2, q3⟩
  | succ i => simpa using ih q4 (by simpa using h)
theorem ER.setVal {a : List (AV × AV × Nat)} : ∀ {l : List MapEntry} {i : Nat} {v : AV} {v' : Value} {f : MapEntry → MapEntry}, ER ρ a l → VR ρ v v' → (∀ e, l[i]? = some e → f e = { e with key := e.key, val := v' } ∨ ∃ k0, f e = { e with key := k0, val := v' } ∧ ∀ k, VR ρ k e.key → a[i]?.map (·.1) = some k → VR ρ k k0) →
 ER ρ (Ab.setVal a i v) (l.modify i f) := by
 induction a with
 | nil => intro l i v v' f h _ _; obtain rfl := h; cases i <;> rfl
 | cons x a ih =>
  intro l i v v' f h1 hv hf
  obtain ⟨k0, v0, s0⟩ := x
  obtain ⟨e, r, rfl, q1, q2, q3, q4⟩ := h1
  cases i with
  | zero =>
   refine ⟨f e, r, by simp, ?_, ?_, ?_, q4⟩
   · rcases hf e rfl with h | ⟨k1, h, hk⟩
     · rw [h]; exact q1
     · rw [h]; exact hk k0 q1 rfl
   · rcases hf e rfl with h | ⟨k1, h, _⟩ <;> rw [h] <;> exact hv
   · rcases hf e rfl with h | ⟨k1, h, _⟩ <;> rw [h] <;> exact q3
  | succ i =>
   refine ⟨e, r.modify i f, by simp, q1, q2, q3, ih q4 hv fun e' he' => ?_⟩
   simpa using hf e' (by simpa using he')
theorem FF {k : EqK} {key : AV} : ∀ {es : List (AV × AV × Nat)} {i j : Nat} {kk v : AV}, gn k key es i = some (some (j, kk, v)) → i ≤ j ∧ ∃ s, es[j - i]? = some (kk, v, s) := by
 intro es
 induction es with
 | nil => intro i j kk v h; cases h
 | cons x es ih =>
  intro i j kk v h
  obtain ⟨k0, v0, s0⟩ := x
  simp only [gn] at h
  cases hq : eqv k key k0 with
  | none => rw [hq] at h; cases h
  | some b =>
   rw [hq] at h
   cases b with
   | true => cases h; exact ⟨Nat.le_refl _, s0, by simp⟩
   | false =>
    obtain ⟨h1, s, h2⟩ := ih h
    have h1' : i + 1 ≤ j := h1
    exact ⟨by omega, s, by rw [show j - i = (j - (i + 1)) + 1 by omega]; exact h2⟩
theorem ca {b : Nat} {es : Array MapEntry} {c : Nat} {o : Obj} (h : w.heap[b]? = some (.map es c)) : (setObj b o).run P w = .ok () (World.setBlk w b o) := by
 simp [setObj, Sem.run, h, World.setBlk]
theorem gM {b clock clock' : Nat} {L : Loc} {es es2 : List (AV × AV × Nat)} {es2' : List MapEntry} (hr : HR base ρ H w) (hb : ρ b = some L) (hg : H.get b = some (.map es clock)) (he : ER ρ es2 es2') :
 HR base ρ (H.put b (.map es2 clock')) (World.setBlk w L.blk (.map es2'.toArray clock')) ∧ Ext ρ H w ρ (H.put b (.map es2 clock')) (World.setBlk w L.blk (.map es2'.toArray clock')) := by
 obtain ⟨h1, h2, es', h5, h6⟩ := hr.obj b L _ hb hg
 exact hr.turn hb hg rfl ⟨h1, h2, es2', by rw [c8 (hr.dom b L hb).2, if_pos rfl], he⟩
theorem rI {t kt et : TypeId} {d : Nat} {k : EqK} {m key v : AV} {m' key' v' : Value} {H' : AHeap} (hr : HR base ρ H w) (ht : P.underlying t = some (.map kt et)) (hk : eqK P d kt = some k) (hd : d ≤ 10000)
 (h : kZ k H m key v = some H') (hm : VR ρ m m') (hkey : VR ρ key key') (hv : VR ρ v v') : j5 P base ρ H w (Instr.mapUpdate t m' key' v') H' (fun ρ' _ => ρ' = ρ) := by
 unfold kZ at h
 cases hko : eL k key with
 | false => rw [hko] at h; cases h
 | true =>
  rw [hko] at h
  simp only [cond_true] at h
  have hck : ∀ e, (Instr.checkKey e 10000 kt key').run P w = .ok () w := fun e => ew hk hko hkey 10000 hd
  cases m <;> simp only at h <;> (try cases h)
  rename_i b
  obtain ⟨L, hb, rfl⟩ := hm
  cases hg : H.get b with
  | none => rw [hg] at h; cases h
  | some ob =>
   rw [hg] at h
   cases ob <;> simp only at h <;> (try cases h)
   rename_i es clock
   obtain ⟨_, _, es', h5, h6⟩ := hr.obj b L _ hb hg
   cases hf : gn k key es 0 with
   | none => rw [hf] at h; cases h
   | some r =>
    rw [hf] at h
    obtain ⟨r', g1, g2⟩ := fa (w := w) hk hd hkey h6 hf
    cases r with
    | none =>
     obtain rfl := g2
     cases h
     have he : ER ρ (es ++ [(key, v, clock)]) (es' ++ [{ key := key', val := v', born := clock }]) := ER.append h6 ⟨_, [], rfl, hkey, hv, rfl, rfl⟩
     obtain ⟨f1, f2⟩ := gM hr hb hg he (clock' := Nat.succ clock)
     refine ⟨(), _, ρ, ?_, rfl, f1, f2⟩
     unfold Instr.mapUpdate
     rw [ag (an w ht)]
     simp only [Sem.run_bind, bA h5, Result.andThen_ok, hck, g1, ca h5]
     congr 3
     simp
    | some x =>
     obtain ⟨i, kk, u⟩ := x
     obtain ⟨e, e1, e2, e3, rfl⟩ := g2
     dsimp only at h
     cases hq : (AV.beq kk key && qL key) with
     | false => rw [hq] at h; cases h
     | true =>
      rw [hq] at h; cases h
      simp only [Bool.and_eq_true] at hq
      obtain rfl := AV.beq_eq hq.1
      have hsame : Instr.sameBits 10000 e.key key' = true := wY hq.2 e2 hkey 9999
      have hi : es'.toArray[i]? = some e := by simpa using e1
      have he : ER ρ (Ab.setVal es i v) (es'.modify i fun e => { e with key := key', val := v' }) := by
       refine ER.setVal h6 hv fun e' he' => .inr ⟨key', rfl, fun k1 hk1 hk2 => ?_⟩
       obtain ⟨_, s, hs⟩ := FF hf
       rw [Nat.sub_zero] at hs
       rw [hs] at hk2
       cases hk2
       exact hkey
      obtain ⟨f1, f2⟩ := gM hr hb hg he (clock' := clock)
      refine ⟨(), _, ρ, ?_, rfl, f1, f2⟩
      unfold Instr.mapUpdate
      rw [ag (an w ht)]
      simp only [Sem.run_bind, bA h5, Result.andThen_ok, hck, g1, hi, Option.map_some, Option.getD_some, Instr.keyThatStays, hsame, if_true, Sem.run_pure, ca h5]
      congr 3
      simp
def dropAt (es : List (AV × AV × Nat)) (i : Nat) : List (AV × AV × Nat) := match es, i with
 | [], _ => []
 | _ :: r, 0 => r
 | x :: r, i + 1 => x :: dropAt r i
theorem ER.dropAt {a : List (AV × AV × Nat)} : ∀ {l : List MapEntry} {i : Nat}, ER ρ a l → ER ρ (Ab.dropAt a i) (l.eraseIdx i) := by
 induction a with
 | nil => intro l i h; obtain rfl := h; rfl
 | cons x a ih =>
  intro l i h1
  obtain ⟨k0, v0, s0⟩ := x
  obtain ⟨e, r, rfl, q1, q2, q3, q4⟩ := h1
  cases i with
  | zero => exact q4
  | succ i => exact ⟨e, r.eraseIdx i, rfl, q1, q2, q3, ih q4⟩
def i7 (k : EqK) (H : AHeap) (m key : AV) : Option AHeap :=
 cond (eL k key) (match m with
  | .nilmap => some H
  | .map b => match H.get b with
   | some (.map es clock) => match gn k key es 0 with
    | some (some (i, _, _)) => some (H.put b (.map (dropAt es i) clock))
    | some none => some (H.put b (.map es clock))
    | none => none
   | _ => none
  | _ => none) none
theorem pG {t kt et ty : TypeId} {d : Nat} {k : EqK} {m key : AV} {m' key' : Value} {H' : AHeap} (hr : HR base ρ H w) (ht : P.underlying t = some (.map kt et)) (hk : eqK P d kt = some k) (hd : d ≤ 10000) (ts : TypeId)
 (h : i7 k H m key = some H') (hm : VR ρ m m') (hkey : VR ρ key key') : j5 P base ρ H w (Builtin.delete_ #[t, ts] ty #[m', key']) H' (fun ρ' r => ρ' = ρ ∧ r = .tuple #[]) := by
 unfold i7 at h
 cases hko : eL k key with
 | false => rw [hko] at h; cases h
 | true =>
  rw [hko] at h
  simp only [cond_true] at h
  have hck : ∀ e, (Instr.checkKey e 10000 kt key').run P w = .ok () w := fun e => ew hk hko hkey 10000 hd
  cases m <;> simp only at h <;> (try cases h)
  · obtain rfl := hm
    refine ⟨_, w, ρ, ?_, ⟨rfl, rfl⟩, hr, Ext.refl _ _ _⟩
    simp [Builtin.delete_, run_underlying ht, hck]
  · rename_i b
    obtain ⟨L, hb, rfl⟩ := hm
    cases hg : H.get b with
    | none => rw [hg] at h; cases h
    | some ob =>
     rw [hg] at h
     cases ob <;> simp only at h <;> (try cases h)
     rename_i es clock
     obtain ⟨_, _, es', h5, h6⟩ := hr.obj b L _ hb hg
     cases hf : gn k key es 0 with
     | none => rw [hf] at h; cases h
     | some r =>
      rw [hf] at h
      obtain ⟨r', g1, g2⟩ := fa (w := w) hk hd hkey h6 hf
      cases r with
      | none =>
       obtain rfl := g2
       cases h
       obtain ⟨f1, f2⟩ := gM hr hb hg h6 (clock' := clock)
       refine ⟨_, _, ρ, ?_, ⟨rfl, rfl⟩, f1, f2⟩
       simp only [Builtin.delete_, List.getElem?_toArray, List.getElem?_cons_zero, List.getElem?_cons_succ]
       rw [ag (an w ht)]
       simp only [Sem.run_bind, bA h5, Result.andThen_ok, hck, g1, ca h5, Sem.run_pure]
      | some x =>
       obtain ⟨i, kk, u⟩ := x
       obtain ⟨e, e1, e2, e3, rfl⟩ := g2
       cases h
       obtain ⟨f1, f2⟩ := gM hr hb hg (h6.dropAt (i := i)) (clock' := clock)
       refine ⟨_, _, ρ, ?_, ⟨rfl, rfl⟩, f1, f2⟩
       simp only [Builtin.delete_, List.getElem?_toArray, List.getElem?_cons_zero, List.getElem?_cons_succ]
       rw [ag (an w ht)]
       simp only [Sem.run_bind, bA h5, Result.andThen_ok, hck, g1, ca h5, Sem.run_pure]
       congr 3
       apply Array.ext'
       simp [Array.eraseIdxIfInBounds]
       split
       · simp
       · rw [List.eraseIdx_of_length_le (by omega)]
def jR (H : AHeap) (x : AV) : Option AHeap := match x with
 | .nilmap => some H
 | .map b => match H.get b with
  | some (.map _ clock) => some (H.put b (.map [] clock))
  | _ => none
 | _ => none
def fU (zs : List AV) (H : AHeap) (x : AV) : Option AHeap := match x with
 | .nilsl => some H
 | .sl b o n _ => cond (Nat.beq n 0) (some H) (match H.get b with
  | some (.cells false esz nb t) => cond (aI zs) (match t.wrN o (List.replicate n zs).flatten with
   | some t' => some (H.put b (.cells false esz nb t'))
   | none => none) none
  | _ => none)
 | _ => none
theorem gk {zs : List AV} (h : aI zs = true) : ∀ n, aI (List.replicate n zs).flatten = true
 | 0 => rfl
 | n + 1 => by
  rw [List.replicate_succ, List.flatten_cons]
  have : ∀ (l m : List AV), aI l = true → aI m = true → aI (l ++ m) = true := by
   intro l
   induction l with
   | nil => intro m _ hm; exact hm
   | cons x l ih =>
    intro m hl hm
    simp only [aI] at hl
    obtain ⟨q1, q2⟩ := bn hl
    show cond (bL x) (aI (l ++ m)) false = true
    rw [q1]; exact ih m q2 hm
  exact this _ _ h (gk h n)
theorem pK {t kt et ty : TypeId} {x : AV} {x' : Value} {H' : AHeap} (hr : HR base ρ H w) (ht : P.underlying t = some (.map kt et)) (h : jR H x = some H') (hx : VR ρ x x') :
 j5 P base ρ H w (Builtin.clear_ #[t] ty #[x']) H' (fun ρ' r => ρ' = ρ ∧ r = .tuple #[]) := by
 cases x <;> simp only [jR] at h <;> (try cases h)
 · obtain rfl := hx
   refine ⟨_, w, ρ, ?_, ⟨rfl, rfl⟩, hr, Ext.refl _ _ _⟩
   simp [Builtin.clear_, run_underlying ht]
 · rename_i b
   obtain ⟨L, hb, rfl⟩ := hx
   cases hg : H.get b with
   | none => rw [hg] at h; cases h
   | some ob =>
    rw [hg] at h
    cases ob <;> simp only at h <;> (try cases h)
    rename_i es clock
    obtain ⟨_, _, es', h5, h6⟩ := hr.obj b L _ hb hg
    obtain ⟨f1, f2⟩ := gM hr hb hg (es2 := []) (es2' := []) rfl (clock' := clock)
    refine ⟨_, _, ρ, ?_, ⟨rfl, rfl⟩, f1, f2⟩
    simp only [Builtin.clear_, List.getElem?_toArray, List.getElem?_cons_zero]
    rw [ag (an w ht)]
    simp only [Sem.run_bind, bA h5, Result.andThen_ok, ca h5, Sem.run_pure]
theorem kp (z : Array Value) (n : Nat) : (Builtin.zeroCells z n).toList = (List.replicate n z.toList).flatten := fF z n
theorem pJ {t e ty : TypeId} {x : AV} {x' z : Value} {i : TypeInfo} {zs : List AV} {H' : AHeap} (hr : HR base ρ H w) (ht : P.underlying t = some (.slice e)) (hi : P.info? e = some i) (hz : i.zero = some z) (hzs : VRs ρ zs z.cells.toList)
 (h : fU zs H x = some H') (hx : VR ρ x x') :
 j5 P base ρ H w (Builtin.clear_ #[t] ty #[x']) H' (fun ρ' r => ρ' = ρ ∧ r = .tuple #[]) := by
 cases x <;> simp only [fU] at h <;> (try cases h)
 · obtain rfl := hx
   refine ⟨_, w, ρ, ?_, ⟨rfl, rfl⟩, hr, Ext.refl _ _ _⟩
   simp [Builtin.clear_, run_underlying ht]
 · rename_i b o n cap
   obtain ⟨L, c, o', hb, rfl, hlc, ho, _⟩ := hx
   cases n with
   | zero =>
    cases h
    refine ⟨_, w, ρ, ?_, ⟨rfl, rfl⟩, hr, Ext.refl _ _ _⟩
    simp [Builtin.clear_, run_underlying ht]
   | succ n =>
    rw [show Nat.beq (n + 1) 0 = false from rfl] at h
    simp only [cond_false] at h
    cases hg : H.get b with
    | none => rw [hg] at h; cases h
    | some ob =>
     rw [hg] at h
     cases ob <;> (try simp only at h) <;> (try cases h)
     rename_i ro esz nb t0
     cases ro with
     | true => cases h
     | false =>
      dsimp only at h
      cases hsc : aI zs with
      | false => rw [hsc] at h; cases h
      | true =>
       rw [hsc] at h
       simp only [cond_true] at h
       cases hwr : t0.wrN o (List.replicate (n + 1) zs).flatten with
       | none => rw [hwr] at h; cases h
       | some t' =>
        rw [hwr] at h; cases h
        obtain ⟨r, w', ρ', e1, e2, e3, e4⟩ := eD (P := P) hr hb hg (eQ hzs (n + 1)) (gk hsc _) hwr
        have ho' := ho (by omega)
        subst ho'
        refine ⟨_, w', ρ', ?_, ⟨e2, rfl⟩, e3, e4⟩
        simp only [Builtin.clear_, List.getElem?_toArray, List.getElem?_cons_zero]
        rw [ag (an w ht)]
        simp only [Sem.run_bind, bk hi hz, Result.andThen_ok, kp, e1, Sem.run_pure]
def E8 (esz : Nat) (H : AHeap) (d s : AV) : Option (AV × AHeap) :=
 match rE esz H s with
 | none => none
 | some (m, f) => match d with
  | .nilsl => match f 0 with
   | some _ => some (.int .i64 0, H)
   | none => none
  | .sl b o len _ => match f (Nat.min m len) with
   | none => none
   | some l => cond (Nat.beq (Nat.min m len) 0) (some (.int .i64 0, H)) (match H.get b with
    | some (.cells false e nb t) => cond (aI l) (match t.wrN o l with
     | some t' => some (.int .i64 (.ofNat (Nat.min m len)), H.put b (.cells false e nb t'))
     | none => none) none
    | _ => none)
  | _ => none
theorem wx {t u e ty : TypeId} {i : TypeInfo} {d s v : AV} {d' s' : Value} {H' : AHeap} (hr : HR base ρ H w) (ht : P.underlying t = some (.slice e)) (hi : P.info? e = some i)
 (h : E8 i.size H d s = some (v, H')) (hd : VR ρ d d') (hs : VR ρ s s') : j5 P base ρ H w (Builtin.copy_ #[t, u] ty #[d', s']) H' (fun ρ' r => ρ' = ρ ∧ VR ρ' v r) := by
 unfold E8 at h
 cases hsrc : rE i.size H s with
 | none => rw [hsrc] at h; cases h
 | some mf =>
  obtain ⟨m, f⟩ := mf
  rw [hsrc] at h
  dsimp only at h
  cases d <;> simp only at h <;> (try cases h)
  · obtain rfl := hd
    cases hf : f 0 with
    | none => rw [hf] at h; cases h
    | some l =>
     rw [hf] at h; cases h
     obtain ⟨hlen, l', hn1, hn2, hn3⟩ := cZ (P := P) hr hs hsrc hf (Nat.zero_le _)
     refine ⟨goInt 0, w, ρ, ?_, ⟨rfl, rfl⟩, hr, Ext.refl _ _ _⟩
     simp only [Builtin.copy_, List.getElem?_toArray, List.getElem?_cons_zero, List.getElem?_cons_succ]
     rw [ag (an w ht)]
     have e0 : Nat.min m 0 = 0 := Nat.min_zero _
     simp only [Sem.run_bind, hlen, Result.andThen_ok, aP w hi, e0, hn3 w rfl, Sem.run_pure]
     rfl
  · rename_i b o len cap
    obtain ⟨L, c, o', hb, rfl, hlc, ho, _⟩ := hd
    cases hf : f (Nat.min m len) with
    | none => rw [hf] at h; cases h
    | some l =>
     rw [hf] at h
     dsimp only at h
     obtain ⟨hlen, l', hn1, hn2, hn3⟩ := cZ (P := P) hr hs hsrc hf (Nat.min_le_left _ _)
     cases hz : Nat.beq (Nat.min m len) 0 with
     | true =>
      rw [hz] at h; cases h
      have hz' := Nat.eq_of_beq_eq_true hz
      have hl' : l' = [] := by
       have := hn1.length; rw [hn2, hz', Nat.zero_mul] at this; exact List.eq_nil_of_length_eq_zero this.symm
      subst hl'
      refine ⟨goInt (Nat.min m len : Nat), w, ρ, ?_, ⟨rfl, by rw [hz']; rfl⟩, hr, Ext.refl _ _ _⟩
      simp only [Builtin.copy_, List.getElem?_toArray, List.getElem?_cons_zero, List.getElem?_cons_succ]
      rw [ag (an w ht)]
      simp only [Sem.run_bind, hlen, Result.andThen_ok, aP w hi, hn3 w rfl, Sem.run_pure]
      rfl
     | false =>
      rw [hz] at h
      simp only [cond_false] at h
      have hz' : Nat.min m len ≠ 0 := Nat.ne_of_beq_eq_false hz
      have hmin : Nat.min m len ≤ len := Nat.min_le_right _ _
      cases hg : H.get b with
      | none => rw [hg] at h; cases h
      | some ob =>
       rw [hg] at h
       cases ob <;> (try simp only at h) <;> (try cases h)
       rename_i ro esz nb t0
       cases ro with
       | true => cases h
       | false =>
        dsimp only at h
        cases hsc : aI l with
        | false => rw [hsc] at h; cases h
        | true =>
         rw [hsc] at h
         simp only [cond_true] at h
         cases hwr : t0.wrN o l with
         | none => rw [hwr] at h; cases h
         | some t' =>
          rw [hwr] at h; cases h
          obtain ⟨r, w', ρ', e1, e2, e3, e4⟩ := eD (P := P) hr hb hg hn1 hsc hwr
          have ho' := ho (by omega)
          subst ho'
          refine ⟨goInt (Nat.min m len : Nat), w', ρ', ?_, ⟨e2, rfl⟩, e3, e4⟩
          simp only [Builtin.copy_, List.getElem?_toArray, List.getElem?_cons_zero, List.getElem?_cons_succ]
          rw [ag (an w ht)]
          simp only [Sem.run_bind, hlen, Result.andThen_ok, aP w hi, hn3 w rfl, e1, Sem.run_pure]
end
end
noncomputable section
inductive Opnd where
 | tmp (t : Nat)
 | con (v : AV)
 | glob (g : Nat)
 | fn (f : Nat)
def Opnd.ev (tm : Tr AV) : Opnd → AV
 | .tmp t => match tm.get? t with
  | some v => v
  | none => .undef
 | .con v => v
 | .glob g => .ptr g 0
 | .fn f => .fn f [] []
def qa : Value → Option AV
 | .bool b => some (.bool b)
 | .int k n => some (.int k n)
 | .string s => some (.str s.data.toList)
 | .pointer none => some .nilp
 | .slice none 0 0 => some .nilsl
 | .map none => some .nilmap
 | .nilFunc => some .nilfn
 | .nilIface => some .nilif
 | _ => none
theorem eJ {v : Value} {a : AV} (h : qa v = some a) (ρ : Ren) : VR ρ a v := by
 unfold qa at h
 split at h <;> first | (cases h; rfl) | cases h
def qQ (l : List Value) : Option (List AV) := aD qa l
theorem jr {l : List Value} {a : List AV} (h : qQ l = some a) (ρ : Ren) : VRs ρ a l := by
 obtain ⟨h1, h2⟩ := HV h
 refine VRs.of_get h1.symm fun i x hx => ?_
 have hi : i < l.length := by
  rw [h1]
  rcases Nat.lt_or_ge i a.length with c | c
  · exact c
  · rw [List.getElem?_eq_none c] at hx; cases hx
 obtain ⟨y, e1, e2⟩ := h2 i l[i] (List.getElem?_eq_getElem hi)
 rw [hx] at e1; cases e1
 exact ⟨l[i], List.getElem?_eq_getElem hi, eJ e2 ρ⟩
def aF (G : List Nat) : Operand → Option Opnd
 | .tmp t => some (.tmp t)
 | .const v => (qa v).map .con
 | .global g => if G.contains g then some (.glob g) else none
 | .func f => some (.fn f)
def iy (G : List Nat) : Option Operand → Option (Option Opnd)
 | none => some none
 | some x => (aF G x).map some
def TR (ρ : Ren) (tm : Tr AV) (a : Act) : Prop := tm.Full a.tmps.size ∧ ∀ t v, tm.get? t = some v → ∃ v', a.tmps[t]? = some v' ∧ VR ρ v v'
def Gl (G : List Nat) (ρ : Ren) : Prop := ∀ g, G.contains g = true → ∃ L, ρ g = some L ∧ L.blk = g ∧ L.off = 0
theorem Gl.mono {G : List Nat} {ρ ρ' : Ren} (h : Gl G ρ) (hs : Sub ρ ρ') : Gl G ρ' := fun g hg => let ⟨L, e, r⟩ := h g hg; ⟨L, hs _ _ e, r⟩
theorem TR.mono {ρ ρ' : Ren} {tm : Tr AV} {a : Act} (h : TR ρ tm a) (hs : Sub ρ ρ') : TR ρ' tm a := ⟨h.1, fun t v e => let ⟨v', e1, e2⟩ := h.2 t v e; ⟨v', e1, e2.mono hs⟩⟩
def EvR (ρ : Ren) (ev : Opnd → AV) (ea : Operand → Value) (G : List Nat) (x : Operand) : Prop := ∀ k, aF G x = some k → VR ρ (ev k) (ea x)
theorem EvR.of_TR {ρ : Ren} {tm : Tr AV} {a : Act} {G : List Nat} (h : TR ρ tm a) (hg : Gl G ρ) (x : Operand) : EvR ρ (·.ev tm) a.eval G x := by
 intro k hk
 cases x with
 | tmp t =>
  cases hk
  show VR ρ (match tm.get? t with | some v => v | none => .undef) (a.tmps.getD t undef)
  cases e : tm.get? t with
  | some v =>
   obtain ⟨v', e1, e2⟩ := h.2 t v e
   rw [Array.getD_eq_getD_getElem?, e1]; exact e2
  | none =>
   have : a.tmps[t]? = none := by
    apply Array.getElem?_eq_none
    rcases Nat.lt_or_ge t a.tmps.size with c | c
    · have := (h.1 t).2 c; rw [e] at this; cases this
    · exact c
   rw [Array.getD_eq_getD_getElem?, this]; exact ⟨[], rfl, rfl⟩
 | const v =>
  simp only [aF, Option.map_eq_some_iff] at hk
  obtain ⟨a', h1, rfl⟩ := hk
  exact eJ h1 ρ
 | global g =>
  simp only [aF] at hk
  split at hk
  · rename_i c
    cases hk
    obtain ⟨L, e, r1, r2⟩ := hg g c
    exact ⟨L, e, by rw [r1, r2]; rfl⟩
  · cases hk
 | func f => cases hk; exact ⟨[], [], rfl, rfl, rfl⟩
inductive KR where
 | mov (x : Opnd)
 | pick (c a b : Opnd)
 | build (zs : List AV) (parts : List (Nat × Nat × Opnd))
 | load (sz : Option Nat) (x : Opnd)
 | nilc (x : Opnd)
 | bin (op : BinOp) (x y : Opnd)
 | eq (neg : Bool) (k : EqK) (x y : Opnd)
 | un (op : UnOp) (x : Opnd)
 | conv (k : IntKind) (x : Opnd)
 | strs (x : Opnd)
 | mkif (t : Nat) (x : Opnd)
 | mkfn (f : Nat) (first caps : List Opnd)
 | slice (esz : Nat) (x : Opnd) (lo hi mx : Option Opnd)
 | sliceS (x : Opnd) (lo hi : Option Opnd)
 | sliceA (esz n : Nat) (x : Opnd) (lo hi mx : Option Opnd)
 | faddr (off : Nat) (x : Opnd)
 | iaddr (esz : Nat) (x i : Opnd)
 | iaddrA (esz n : Nat) (x i : Opnd)
 | idxS (x i : Opnd)
 | idxA (esz n : Nat) (sz : Option Nat) (x i : Opnd)
 | fld (off : Nat) (sz : Option Nat) (x : Opnd)
 | look (k : EqK) (zero : AV) (ok : Bool) (m key : Opnd)
 | ext (x : Opnd) (i : Nat)
 | len (k : LenK) (x : Opnd)
 | mm (big : Bool) (x y : Opnd)
inductive KN where
 | new (cs : List AV)
 | box (x : Opnd)
 | map
 | mksl (esz bytes : Nat) (zs : List AV) (l c : Opnd)
 | bsl (esz len : Nat) (zs : List AV) (parts : List (Nat × Nat × Opnd))
 | newb (t : Nat)
inductive KW where
 | store (sz : Nat) (a x : Opnd)
 | app (esz bytes : Nat) (s x : Opnd)
 | copy (esz : Nat) (d s : Opnd)
 | clearM (x : Opnd)
 | clearS (zs : List AV) (x : Opnd)
 | mapup (k : EqK) (m key v : Opnd)
 | delete (k : EqK) (m key : Opnd)
 | s2b (x : Opnd)
inductive KC where
 | fn (f : Nat) (args : List Opnd)
 | val (x : Opnd) (args : List Opnd)
 | inv (x : Opnd) (name : String) (args : List Opnd)
inductive KOp where
 | r (k : KR)
 | n (k : KN)
 | w (k : KW)
 | c (k : KC)
 | x
def bI (ev : Opnd → AV) : List (Nat × Nat × Opnd) → List (Nat × Nat × AV)
 | [] => []
 | (o, s, x) :: r => (o, s, ev x) :: bI ev r
def evs (ev : Opnd → AV) : List Opnd → List AV
 | [] => []
 | x :: r => ev x :: evs ev r
def au : Option (List AV) → Option AV
 | some l => some (.agg l)
 | none => none
def qF : AV → Option AV
 | .str l => some (.str l)
 | _ => none
def rdK (k : KR) (ev : Opnd → AV) (H : AHeap) : Option AV := match k with
 | .mov x => some (ev x)
 | .pick c a b => HW (ev c) (ev a) (ev b)
 | .build zs parts => au (aG zs (bI ev parts))
 | .load sz x => ah sz H (ev x)
 | .nilc x => af (ev x)
 | .bin op x y => aW op (ev x) (ev y)
 | .eq neg k x y => aEq neg k (ev x) (ev y)
 | .un op x => aUn op (ev x)
 | .conv k x => E9 k (ev x)
 | .strs x => qF (ev x)
 | .mkif t x => some (.iface t (ev x))
 | .mkfn f a b => some (.fn f (evs ev a) (evs ev b))
 | .slice esz x lo hi mx => bT esz H (ev x) (lo.map ev) (hi.map ev) (mx.map ev)
 | .sliceS x lo hi => cJ (ev x) (lo.map ev) (hi.map ev)
 | .sliceA esz n x lo hi mx => m9 esz n (ev x) (lo.map ev) (hi.map ev) (mx.map ev)
 | .faddr off x => rO off (ev x)
 | .iaddr esz x i => rK esz (ev x) (ev i)
 | .iaddrA esz n x i => ma esz n (ev x) (ev i)
 | .idxS x i => jQ (ev x) (ev i)
 | .idxA esz n sz x i => E7 esz n sz (ev x) (ev i)
 | .fld off sz x => rL off sz (ev x)
 | .look k z ok m key => gm k z ok H (ev m) (ev key)
 | .ext x i => MG (ev x) i
 | .len k x => aw k H (ev x)
 | .mm big x y => eP big (ev x) (ev y)
def nwK (k : KN) (ev : Opnd → AV) : Option (AObj × Mk) := match k with
 | .new cs => some (.cells false 0 cs.length (Tr.ofList cs), .ptr)
 | .box x => some (.cells false 0 (ev x).cells.length (Tr.ofList (ev x).cells), .ptr)
 | .map => some (.map [] 0, .map)
 | .mksl esz bytes zs l c => wm esz bytes zs (ev l) (ev c)
 | .bsl esz len zs parts => aM esz len zs (bI ev parts)
 | .newb t => some (.bld t false none, .ptr)
def cG : Option AHeap → Option (AV × AHeap)
 | some H => some (.undef, H)
 | none => none
def wrK (k : KW) (ev : Opnd → AV) (H : AHeap) : Option (AV × AHeap) := match k with
 | .store sz a x => cG (kY sz H (ev a) (ev x))
 | .app esz bytes s x => bz esz bytes H (ev s) (ev x)
 | .copy esz d s => E8 esz H (ev d) (ev s)
 | .clearM x => cG (jR H (ev x))
 | .clearS zs x => cG (fU zs H (ev x))
 | .mapup k m key v => cG (kZ k H (ev m) (ev key) (ev v))
 | .delete k m key => cG (i7 k H (ev m) (ev key))
 | .s2b x => MF H (ev x)
section
variable (P : Program)
def F7 (t : Nat) (name : String) : Option Nat :=
 match P.info? t, P.underlying t with
 | some i, some (.pointer _) => match i.methods.find? (·.name == name) with
  | some m => if m.path.isEmpty then (match m.func with
   | some (f, true) => some f
   | _ => none) else none
  | none => none
 | _, _ => none
def clK (k : KC) (ev : Opnd → AV) : Option (Nat × List AV) := match k with
 | .fn f args => some (f, evs ev args)
 | .val x args => match ev x with
  | .fn f a b => some (f, a ++ (evs ev args ++ b))
  | _ => none
 | .inv x name args => match ev x with
  | .iface t v => match F7 P t name with
   | some f => some (f, v :: evs ev args)
   | none => none
  | _ => none
def DO (i : TypeInfo) (zs : List AV) : Bool := match i.desc, zs with
 | .named n _, [.nilp, .nilsl] => n == "strings.Builder"
 | _, _ => false
def cX (t : Nat) : Option (TypeInfo × List AV) := do
 let i ← P.info? t
 let z ← i.zero
 let zs ← qQ z.cells.toList
 if z.cells.size = i.size then some (i, zs) else none
def eG (G : List Nat) (place : Nat → Option (Nat × Nat)) (parts : List (Nat × Operand)) : Option (List (Nat × Nat × Opnd)) :=
 aD (fun (p : Nat × Operand) => do
  let (o, s) ← place p.1
  let x ← aF G p.2
  some (o, s, x)) parts
def gP (fs : Array Field) : Option (List (Nat × Nat)) := aD (fun (f : Field) => (P.info? f.type).map fun i => (f.offset, i.size)) fs.toList
def lB (G : List Nat) (op : Op) : Option KR :=
 match op with
 | .move x | .assign x => do some (.mov (← aF G x))
 | .pick c a b => do some (.pick (← aF G c) (← aF G a) (← aF G b))
 | .build t parts => do
  let (_, zs) ← cX P t
  match P.underlying t with
  | some (.struct fs) => do
   let ps ← gP P fs
   some (.build zs (← eG G (ps[·]?) parts.toList))
  | some (.array _ e) => do
   let i ← P.info? e
   some (.build zs (← eG G (fun j => some (j * i.size, i.size)) parts.toList))
  | _ => none
 | .load t x => do some (.load (← cL P t) (← aF G x))
 | .nilCheck x => do some (.nilc (← aF G x))
 | .binOp op t x y _ => do
  let a ← aF G x
  let b ← aF G y
  if op = .eql ∨ op = .neq then
   match P.underlying t with
   | some (.int _) | some .string => some (.bin op a b)
   | _ => do
    let k ← eqK P 20 t
    if dT P t k x y then some (.eq (decide (op = .neq)) k a b) else none
  else some (.bin op a b)
 | .unOp op _ x => do some (.un op (← aF G x))
 | .convert s d x => do
  let a ← aF G x
  match P.underlying s, P.underlying d with
  | some _, some (.int k) => some (.conv k a)
  | some _, some .string => some (.strs a)
  | _, _ => none
 | .makeInterface t x => do
  let a ← aF G x
  if P.concrete t then some (.mkif t a) else none
 | .makeFunc (.func f) first caps => do some (.mkfn f (← aD (aF G) first.toList) (← aD (aF G) caps.toList))
 | .slice t x lo hi mx => do
  let a ← aF G x
  let l ← iy G lo
  let h ← iy G hi
  let m ← iy G mx
  if mx.isSome && hi.isNone then none else
  match P.underlying t with
  | some (.slice e) => do
   let i ← P.info? e
   some (.slice i.size a l h m)
  | some .string => if mx.isSome then none else some (.sliceS a l h)
  | some (.array n e) => do
   let i ← P.info? e
   some (.sliceA i.size n a l h m)
  | _ => none
 | .fieldAddr s x f => do
  let a ← aF G x
  match P.underlying s with
  | some (.struct fs) => do
   let fd ← fs[f]?
   let i ← P.info? fd.type
   if i.size = 0 then none else some (.faddr fd.offset a)
  | _ => none
 | .indexAddr t x i => do
  let a ← aF G x
  let b ← aF G i
  match P.underlying t with
  | some (.slice e) => do
   let inf ← P.info? e
   some (.iaddr inf.size a b)
  | some (.array n e) => do
   let inf ← P.info? e
   some (.iaddrA inf.size n a b)
  | _ => none
 | .index t x i => do
  let a ← aF G x
  let b ← aF G i
  match P.underlying t with
  | some .string => some (.idxS a b)
  | some (.array n e) => do
   let inf ← P.info? e
   let sz ← cL P e
   some (.idxA inf.size n sz a b)
  | _ => none
 | .field t x f => do
  let a ← aF G x
  match P.underlying t with
  | some (.struct fs) => do
   let fd ← fs[f]?
   let sz ← cL P fd.type
   some (.fld fd.offset sz a)
  | _ => none
 | .lookup t m k ok => do
  let a ← aF G m
  let b ← aF G k
  match P.underlying t with
  | some (.map kt et) => do
   let ke ← eqK P 20 kt
   let i ← P.info? et
   let z ← i.zero
   let za ← (match z with
    | .agg cs => (qQ cs.toList).map AV.agg
    | z => qa z)
   some (.look ke za ok a b)
  | _ => none
 | .extract x i => do some (.ext (← aF G x) i)
 | .call { callee := .builtin .len, args, argTypes } => match args.toList, argTypes.toList with
  | [x], [t] => do some (.len (← LZ P t) (← aF G x))
  | _, _ => none
 | .call { callee := .builtin .min, args, argTypes := _ } => match args.toList with
  | [x, y] => do some (.mm false (← aF G x) (← aF G y))
  | _ => none
 | .call { callee := .builtin .max, args, argTypes := _ } => match args.toList with
  | [x, y] => do some (.mm true (← aF G x) (← aF G y))
  | _ => none
 | _ => none
def lC (G : List Nat) (op : Op) : Option KN :=
 match op with
 | .alloc t => do
  let (i, zs) ← cX P t
  some (cond (DO i zs) (.newb t) (.new zs))
 | .box _ x => do some (.box (← aF G x))
 | .makeMap _ none => some .map
 | .makeSlice t l c =>
  match P.underlying t with
  | some (.slice e) => do
   let (i, zs) ← cX P e
   some (.mksl i.size i.bytes zs (← aF G l) (← aF G c))
  | _ => none
 | .buildSlice t len parts =>
  match P.underlying t with
  | some (.slice e) => do
   let (i, zs) ← cX P e
   some (.bsl i.size len zs (← eG G (fun j => some (j * i.size, i.size)) parts.toList))
  | _ => none
 | _ => none
def nI (G : List Nat) (op : Op) : Option KW :=
 match op with
 | .store t a x => do
  let i ← P.info? t
  some (.store i.size (← aF G a) (← aF G x))
 | .mapUpdate t m k v =>
  match P.underlying t with
  | some (.map kt _) => do some (.mapup (← eqK P 20 kt) (← aF G m) (← aF G k) (← aF G v))
  | _ => none
 | .call { callee := .builtin .append, args, argTypes } => match args.toList, argTypes.toList with
  | [s, x], [t, u] => match P.underlying t with
   | some (.slice e) => do
    let (i, _) ← cX P e
    if l6 P u then some (.app i.size i.bytes (← aF G s) (← aF G x)) else none
   | _ => none
  | _, _ => none
 | .call { callee := .builtin .copy, args, argTypes } => match args.toList, argTypes.toList with
  | [s, x], [t, _] => match P.underlying t with
   | some (.slice e) => do
    let i ← P.info? e
    some (.copy i.size (← aF G s) (← aF G x))
   | _ => none
  | _, _ => none
 | .call { callee := .builtin .clear, args, argTypes } => match args.toList, argTypes.toList with
  | [x], [t] => match P.underlying t with
   | some (.slice e) => do
    let (_, zs) ← cX P e
    some (.clearS zs (← aF G x))
   | some (.map _ _) => do some (.clearM (← aF G x))
   | _ => none
  | _, _ => none
 | .call { callee := .builtin .delete, args, argTypes } => match args.toList, argTypes.toList with
  | [m, k], [t, _] => match P.underlying t with
   | some (.map kt _) => do some (.delete (← eqK P 20 kt) (← aF G m) (← aF G k))
   | _ => none
  | _, _ => none
 | .convert s d x => match P.underlying s, P.underlying d with
  | some .string, some (.slice e) => (match P.underlying e with
   | some (.int .u8) => do some (.s2b (← aF G x))
   | _ => none)
  | _, _ => none
 | _ => none
def nL (G : List Nat) (op : Op) : Option KC :=
 match op with
 | .call { callee := .value (.func f), args, argTypes := _ } => do some (.fn f (← aD (aF G) args.toList))
 | .call { callee := .value x, args, argTypes := _ } => do some (.val (← aF G x) (← aD (aF G) args.toList))
 | .call { callee := .invoke x name, args, argTypes := _ } => do some (.inv (← aF G x) name (← aD (aF G) args.toList))
 | _ => none
end
def xG (op : Op) : Program → List Nat → Option KR :=
 match op with
 | .move x | .assign x => fun _ G => do some (.mov (← aF G x))
 | .pick c a b => fun _ G => do some (.pick (← aF G c) (← aF G a) (← aF G b))
 | .build t parts => fun P G => do
  let (_, zs) ← cX P t
  match P.underlying t with
  | some (.struct fs) => do
   let ps ← gP P fs
   some (.build zs (← eG G (ps[·]?) parts.toList))
  | some (.array _ e) => do
   let i ← P.info? e
   some (.build zs (← eG G (fun j => some (j * i.size, i.size)) parts.toList))
  | _ => none
 | .load t x => fun P G => do some (.load (← cL P t) (← aF G x))
 | .nilCheck x => fun _ G => do some (.nilc (← aF G x))
 | .binOp op t x y _ => fun P G => do
  let a ← aF G x
  let b ← aF G y
  if op = .eql ∨ op = .neq then
   match P.underlying t with
   | some (.int _) | some .string => some (.bin op a b)
   | _ => do
    let k ← eqK P 20 t
    if dT P t k x y then some (.eq (decide (op = .neq)) k a b) else none
  else some (.bin op a b)
 | .unOp op _ x => fun _ G => do some (.un op (← aF G x))
 | .convert s d x => fun P G => do
  let a ← aF G x
  match P.underlying s, P.underlying d with
  | some _, some (.int k) => some (.conv k a)
  | some _, some .string => some (.strs a)
  | _, _ => none
 | .makeInterface t x => fun P G => do
  let a ← aF G x
  if P.concrete t then some (.mkif t a) else none
 | .makeFunc (.func f) first caps => fun _ G => do some (.mkfn f (← aD (aF G) first.toList) (← aD (aF G) caps.toList))
 | .slice t x lo hi mx => fun P G => do
  let a ← aF G x
  let l ← iy G lo
  let h ← iy G hi
  let m ← iy G mx
  if mx.isSome && hi.isNone then none else
  match P.underlying t with
  | some (.slice e) => do
   let i ← P.info? e
   some (.slice i.size a l h m)
  | some .string => if mx.isSome then none else some (.sliceS a l h)
  | some (.array n e) => do
   let i ← P.info? e
   some (.sliceA i.size n a l h m)
  | _ => none
 | .fieldAddr s x f => fun P G => do
  let a ← aF G x
  match P.underlying s with
  | some (.struct fs) => do
   let fd ← fs[f]?
   let i ← P.info? fd.type
   if i.size = 0 then none else some (.faddr fd.offset a)
  | _ => none
 | .indexAddr t x i => fun P G => do
  let a ← aF G x
  let b ← aF G i
  match P.underlying t with
  | some (.slice e) => do
   let inf ← P.info? e
   some (.iaddr inf.size a b)
  | some (.array n e) => do
   let inf ← P.info? e
   some (.iaddrA inf.size n a b)
  | _ => none
 | .index t x i => fun P G => do
  let a ← aF G x
  let b ← aF G i
  match P.underlying t with
  | some .string => some (.idxS a b)
  | some (.array n e) => do
   let inf ← P.info? e
   let sz ← cL P e
   some (.idxA inf.size n sz a b)
  | _ => none
 | .field t x f => fun P G => do
  let a ← aF G x
  match P.underlying t with
  | some (.struct fs) => do
   let fd ← fs[f]?
   let sz ← cL P fd.type
   some (.fld fd.offset sz a)
  | _ => none
 | .lookup t m k ok => fun P G => do
  let a ← aF G m
  let b ← aF G k
  match P.underlying t with
  | some (.map kt et) => do
   let ke ← eqK P 20 kt
   let i ← P.info? et
   let z ← i.zero
   let za ← (match z with
    | .agg cs => (qQ cs.toList).map AV.agg
    | z => qa z)
   some (.look ke za ok a b)
  | _ => none
 | .extract x i => fun _ G => do some (.ext (← aF G x) i)
 | .call { callee := .builtin .len, args, argTypes } => fun P G => match args.toList, argTypes.toList with
  | [x], [t] => do some (.len (← LZ P t) (← aF G x))
  | _, _ => none
 | .call { callee := .builtin .min, args, argTypes := _ } => fun _ G => match args.toList with
  | [x, y] => do some (.mm false (← aF G x) (← aF G y))
  | _ => none
 | .call { callee := .builtin .max, args, argTypes := _ } => fun _ G => match args.toList with
  | [x, y] => do some (.mm true (← aF G x) (← aF G y))
  | _ => none
 | _ => fun _ _G => none
def xH (op : Op) : Program → List Nat → Option KN :=
 match op with
 | .alloc t => fun P _G => do
  let (i, zs) ← cX P t
  some (cond (DO i zs) (.newb t) (.new zs))
 | .box _ x => fun _ G => do some (.box (← aF G x))
 | .makeMap _ none => fun _ _G => some .map
 | .makeSlice t l c => fun P G =>
  match P.underlying t with
  | some (.slice e) => do
   let (i, zs) ← cX P e
   some (.mksl i.size i.bytes zs (← aF G l) (← aF G c))
  | _ => none
 | .buildSlice t len parts => fun P G =>
  match P.underlying t with
  | some (.slice e) => do
   let (i, zs) ← cX P e
   some (.bsl i.size len zs (← eG G (fun j => some (j * i.size, i.size)) parts.toList))
  | _ => none
 | _ => fun _ _G => none
def xF (op : Op) : Program → List Nat → Option KW :=
 match op with
 | .store t a x => fun P G => do
  let i ← P.info? t
  some (.store i.size (← aF G a) (← aF G x))
 | .mapUpdate t m k v => fun P G =>
  match P.underlying t with
  | some (.map kt _) => do some (.mapup (← eqK P 20 kt) (← aF G m) (← aF G k) (← aF G v))
  | _ => none
 | .call { callee := .builtin .append, args, argTypes } => fun P G => match args.toList, argTypes.toList with
  | [s, x], [t, u] => match P.underlying t with
   | some (.slice e) => do
    let (i, _) ← cX P e
    if l6 P u then some (.app i.size i.bytes (← aF G s) (← aF G x)) else none
   | _ => none
  | _, _ => none
 | .call { callee := .builtin .copy, args, argTypes } => fun P G => match args.toList, argTypes.toList with
  | [s, x], [t, _] => match P.underlying t with
   | some (.slice e) => do
    let i ← P.info? e
    some (.copy i.size (← aF G s) (← aF G x))
   | _ => none
  | _, _ => none
 | .call { callee := .builtin .clear, args, argTypes } => fun P G => match args.toList, argTypes.toList with
  | [x], [t] => match P.underlying t with
   | some (.slice e) => do
    let (_, zs) ← cX P e
    some (.clearS zs (← aF G x))
   | some (.map _ _) => do some (.clearM (← aF G x))
   | _ => none
  | _, _ => none
 | .call { callee := .builtin .delete, args, argTypes } => fun P G => match args.toList, argTypes.toList with
  | [m, k], [t, _] => match P.underlying t with
   | some (.map kt _) => do some (.delete (← eqK P 20 kt) (← aF G m) (← aF G k))
   | _ => none
  | _, _ => none
 | .convert s d x => fun P G => match P.underlying s, P.underlying d with
  | some .string, some (.slice e) => (match P.underlying e with
   | some (.int .u8) => do some (.s2b (← aF G x))
   | _ => none)
  | _, _ => none
 | _ => fun _ _G => none
def xM (op : Op) : Program → List Nat → Option KC :=
 match op with
 | .call { callee := .value (.func f), args, argTypes := _ } => fun _ G => do some (.fn f (← aD (aF G) args.toList))
 | .call { callee := .value x, args, argTypes := _ } => fun _ G => do some (.val (← aF G x) (← aD (aF G) args.toList))
 | .call { callee := .invoke x name, args, argTypes := _ } => fun _ G => do some (.inv (← aF G x) name (← aD (aF G) args.toList))
 | _ => fun _ _G => none
theorem Fl (P : Program) (G : List Nat) (op : Op) : xG op P G = lB P G op := by
 unfold xG lB
 split <;> rfl
theorem Fm (P : Program) (G : List Nat) (op : Op) : xH op P G = lC P G op := by
 unfold xH lC
 split <;> rfl
theorem Fj (P : Program) (G : List Nat) (op : Op) : xF op P G = nI P G op := by
 unfold xF nI
 split <;> rfl
theorem Fs (P : Program) (G : List Nat) (op : Op) : xM op P G = nL G op := by
 unfold xM nL
 split <;> rfl
section
variable (P : Program)
def comp (G : List Nat) (op : Op) : Option KOp :=
 match xG op P G with
 | some k => some (.r k)
 | none => match xH op P G with
  | some k => some (.n k)
  | none => match xF op P G with
   | some k => some (.w k)
   | none => match xM op P G with
    | some k => some (.c k)
    | none => some .x
end
end
noncomputable section
section
variable {P : Program} {base : Nat} {ρ : Ren} {H : AHeap} {w : World} {G : List Nat} {ev : Opnd → AV} {ea : Operand → Value}
theorem dW : ∀ {l : List Operand} {m : List Opnd}, (∀ x ∈ l, EvR ρ ev ea G x) → aD (aF G) l = some m → VRs ρ (evs ev m) (l.map ea) := by
 intro l
 induction l with
 | nil => intro m he h; cases h; rfl
 | cons x l ih =>
  intro m he h
  simp only [aD] at h
  cases e : aF G x with
  | none => rw [e] at h; cases h
  | some y =>
   rw [e] at h
   cases e2 : aD (aF G) l with
   | none => rw [e2] at h; cases h
   | some m' =>
    rw [e2] at h; cases h
    exact ⟨ea x, l.map ea, rfl, he x (List.mem_cons_self ..) y e, ih (fun z hz => he z (List.mem_cons_of_mem _ hz)) e2⟩
theorem bM {o : Option Operand} {m : Option Opnd} (he : ∀ x, o = some x → EvR ρ ev ea G x) (h : iy G o = some m) : lP ρ (m.map ev) (o.map ea) := by
 cases o with
 | none => cases h; rfl
 | some x =>
  simp only [iy, Option.map_eq_some_iff] at h
  obtain ⟨y, h1, rfl⟩ := h
  exact ⟨ea x, rfl, he x rfl y h1⟩
theorem mV {o : Option Operand} {m : Option Opnd} (h : iy G o = some m) : m.isSome = o.isSome := by
 cases o with
 | none => cases h; rfl
 | some x =>
  simp only [iy, Option.map_eq_some_iff] at h
  obtain ⟨y, h1, rfl⟩ := h
  rfl
theorem cu {t : Nat} {i : TypeInfo} {zs : List AV} (h : cX P t = some (i, zs)) (ρ : Ren) : P.info? t = some i ∧ ∃ z, i.zero = some z ∧ VRs ρ zs z.cells.toList ∧ z.cells.size = i.size := by
 simp only [cX, bind, Option.bind_eq_some_iff] at h
 obtain ⟨i', h1, z, h2, zs', h3, h4⟩ := h
 split at h4
 · rename_i hs
   cases h4
   exact ⟨h1, z, h2, jr h3 ρ, hs⟩
 · cases h4
theorem eV {place : Nat → Option (Nat × Nat)} : ∀ {l : List (Nat × Operand)} {m : List (Nat × Nat × Opnd)}, (∀ p ∈ l, EvR ρ ev ea G p.2) → eG G place l = some m →
 (bI ev m).length = l.length ∧ ∀ (j : Nat) (off sz : Nat) (v : AV), (bI ev m)[j]? = some (off, sz, v) → ∃ i x, l[j]? = some (i, x) ∧ place i = some (off, sz) ∧ VR ρ v (ea x) := by
 intro l
 induction l with
 | nil => intro m he h; cases h; exact ⟨rfl, fun j off sz v h => by simp [bI] at h⟩
 | cons p l ih =>
  intro m he h
  obtain ⟨i, x⟩ := p
  simp only [eG, aD, bind] at h
  cases hp : place i with
  | none => rw [hp] at h; simp at h
  | some os =>
   obtain ⟨o, s⟩ := os
   rw [hp] at h
   simp only [Option.bind_some] at h
   cases hx : aF G x with
   | none => rw [hx] at h; simp at h
   | some y =>
    rw [hx] at h
    simp only [Option.bind_some] at h
    split at h
    · cases h
    · rename_i m' hm'
      cases h
      obtain ⟨h1, h2⟩ := ih (m := m') (fun z hz => he z (List.mem_cons_of_mem _ hz)) hm'
      refine ⟨by simp [bI, h1], fun j off sz v hj => ?_⟩
      cases j with
      | zero =>
       simp [bI] at hj
       obtain ⟨rfl, rfl, rfl⟩ := hj
       exact ⟨i, x, rfl, hp, he (i, x) (List.mem_cons_self ..) y hx⟩
      | succ j => simpa using h2 j off sz v (by simpa [bI] using hj)
theorem lM {fs : Array Field} {ps : List (Nat × Nat)} (h : gP P fs = some ps) :
 (fs.mapM fun f => do pure (f.offset, ← sizeOf f.type) : Sem (Array (Nat × Nat))).run P w = .ok ps.toArray w := by
 rw [Array.mapM_eq_mapM_toList]
 have : ∀ (l : List Field) (ps : List (Nat × Nat)), aD (fun (f : Field) => (P.info? f.type).map fun i => (f.offset, i.size)) l = some ps → (l.mapM fun f => do pure (f.offset, ← sizeOf f.type) : Sem (List (Nat × Nat))).run P w = .ok ps w := by
  intro l
  induction l with
  | nil => intro ps h; cases h; rfl
  | cons f l ih =>
   intro ps h
   simp only [aD] at h
   cases e : P.info? f.type with
   | none => rw [e] at h; cases h
   | some i =>
    rw [e] at h
    simp only [Option.map_some] at h
    split at h
    · cases h
    · rename_i m hm
      cases h
      rw [List.mapM_cons]
      simp only [Sem.run_bind, aP w e, Result.andThen_ok, Sem.run_pure]
      have := ih m hm
      rw [this]; rfl
 have h2 := this fs.toList ps h
 show ((List.toArray <$> (fs.toList.mapM fun f => do pure (f.offset, ← sizeOf f.type)) : Sem (Array (Nat × Nat)))).run P w = _
 have hmap : ∀ {α β : Type} (g : α → β) (s : Sem α), (g <$> s) = (s >>= fun a => pure (g a)) := fun g s => rfl
 rw [hmap, ag h2]; rfl
theorem xR {x v : AV} {x' : Value} (h : af x = some v) (hx : VR ρ x x') (o : Oper) (y : Operand) (ho : o.op = .nilCheck y) (hy : ea y = x') : (execOp ea o).run P w = .ok (.value x') w ∧ VR ρ v x' := by
 unfold execOp
 rw [ho]
 simp only [hy]
 cases x <;> simp only [af] at h <;> (try cases h)
 case bool => obtain rfl := hx; exact ⟨rfl, rfl⟩
 case int => obtain rfl := hx; exact ⟨rfl, rfl⟩
 case str => obtain rfl := hx; exact ⟨rfl, rfl⟩
 case ptr => have hx' := hx; obtain ⟨L, _, rfl⟩ := hx; exact ⟨rfl, hx'⟩
 case nilsl => obtain rfl := hx; exact ⟨rfl, rfl⟩
 case sl => have hx' := hx; obtain ⟨L, c, o, _, rfl, _⟩ := hx; exact ⟨rfl, hx'⟩
 case nilmap => obtain rfl := hx; exact ⟨rfl, rfl⟩
 case map => have hx' := hx; obtain ⟨L, _, rfl⟩ := hx; exact ⟨rfl, hx'⟩
 case fn => have hx' := hx; obtain ⟨a, b, rfl, _⟩ := hx; exact ⟨rfl, hx'⟩
 case iface => have hx' := hx; obtain ⟨a, rfl, _⟩ := hx; exact ⟨rfl, hx'⟩
theorem aS {s : Sem Value} {v : Value} (h : s.run P w = .ok v w) : (do pure (Next.value (← s)) : Sem Next).run P w = .ok (.value v) w := by
 rw [ag h]; rfl
theorem Ga {o : Oper} {k : KR} {v : AV} (hr : HR base ρ H w) (he : ∀ x ∈ o.op.operands, EvR ρ ev ea G x) (hc : lB P G o.op = some k) (h : rdK k ev H = some v) :
 ∃ v', (execOp ea o).run P w = .ok (.value v') w ∧ VR ρ v v' := by
 obtain ⟨dst, op, type, pos, after, guard⟩ := o
 simp only at hc
 unfold lB at hc
 split at hc
 ·
  simp only [bind, Option.bind_eq_some_iff] at hc
  obtain ⟨x, h1, h2⟩ := hc
  cases h2; cases h
  exact ⟨_, rfl, he _ (by simp [Op.operands]) x h1⟩
 ·
  simp only [bind, Option.bind_eq_some_iff] at hc
  obtain ⟨x, h1, h2⟩ := hc
  cases h2; cases h
  exact ⟨_, rfl, he _ (by simp [Op.operands]) x h1⟩
 ·
  simp only [bind, Option.bind_eq_some_iff] at hc
  obtain ⟨c, h1, a, h2, b, h3, h4⟩ := hc
  cases h4
  simp only [rdK] at h
  have r1 := he _ (by simp [Op.operands]) c h1
  revert h r1
  generalize ev c = cv
  intro h r1
  cases cv <;> simp only [HW] at h <;> (try cases h)
  rename_i b0
  have e1 : ea _ = .bool b0 := r1
  cases b0 with
  | true => cases h; exact ⟨_, by simp only [execOp, e1, asBool]; rfl, he _ (by simp [Op.operands]) a h2⟩
  | false => cases h; exact ⟨_, by simp only [execOp, e1, asBool]; rfl, he _ (by simp [Op.operands]) b h3⟩
 ·
  simp only [bind, Option.bind_eq_some_iff] at hc
  obtain ⟨⟨i, zs⟩, h1, h2⟩ := hc
  obtain ⟨hi, z, hz, hzs, hsz⟩ := cu h1 ρ
  rename_i t parts
  split at h2
  · rename_i fs hu
    simp only [Option.bind_eq_some_iff] at h2
    obtain ⟨ps, h3, parts', h4, h5⟩ := h2
    cases h5
    simp only [rdK] at h
    cases hf : aG zs (bI ev parts') with
    | none => rw [hf] at h; cases h
    | some r =>
     rw [hf] at h; cases h
     obtain ⟨q1, q2⟩ := eV (fun p hp => he p.2 (by simp only [Op.operands]; exact List.mem_toArray.2 (List.mem_map.2 ⟨p, hp, rfl⟩))) h4
     obtain ⟨cs', f1, f2⟩ := gT (place := fun j => ps[j]?) (ps := (parts.map fun (i, x) => (i, ea x)).toList) hzs (by simp [q1]) (fun j off sz v hj => by
      obtain ⟨i, x, e1, e2, e3⟩ := q2 j off sz v hj
      exact ⟨i, ea x, by simp only [Array.toList_map, List.getElem?_map, e1]; rfl, e2, e3⟩) hf
     refine ⟨.agg cs', ?_, _, by simp, f2⟩
     refine aS (s := Instr.build t (parts.map fun (i, x) => (i, ea x))) ?_
     unfold Instr.build
     simp only [Sem.run_bind, bk hi hz, Result.andThen_ok, an w hu]
     have := lM (w := w) h3
     rw [this]
     simp only [Result.andThen_ok]
     have hpl : (fun (x : Nat) => ps.toArray[x]?) = fun (x : Nat) => ps[x]? := by funext x; simp
     rw [hpl, f1]; rfl
  · rename_i n e hu
    simp only [Option.bind_eq_some_iff] at h2
    obtain ⟨ie, h3, parts', h4, h5⟩ := h2
    cases h5
    simp only [rdK] at h
    cases hf : aG zs (bI ev parts') with
    | none => rw [hf] at h; cases h
    | some r =>
     rw [hf] at h; cases h
     obtain ⟨q1, q2⟩ := eV (fun p hp => he p.2 (by simp only [Op.operands]; exact List.mem_toArray.2 (List.mem_map.2 ⟨p, hp, rfl⟩))) h4
     obtain ⟨cs', f1, f2⟩ := gT (place := fun j => some (j * ie.size, ie.size)) (ps := (parts.map fun (i, x) => (i, ea x)).toList) hzs (by simp [q1]) (fun j off sz v hj => by
      obtain ⟨i, x, e1, e2, e3⟩ := q2 j off sz v hj
      exact ⟨i, ea x, by simp only [Array.toList_map, List.getElem?_map, e1]; rfl, e2, e3⟩) hf
     refine ⟨.agg cs', ?_, _, by simp, f2⟩
     refine aS (s := Instr.build t (parts.map fun (i, x) => (i, ea x))) ?_
     unfold Instr.build
     simp only [Sem.run_bind, bk hi hz, Result.andThen_ok, an w hu, aP w h3, f1, Sem.run_pure]
  · cases h2
 ·
  simp only [bind, Option.bind_eq_some_iff] at hc
  obtain ⟨sz, h1, x, h2, h3⟩ := hc
  cases h3
  obtain ⟨v', e1, e2⟩ := wq hr h1 h (he _ (by simp [Op.operands]) x h2)
  exact ⟨v', aS e1, e2⟩
 ·
  simp only [bind, Option.bind_eq_some_iff] at hc
  obtain ⟨x, h1, h2⟩ := hc
  cases h2
  obtain ⟨e1, e2⟩ := xR (P := P) (w := w) (ea := ea) (x' := ea _) h (he _ (by simp [Op.operands]) x h1) ⟨dst, .nilCheck _, type, pos, after, guard⟩ _ rfl rfl
  exact ⟨_, e1, e2⟩
 ·
  simp only [bind, Option.bind_eq_some_iff] at hc
  obtain ⟨a, h1, b, h2, h3⟩ := hc
  rename_i bop t x y yt
  have bin : ∀ {v : AV}, aW bop (ev a) (ev b) = some v → ∃ v', (execOp ea ⟨dst, .binOp bop t x y yt, type, pos, after, guard⟩).run P w = .ok (.value v') w ∧ VR ρ v v' := by
   intro v hb
   obtain ⟨v', e1, e2⟩ := y9 (P := P) (w := w) (t := t) hb (he _ (by simp [Op.operands]) a h1) (he _ (by simp [Op.operands]) b h2) x y
   exact ⟨v', aS e1, e2⟩
  split at h3
  · rename_i hop
    split at h3
    · cases h3; exact bin h
    · cases h3; exact bin h
    · simp only [Option.bind_eq_some_iff] at h3
      obtain ⟨ke, h4, h5⟩ := h3
      split at h5
      · rename_i hg
        cases h5
        obtain ⟨v', e1, e2⟩ := FG (P := P) (w := w) h4 (by decide) hg h (he _ (by simp [Op.operands]) a h1) (he _ (by simp [Op.operands]) b h2)
        refine ⟨v', aS ?_, e2⟩
        rcases hop with rfl | rfl
        · exact e1
        · exact e1
      · cases h5
  · cases h3; exact bin h
 ·
  simp only [bind, Option.bind_eq_some_iff] at hc
  obtain ⟨x, h1, h2⟩ := hc
  cases h2
  obtain ⟨v', e1, e2⟩ := FD (P := P) (w := w) h (he _ (by simp [Op.operands]) x h1)
  exact ⟨v', aS e1, e2⟩
 ·
  simp only [bind, Option.bind_eq_some_iff] at hc
  obtain ⟨x, h1, h2⟩ := hc
  split at h2
  · rename_i D kk hs hd
    cases h2
    obtain ⟨v', e1, e2⟩ := wy (P := P) (w := w) (by rw [hs]; rfl) hd h (he _ (by simp [Op.operands]) x h1)
    exact ⟨v', aS e1, e2⟩
  · rename_i D hs hd
    cases h2
    simp only [rdK] at h
    have r1 := he _ (by simp [Op.operands]) x h1
    revert h r1
    generalize ev x = xv
    intro h r1
    cases xv <;> simp only [qF] at h <;> (try cases h)
    rename_i l
    refine ⟨ea _, aS ?_, r1⟩
    have r1' : ea _ = .string ⟨l.toArray⟩ := r1
    rw [r1']
    unfold convert
    rw [ag (an w hs), ag (an w hd)]
    cases D <;> rfl
  · cases h2
 ·
  simp only [bind, Option.bind_eq_some_iff] at hc
  obtain ⟨x, h1, h2⟩ := hc
  split at h2
  · rename_i hcn
    cases h2; cases h
    exact ⟨_, aS (run_makeInterface w _ _ hcn), _, rfl, he _ (by simp [Op.operands]) x h1⟩
  · cases h2
 ·
  simp only [bind, Option.bind_eq_some_iff] at hc
  obtain ⟨f1, h1, f2, h2, h3⟩ := hc
  cases h3; cases h
  rename_i f first caps
  refine ⟨.func (.func f) (first.map ea) (caps.map ea), rfl, _, _, ?_, dW (fun z hz => he z (by simp only [Op.operands]; exact Array.mem_append.2 (.inl (Array.mem_toList_iff.1 hz)))) h1, dW (fun z hz => he z (by simp only [Op.operands]; exact Array.mem_append.2 (.inr (Array.mem_toList_iff.1 hz)))) h2⟩
  rw [show Array.map ea first = (first.toList.map ea).toArray from by apply Array.ext'; simp, show Array.map ea caps = (caps.toList.map ea).toArray from by apply Array.ext'; simp]
 ·
  simp only [bind, Option.bind_eq_some_iff] at hc
  obtain ⟨x, h1, l, h2, hh, h3, m, h4, h5⟩ := hc
  rename_i t x0 lo hi mx
  split at h5
  · cases h5
  · rename_i hmx
    have b4 : (m.map ev) ≠ none → (hh.map ev) ≠ none := by
     intro q1 q2
     have e1 := mV h4
     have e2 := mV h3
     cases m with
     | none => exact q1 rfl
     | some m0 =>
      cases hh with
      | none => exact hmx (by cases mx <;> cases hi <;> simp_all)
      | some h0 => cases q2
    split at h5
    · rename_i e hu
      simp only [Option.bind_eq_some_iff] at h5
      obtain ⟨i, h6, h7⟩ := h5
      cases h7
      obtain ⟨v', e1, e2⟩ := rF hr hu h6 h (he _ (by simp [Op.operands]) x h1) (bM (fun z hz => he z (by subst hz; simp [Op.operands])) h2) (bM (fun z hz => he z (by subst hz; simp [Op.operands])) h3) (bM (fun z hz => he z (by subst hz; simp [Op.operands])) h4) b4
      exact ⟨v', aS e1, e2⟩
    · rename_i hu
      split at h5
      · cases h5
      · rename_i hms
        cases h5
        cases mx with
        | some q => simp at hms
        | none =>
         obtain ⟨v', e1, e2⟩ := pD (P := P) (w := w) hu h (he _ (by simp [Op.operands]) x h1) (bM (fun z hz => he z (by subst hz; simp [Op.operands])) h2) (bM (fun z hz => he z (by subst hz; simp [Op.operands])) h3)
         exact ⟨v', aS e1, e2⟩
    · rename_i n e hu
      simp only [Option.bind_eq_some_iff] at h5
      obtain ⟨i, h6, h7⟩ := h5
      cases h7
      obtain ⟨v', e1, e2⟩ := pE (w := w) hu h6 h (he _ (by simp [Op.operands]) x h1) (bM (fun z hz => he z (by subst hz; simp [Op.operands])) h2) (bM (fun z hz => he z (by subst hz; simp [Op.operands])) h3) (bM (fun z hz => he z (by subst hz; simp [Op.operands])) h4) b4
      exact ⟨v', aS e1, e2⟩
    · cases h5
 ·
  simp only [bind, Option.bind_eq_some_iff] at hc
  obtain ⟨x, h1, h2⟩ := hc
  split at h2
  · rename_i fs hu
    simp only [Option.bind_eq_some_iff] at h2
    obtain ⟨fd, h3, i, h4, h5⟩ := h2
    split at h5
    · cases h5
    · rename_i hz
      cases h5
      obtain ⟨v', e1, e2⟩ := rN (P := P) (w := w) hu h3 h4 hz h (he _ (by simp [Op.operands]) x h1)
      exact ⟨v', aS e1, e2⟩
  · cases h2
 ·
  simp only [bind, Option.bind_eq_some_iff] at hc
  obtain ⟨x, h1, i, h2, h3⟩ := hc
  split at h3
  · rename_i e hu
    simp only [Option.bind_eq_some_iff] at h3
    obtain ⟨inf, h4, h5⟩ := h3
    cases h5
    obtain ⟨v', e1, e2⟩ := rJ (P := P) (w := w) hu h4 h (he _ (by simp [Op.operands]) x h1) (he _ (by simp [Op.operands]) i h2)
    exact ⟨v', aS e1, e2⟩
  · rename_i n e hu
    simp only [Option.bind_eq_some_iff] at h3
    obtain ⟨inf, h4, h5⟩ := h3
    cases h5
    obtain ⟨v', e1, e2⟩ := pF (P := P) (w := w) hu h4 h (he _ (by simp [Op.operands]) x h1) (he _ (by simp [Op.operands]) i h2)
    exact ⟨v', aS e1, e2⟩
  · cases h3
 ·
  simp only [bind, Option.bind_eq_some_iff] at hc
  obtain ⟨x, h1, i, h2, h3⟩ := hc
  split at h3
  · rename_i hu
    cases h3
    obtain ⟨v', e1, e2⟩ := wt (P := P) (w := w) hu h (he _ (by simp [Op.operands]) x h1) (he _ (by simp [Op.operands]) i h2)
    exact ⟨v', aS e1, e2⟩
  · rename_i n e hu
    simp only [Option.bind_eq_some_iff] at h3
    obtain ⟨inf, h4, sz, h5, h6⟩ := h3
    cases h6
    obtain ⟨v', e1, e2⟩ := wu (P := P) (w := w) hu h4 h5 h (he _ (by simp [Op.operands]) x h1) (he _ (by simp [Op.operands]) i h2)
    exact ⟨v', aS e1, e2⟩
  · cases h3
 ·
  simp only [bind, Option.bind_eq_some_iff] at hc
  obtain ⟨x, h1, h2⟩ := hc
  split at h2
  · rename_i fs hu
    simp only [Option.bind_eq_some_iff] at h2
    obtain ⟨fd, h3, sz, h4, h5⟩ := h2
    cases h5
    obtain ⟨v', e1, e2⟩ := xZ (P := P) (w := w) hu h3 h4 h (he _ (by simp [Op.operands]) x h1)
    exact ⟨v', aS e1, e2⟩
  · cases h2
 ·
  simp only [bind, Option.bind_eq_some_iff] at hc
  obtain ⟨m, h1, kk, h2, h3⟩ := hc
  split at h3
  · rename_i kt et hu
    simp only [Option.bind_eq_some_iff] at h3
    obtain ⟨ke, h4, i, h5, z, h6, za, h7, h8⟩ := h3
    cases h8
    have hz : VR ρ za z := by
     split at h7
     · simp only [Option.map_eq_some_iff] at h7
       obtain ⟨l, q1, rfl⟩ := h7
       exact ⟨_, by simp, jr q1 ρ⟩
     · exact eJ h7 ρ
    obtain ⟨v', e1, e2⟩ := wo hr hu h4 (by decide) h5 h6 hz h (he _ (by simp [Op.operands]) m h1) (he _ (by simp [Op.operands]) kk h2)
    exact ⟨v', aS e1, e2⟩
  · cases h3
 ·
  simp only [bind, Option.bind_eq_some_iff] at hc
  obtain ⟨x, h1, h2⟩ := hc
  cases h2
  obtain ⟨v', e1, e2⟩ := y6 (P := P) (w := w) h (he _ (by simp [Op.operands]) x h1)
  exact ⟨v', aS e1, e2⟩
 ·
  rename_i args argTypes
  split at hc
  · rename_i x t ha ht
    simp only [bind, Option.bind_eq_some_iff] at hc
    obtain ⟨lk, h1, x', h2, h3⟩ := hc
    cases h3
    obtain ⟨args⟩ := args
    obtain ⟨argTypes⟩ := argTypes
    simp only at ha ht
    subst ha; subst ht
    obtain ⟨v', e1, e2⟩ := xY (ty := type) hr h1 h (he _ (by simp [Op.operands, Call.operands]) x' h2)
    exact ⟨v', by simp only [execOp, resolve, Sem.run_bind, Sem.run_pure, Result.andThen_ok, invoke, builtin]; rw [show Array.map ea (⟨[x]⟩ : Array Operand) = #[ea x] from by apply Array.ext'; simp]; rw [show (Builtin.len_ ⟨[t]⟩ type #[ea x]).run P w = _ from e1]; rfl, e2⟩
  · cases hc
 ·
  rename_i args argTypes
  split at hc
  · rename_i x y ha
    simp only [bind, Option.bind_eq_some_iff] at hc
    obtain ⟨x', h1, y', h2, h3⟩ := hc
    cases h3
    obtain ⟨args⟩ := args
    simp only at ha
    subst ha
    obtain ⟨v', e1, e2⟩ := xT (P := P) (w := w) (ts := argTypes) (ty := type) h (he _ (by simp [Op.operands, Call.operands]) x' h1) (he _ (by simp [Op.operands, Call.operands]) y' h2)
    exact ⟨v', by simp only [execOp, resolve, Sem.run_bind, Sem.run_pure, Result.andThen_ok, invoke, builtin]; rw [show Array.map ea (⟨[x, y]⟩ : Array Operand) = #[ea x, ea y] from by apply Array.ext'; simp]; rw [show (Builtin.min_ argTypes type #[ea x, ea y]).run P w = _ from e1]; rfl, e2⟩
  · cases hc
 ·
  rename_i args argTypes
  split at hc
  · rename_i x y ha
    simp only [bind, Option.bind_eq_some_iff] at hc
    obtain ⟨x', h1, y', h2, h3⟩ := hc
    cases h3
    obtain ⟨args⟩ := args
    simp only at ha
    subst ha
    obtain ⟨v', e1, e2⟩ := xU (P := P) (w := w) (ts := argTypes) (ty := type) h (he _ (by simp [Op.operands, Call.operands]) x' h1) (he _ (by simp [Op.operands, Call.operands]) y' h2)
    exact ⟨v', by simp only [execOp, resolve, Sem.run_bind, Sem.run_pure, Result.andThen_ok, invoke, builtin]; rw [show Array.map ea (⟨[x, y]⟩ : Array Operand) = #[ea x, ea y] from by apply Array.ext'; simp]; rw [show (Builtin.max_ argTypes type #[ea x, ea y]).run P w = _ from e1]; rfl, e2⟩
  · cases hc
 · cases hc
end
end
noncomputable section
section
variable {P : Program} {base : Nat} {ρ : Ren} {H : AHeap} {w : World} {G : List Nat} {ev : Opnd → AV} {ea : Operand → Value}
theorem GN {o : Oper} {k : KN} {ob : AObj} {m : Mk} (hlow : base ≤ w.heap.size) (he : ∀ x ∈ o.op.operands, EvR ρ ev ea G x) (hc : lC P G o.op = some k) (h : nwK k ev = some (ob, m)) :
 ∃ s, execOp ea o = (s >>= fun v => pure (Next.value v)) ∧ lH P base ρ w s ob m := by
 obtain ⟨dst, op, type, pos, after, guard⟩ := o
 simp only at hc
 unfold lC at hc
 split at hc
 ·
  simp only [bind, Option.bind_eq_some_iff] at hc
  obtain ⟨⟨i, zs⟩, h1, h2⟩ := hc
  obtain ⟨hi, z, hz, hzs, hsz⟩ := cu h1 ρ
  cases hb : DO i zs with
  | false =>
   rw [hb] at h2
   cases h2; cases h
   exact ⟨_, rfl, xS hlow hi hz hzs⟩
  | true =>
   rw [hb] at h2
   cases h2; cases h
   unfold DO at hb
   split at hb
   · exact ⟨_, rfl, wj hlow hi hz hzs⟩
   · cases hb
 ·
  simp only [bind, Option.bind_eq_some_iff] at hc
  obtain ⟨x, h1, h2⟩ := hc
  cases h2; cases h
  exact ⟨_, rfl, y8 hlow (he _ (by simp [Op.operands]) x h1)⟩
 ·
  cases hc; cases h
  exact ⟨_, rfl, xV hlow rfl⟩
 ·
  split at hc
  · rename_i e hu
    simp only [bind, Option.bind_eq_some_iff] at hc
    obtain ⟨⟨i, zs⟩, h1, l, h2, c, h3, h4⟩ := hc
    obtain ⟨hi, z, hz, hzs, hsz⟩ := cu h1 ρ
    cases h4
    exact ⟨_, rfl, wk hlow hu hi hz hzs hsz h (he _ (by simp [Op.operands]) l h2) (he _ (by simp [Op.operands]) c h3)⟩
  · cases hc
 ·
  rename_i t len parts
  split at hc
  · rename_i e hu
    simp only [bind, Option.bind_eq_some_iff] at hc
    obtain ⟨⟨i, zs⟩, h1, ps, h2, h3⟩ := hc
    obtain ⟨hi, z, hz, hzs, hsz⟩ := cu h1 ρ
    cases h3
    obtain ⟨q1, q2⟩ := eV (fun p hp => he p.2 (by simp only [Op.operands]; exact List.mem_toArray.2 (List.mem_map.2 ⟨p, hp, rfl⟩))) h2
    have h' : aM i.size len zs (bI ev ps) = some (ob, m) := h
    have hlen : (bI ev ps).length = (parts.map fun (i, x) => (i, ea x)).toList.length := by rw [q1]; simp
    refine ⟨Instr.buildSlice t len (parts.map fun (i, x) => (i, ea x)), by simp only [execOp], ?_⟩
    refine y7 (parts := bI ev ps) hlow hu hi hz hzs hsz hlen ?_ h'
    intro j off sz v hj
    obtain ⟨i', x, e1, e2, e3⟩ := q2 j off sz v hj
    simp only [Option.some.injEq, Prod.mk.injEq] at e2
    obtain ⟨rfl, rfl⟩ := e2
    have e4 : (parts.map fun (i, x) => (i, ea x)).toList[j]? = some (i', ea x) := by
     rw [Array.toList_map, List.getElem?_map, e1]; rfl
    exact ⟨i', ea x, e4, rfl, rfl, e3⟩
  · cases hc
 · cases hc
def K8 (ρ : Ren) (v : AV) : Next → Prop
 | .value v' => VR ρ v v'
 | .skip => v = .undef
 | _ => False
theorem dB {s : Sem Value} {H' : AHeap} {R : Ren → Value → Prop} {v : AV} (h : j5 P base ρ H w s H' R) (hR : ∀ ρ' r, R ρ' r → VR ρ' v r) : j5 P base ρ H w (do pure (Next.value (← s)) : Sem Next) H' (fun ρ' r => K8 ρ' v r) := by
 obtain ⟨r, w', ρ', e1, e2, e3, e4⟩ := h
 exact ⟨.value r, w', ρ', by rw [ag e1]; rfl, hR _ _ e2, e3, e4⟩
theorem qn {s : Sem Unit} {H' : AHeap} {R : Ren → Unit → Prop} (h : j5 P base ρ H w s H' R) : j5 P base ρ H w (do s; pure Next.skip : Sem Next) H' (fun ρ' r => K8 ρ' .undef r) := by
 obtain ⟨r, w', ρ', e1, e2, e3, e4⟩ := h
 exact ⟨.skip, w', ρ', by rw [ag e1]; rfl, rfl, e3, e4⟩
theorem dY {o : Option AHeap} {v : AV} {H' : AHeap} (h : cG o = some (v, H')) : o = some H' ∧ v = .undef := by
 cases o with
 | none => cases h
 | some x => cases h; exact ⟨rfl, rfl⟩
theorem FX {o : Oper} {k : KW} {v : AV} {H' : AHeap} (hr : HR base ρ H w) (he : ∀ x ∈ o.op.operands, EvR ρ ev ea G x) (hc : nI P G o.op = some k) (h : wrK k ev H = some (v, H')) :
 j5 P base ρ H w (execOp ea o) H' (fun ρ' r => K8 ρ' v r) := by
 obtain ⟨dst, op, type, pos, after, guard⟩ := o
 simp only at hc
 unfold nI at hc
 split at hc
 ·
  simp only [bind, Option.bind_eq_some_iff] at hc
  obtain ⟨i, h1, a, h2, x, h3, h4⟩ := hc
  cases h4
  obtain ⟨e1, rfl⟩ := dY h
  exact qn (rD hr h1 e1 (he _ (by simp [Op.operands]) a h2) (he _ (by simp [Op.operands]) x h3))
 ·
  split at hc
  · rename_i kt et hu
    simp only [bind, Option.bind_eq_some_iff] at hc
    obtain ⟨ke, h1, m, h2, kk, h3, x, h4, h5⟩ := hc
    cases h5
    obtain ⟨e1, rfl⟩ := dY h
    exact qn (rI hr hu h1 (by decide) e1 (he _ (by simp [Op.operands]) m h2) (he _ (by simp [Op.operands]) kk h3) (he _ (by simp [Op.operands]) x h4))
  · cases hc
 ·
  rename_i args argTypes
  split at hc
  · rename_i s x t u ha ht
    split at hc
    · rename_i e hu
      simp only [bind, Option.bind_eq_some_iff] at hc
      obtain ⟨⟨i, zs⟩, h1, h2⟩ := hc
      obtain ⟨hi, z, hz, hzs, hsz⟩ := cu h1 ρ
      split at h2
      · rename_i hso
        simp only [Option.bind_eq_some_iff] at h2
        obtain ⟨s', h3, x', h4, h5⟩ := h2
        cases h5
        obtain ⟨args⟩ := args
        obtain ⟨argTypes⟩ := argTypes
        simp only at ha ht
        subst ha; subst ht
        have hg := ya (ty := type) hr hu hi hz hsz hso h (he _ (by simp [Op.operands, Call.operands]) s' h3) (he _ (by simp [Op.operands, Call.operands]) x' h4)
        have := dB (v := v) hg (fun ρ' r q => q)
        obtain ⟨r, w', ρ', e1, e2, e3, e4⟩ := this
        refine ⟨r, w', ρ', ?_, e2, e3, e4⟩
        simp only [execOp, resolve, Sem.run_bind, Sem.run_pure, Result.andThen_ok, invoke, builtin]
        rw [show Array.map ea (⟨[s, x]⟩ : Array Operand) = #[ea s, ea x] from by apply Array.ext'; simp]
        simp only [Sem.run_bind, Sem.run_pure] at e1; exact e1
      · cases h2
    · cases hc
  · cases hc
 ·
  rename_i args argTypes
  split at hc
  · rename_i s x t u ha ht
    split at hc
    · rename_i e hu
      simp only [bind, Option.bind_eq_some_iff] at hc
      obtain ⟨i, h1, s', h3, x', h4, h5⟩ := hc
      cases h5
      obtain ⟨args⟩ := args
      obtain ⟨argTypes⟩ := argTypes
      simp only at ha ht
      subst ha; subst ht
      have hg := wx (u := u) (ty := type) hr hu h1 h (he _ (by simp [Op.operands, Call.operands]) s' h3) (he _ (by simp [Op.operands, Call.operands]) x' h4)
      obtain ⟨r, w', ρ', e1, e2, e3, e4⟩ := dB (v := v) hg (fun ρ' r q => q.2)
      refine ⟨r, w', ρ', ?_, e2, e3, e4⟩
      simp only [execOp, resolve, Sem.run_bind, Sem.run_pure, Result.andThen_ok, invoke, builtin]
      rw [show Array.map ea (⟨[s, x]⟩ : Array Operand) = #[ea s, ea x] from by apply Array.ext'; simp]
      simp only [Sem.run_bind, Sem.run_pure] at e1; exact e1
    · cases hc
  · cases hc
 ·
  rename_i args argTypes
  split at hc
  · rename_i x t ha ht
    split at hc
    · rename_i e hu
      simp only [bind, Option.bind_eq_some_iff] at hc
      obtain ⟨⟨i, zs⟩, h1, x', h3, h4⟩ := hc
      obtain ⟨hi, z, hz, hzs, hsz⟩ := cu h1 ρ
      cases h4
      obtain ⟨e1, rfl⟩ := dY h
      obtain ⟨args⟩ := args
      obtain ⟨argTypes⟩ := argTypes
      simp only at ha ht
      subst ha; subst ht
      have hg := pJ (ty := type) hr hu hi hz hzs e1 (he _ (by simp [Op.operands, Call.operands]) x' h3)
      obtain ⟨r, w', ρ', e1, e2, e3, e4⟩ := dB (v := .undef) hg (fun ρ' r q => by rw [q.2]; exact ⟨[], rfl, rfl⟩)
      refine ⟨r, w', ρ', ?_, e2, e3, e4⟩
      simp only [execOp, resolve, Sem.run_bind, Sem.run_pure, Result.andThen_ok, invoke, builtin]
      rw [show Array.map ea (⟨[x]⟩ : Array Operand) = #[ea x] from by apply Array.ext'; simp]
      simp only [Sem.run_bind, Sem.run_pure] at e1; exact e1
    · rename_i kt et hu
      simp only [bind, Option.bind_eq_some_iff] at hc
      obtain ⟨x', h3, h4⟩ := hc
      cases h4
      obtain ⟨e1, rfl⟩ := dY h
      obtain ⟨args⟩ := args
      obtain ⟨argTypes⟩ := argTypes
      simp only at ha ht
      subst ha; subst ht
      have hg := pK (ty := type) hr hu e1 (he _ (by simp [Op.operands, Call.operands]) x' h3)
      obtain ⟨r, w', ρ', e1, e2, e3, e4⟩ := dB (v := .undef) hg (fun ρ' r q => by rw [q.2]; exact ⟨[], rfl, rfl⟩)
      refine ⟨r, w', ρ', ?_, e2, e3, e4⟩
      simp only [execOp, resolve, Sem.run_bind, Sem.run_pure, Result.andThen_ok, invoke, builtin]
      rw [show Array.map ea (⟨[x]⟩ : Array Operand) = #[ea x] from by apply Array.ext'; simp]
      simp only [Sem.run_bind, Sem.run_pure] at e1; exact e1
    · cases hc
  · cases hc
 ·
  rename_i args argTypes
  split at hc
  · rename_i m kk t u ha ht
    split at hc
    · rename_i kt et hu
      simp only [bind, Option.bind_eq_some_iff] at hc
      obtain ⟨ke, h1, m', h3, k', h4, h5⟩ := hc
      cases h5
      obtain ⟨e1, rfl⟩ := dY h
      obtain ⟨args⟩ := args
      obtain ⟨argTypes⟩ := argTypes
      simp only at ha ht
      subst ha; subst ht
      have hg := pG (ty := type) hr hu h1 (by decide) u e1 (he _ (by simp [Op.operands, Call.operands]) m' h3) (he _ (by simp [Op.operands, Call.operands]) k' h4)
      obtain ⟨r, w', ρ', e1, e2, e3, e4⟩ := dB (v := .undef) hg (fun ρ' r q => by rw [q.2]; exact ⟨[], rfl, rfl⟩)
      refine ⟨r, w', ρ', ?_, e2, e3, e4⟩
      simp only [execOp, resolve, Sem.run_bind, Sem.run_pure, Result.andThen_ok, invoke, builtin]
      rw [show Array.map ea (⟨[m, kk]⟩ : Array Operand) = #[ea m, ea kk] from by apply Array.ext'; simp]
      simp only [Sem.run_bind, Sem.run_pure] at e1; exact e1
    · cases hc
  · cases hc
 ·
  split at hc
  · rename_i e hu hd
    split at hc
    · rename_i he'
      simp only [bind, Option.bind_eq_some_iff] at hc
      obtain ⟨x, h1, h2⟩ := hc
      cases h2
      exact dB (xQ hr hu hd he' h (he _ (by simp [Op.operands]) x h1)) (fun ρ' r q => q)
    · cases hc
  · cases hc
 · cases hc
def bC (P : Program) (f : Nat) : Prop := ∃ fn, P.funcs[f]? = some fn ∧ fn.body.isSome = true ∧ (fn.name == "runtime.NumGoroutine") = false
theorem dR {f : Nat} {args : Array Value} (h : bC P f) : (callFunc f args).run P w = .ok (.enter f args) w := by
 obtain ⟨fn, h1, h2, h3⟩ := h
 unfold callFunc
 simp only [Sem.run_bind, run_program, Result.andThen_ok, h1]
 have h2' : fn.body.isNone = false := by cases hb : fn.body with
  | none => rw [hb] at h2; cases h2
  | some _ => rfl
 simp [h3, h2']
theorem xn {t f : Nat} {name : String} {v : Value} (h : F7 P t name = some f) (n : Nat) : (method (n + 1) t v name).run P w = .ok (f, v) w := by
 unfold F7 at h
 split at h
 · rename_i i e hi hu
   split at h
   · rename_i m hm
     split at h
     · rename_i hp
       split at h
       · rename_i f' hf
         cases h
         have hti : (typeInfo t).run P w = .ok i w := by simp [typeInfo, program, Sem.run, hi]
         have hpath : m.path.toList = [] := by simpa using hp
         unfold method
         rw [ag hti]
         simp only [hm]
         rw [hpath]
         simp only [follow, Sem.run_bind, Sem.run_pure, Result.andThen_ok, hf, receiverAt, an w hu, Place.get]
       · cases h
     · cases h
   · cases h
 · cases h
theorem HD {o : Oper} {k : KC} {f : Nat} {args : List AV} (hfun : ∀ f, ea (.func f) = .func (.func f) #[] #[]) (he : ∀ x ∈ o.op.operands, EvR ρ ev ea G x) (hc : nL G o.op = some k) (h : clK P k ev = some (f, args)) (hf : bC P f) :
 ∃ args', (execOp ea o).run P w = .ok (.enter f (List.toArray args')) w ∧ VRs ρ args args' := by
 obtain ⟨dst, op, type, pos, after, guard⟩ := o
 simp only at hc
 have hmap : ∀ (l : Array Operand), Array.map ea l = (l.toList.map ea).toArray := fun l => by apply Array.ext'; simp
 have hval : ∀ {x : Operand} {y : Opnd} {args0 : Array Operand} {m : List Opnd} {tys : Array TypeId}, EvR ρ ev ea G x → (∀ z ∈ args0.toList, EvR ρ ev ea G z) → aF G x = some y → aD (aF G) args0.toList = some m → clK P (.val y m) ev = some (f, args) →
  ∃ args', (execOp ea ⟨dst, .call { callee := .value x, args := args0, argTypes := tys }, type, pos, after, guard⟩).run P w = .ok (.enter f (List.toArray args')) w ∧ VRs ρ args args' := by
  intro x y args0 m tys hx0 hz0 h1 h2 h3
  simp only [clK] at h3
  have r1 := hx0 y h1
  revert h3 r1
  generalize ev y = yv
  intro h3 r1
  cases yv <;> simp only at h3 <;> (try cases h3)
  rename_i a b
  obtain ⟨a', b', e1, e2, e3⟩ := r1
  refine ⟨a' ++ (args0.toList.map ea ++ b'), ?_, VRs.append e2 (VRs.append (dW hz0 h2) e3)⟩
  simp only [execOp, resolve, e1, Deferred.ofValue, Sem.run_bind, Sem.run_pure, Result.andThen_ok, invoke, dR hf]
  congr 2
  rw [hmap]
  simp
 unfold nL at hc
 split at hc
 ·
  rename_i f0 args0 tys
  simp only [bind, Option.bind_eq_some_iff] at hc
  obtain ⟨m, h1, h2⟩ := hc
  cases h2
  simp only [clK] at h
  cases h
  refine ⟨args0.toList.map ea, ?_, dW (fun z hz => he z (by simp only [Op.operands, Call.operands]; exact Array.mem_append.2 (.inr (Array.mem_toList_iff.1 hz)))) h1⟩
  simp only [execOp, resolve, hfun, Deferred.ofValue, Sem.run_bind, Sem.run_pure, Result.andThen_ok, invoke, dR hf]
  rw [hmap]
  simp
 · rename_i x args0 tys hne
   simp only [bind, Option.bind_eq_some_iff] at hc
   obtain ⟨y, h1, m, h2, h3⟩ := hc
   cases h3
   exact hval (he x (by simp [Op.operands, Call.operands])) (fun z hz => he z (by simp only [Op.operands, Call.operands]; exact Array.mem_append.2 (.inr (Array.mem_toList_iff.1 hz)))) h1 h2 h
 · rename_i x name args0 tys
   simp only [bind, Option.bind_eq_some_iff] at hc
   obtain ⟨y, h1, m, h2, h3⟩ := hc
   cases h3
   simp only [clK] at h
   have r1 := he x (by simp [Op.operands, Call.operands]) y h1
   revert h r1
   generalize ev y = yv
   intro h r1
   cases yv <;> simp only at h <;> (try cases h)
   rename_i t v
   obtain ⟨v', e1, e2⟩ := r1
   cases hm : F7 P t name with
   | none => rw [hm] at h; cases h
   | some f' =>
    rw [hm] at h; cases h
    refine ⟨v' :: args0.toList.map ea, ?_, ⟨_, _, rfl, e2, dW (fun z hz => he z (by simp only [Op.operands, Call.operands]; exact Array.mem_append.2 (.inr (Array.mem_toList_iff.1 hz)))) h2⟩⟩
    have hmet : (method (P.types.size + Made.depth) t v' name).run P w = .ok (f, v') w := xn hm _
    simp only [execOp, resolve, Sem.run_bind, Sem.run_pure, Result.andThen_ok, invoke, e1]
    rw [hmap]
    have hx : (#[Value.iface t v'] ++ (args0.toList.map ea).toArray)[0]? = some (.iface t v') := by simp
    simp only [hx, callMethod, Sem.run_bind, run_program, Result.andThen_ok, hmet]
    rw [dR hf]
    congr 2
    apply Array.ext'
    simp [List.take_of_length_le]
 · cases hc
end
end
noncomputable section
structure QI where
 dst : Option Nat
 g : Option (Nat × Bool)
 k : KOp
abbrev aa := Nat → List AV → AHeap → Option (AV × AHeap)
def bW (tm : Tr AV) (t : Nat) : AV := match tm.get? t with
 | some v => v
 | none => .undef
def fJ (tm : Tr AV) (dst : Option Nat) (v : AV) : Tr AV := match dst with
 | some d => tm.set d v
 | none => tm
def isB (v : AV) (b : Bool) : Bool := match v with
 | .bool c => HQ c b
 | _ => false
def mG (g : Option (Nat × Bool)) (tm : Tr AV) : Bool := match g with
 | none => true
 | some (t, b) => isB (bW tm t) b
def opK (P : Program) (call : aa) (k : KOp) (ev : Opnd → AV) (H : AHeap) : Option (AV × AHeap) := match k with
 | .r k => match rdK k ev H with
  | some v => some (v, H)
  | none => none
 | .n k => match nwK k ev with
  | some (o, m) => some (m.val H.n, H.add o)
  | none => none
 | .w k => wrK k ev H
 | .c k => match clK P k ev with
  | some (f, args) => call f args H
  | none => none
 | .x => none
def dy (P : Program) (call : aa) : List QI → Tr AV → AHeap → Option (Tr AV × AHeap)
 | [], tm, H => some (tm, H)
 | q :: r, tm, H => cond (mG q.g tm) (match opK P call q.k (Opnd.ev tm) H with
  | some (v, H') => dy P call r (fJ tm q.dst v) H'
  | none => none) (dy P call r (fJ tm q.dst .undef) H)
def dE (ops : Array Oper) : Option (Nat × Bool) → Option (Option (Nat × Bool))
 | none => some none
 | some (j, b) => match (ops[j]?).bind (·.dst) with
  | some t => some (some (t, b))
  | none => none
def gj (P : Program) (G : List Nat) (ops : Array Oper) (o : Oper) : Option QI := do
 let g ← dE ops o.guard
 let k ← comp P G o.op
 some ⟨o.dst, g, k⟩
def ct (P : Program) (base : Nat) (G : List Nat) (call : aa) : Prop := ∀ f args H v H', call f args H = some (v, H') → bC P f ∧
 ∀ ρ w args', HR base ρ H w → Gl G ρ → VRs ρ args args' → Calls P f (List.toArray args') w fun e w' => ∃ ρ' v', e = .returned v' ∧ VR ρ' v v' ∧ HR base ρ' H' w' ∧ Ext ρ H w ρ' H' w'
section
variable {P : Program} {base : Nat} {ρ : Ren} {H : AHeap} {w : World} {G : List Nat} {ev : Opnd → AV} {a : Act} {K : Act → World → Prop} {Q : Exit → Act → World → Prop}
theorem TR.put {tm : Tr AV} {dst : Option Nat} {v : AV} {v' : Value} (h : TR ρ tm a) (hv : VR ρ v v') : TR ρ (fJ tm dst v) (a.put dst v') := by
 cases dst with
 | none => exact h
 | some d =>
  refine ⟨?_, fun t u hu => ?_⟩
  · show (tm.set d v).Full (a.tmps.setIfInBounds d v').size
    rw [Array.size_setIfInBounds]; exact h.1.set _ _
  · show ∃ u', (a.tmps.setIfInBounds d v')[t]? = some u' ∧ _
    have hu' : (tm.set d v).get? t = some u := hu
    by_cases e : t = d
    · subst e
      rw [Tr.get?_set_same] at hu'
      cases hg : tm.get? t with
      | none => rw [hg] at hu'; cases hu'
      | some x =>
       rw [hg] at hu'; cases hu'
       have : t < a.tmps.size := (h.1 t).1 (by rw [hg]; rfl)
       exact ⟨v', by rw [Array.getElem?_setIfInBounds_self_of_lt this], hv⟩
    · rw [Tr.get?_set_ne _ _ _ _ e] at hu'
      obtain ⟨u', e1, e2⟩ := h.2 t u hu'
      exact ⟨u', by rw [Array.getElem?_setIfInBounds_ne (fun q => e q.symm)]; exact e1, e2⟩
theorem dZ : VR ρ AV.undef undef := ⟨[], rfl, rfl⟩
theorem DB {o : Oper} {k : KR} {v : AV} (hr : HR base ρ H w) (he : ∀ x ∈ o.op.operands, EvR ρ ev a.eval G x) (hc : lB P G o.op = some k) (h : rdK k ev H = some v)
 (hK : ∀ v', VR ρ v v' → K (a.put o.dst v') w) : o.wp P a w K Q := by
 obtain ⟨v', e1, e2⟩ := Ga hr he hc h
 unfold Oper.wp
 rw [e1]
 exact hK v' e2
theorem GP {o : Oper} {k : KN} {ob : AObj} {m : Mk} (hlow : base ≤ w.heap.size) (he : ∀ x ∈ o.op.operands, EvR ρ ev a.eval G x) (hc : lC P G o.op = some k) (h : nwK k ev = some (ob, m))
 (hK : ∀ obj v', (∀ b, ρ b = none → ∃ L, L.blk = w.heap.size ∧ OR base (ρ.upd b L) L ob { w with heap := w.heap.push obj } ∧ VR (ρ.upd b L) (m.val b) v') → K (a.put o.dst v') { w with heap := w.heap.push obj }) : o.wp P a w K Q := by
 obtain ⟨s, e1, obj, v', e2, e3⟩ := GN (P := P) hlow he hc h
 unfold Oper.wp
 rw [e1, ag e2]
 exact hK obj v' e3
theorem FW {o : Oper} {k : KW} {v : AV} {H' : AHeap} (hr : HR base ρ H w) (he : ∀ x ∈ o.op.operands, EvR ρ ev a.eval G x) (hc : nI P G o.op = some k) (h : wrK k ev H = some (v, H'))
 (hK : ∀ ρ' v' w', VR ρ' v v' → HR base ρ' H' w' → Ext ρ H w ρ' H' w' → K (a.put o.dst v') w') : o.wp P a w K Q := by
 obtain ⟨r, w', ρ', e1, e2, e3, e4⟩ := FX (P := P) hr he hc h
 unfold Oper.wp
 rw [e1]
 cases r <;> try exact e2.elim
 · exact hK ρ' _ w' e2 e3 e4
 · have : v = .undef := e2
   subst this
   exact hK ρ' undef w' dZ e3 e4
theorem MB {call : aa} {o : Oper} {k : KC} {f : Nat} {args : List AV} {v : AV} {H' : AHeap} (hcall : ct P base G call) (hr : HR base ρ H w) (hg : Gl G ρ) (he : ∀ x ∈ o.op.operands, EvR ρ ev a.eval G x)
 (hc : nL G o.op = some k) (h : clK P k ev = some (f, args)) (h2 : call f args H = some (v, H'))
 (hK : ∀ ρ' v' w', VR ρ' v v' → HR base ρ' H' w' → Ext ρ H w ρ' H' w' → K (a.put o.dst v') w') : o.wp P a w K Q := by
 obtain ⟨hcb, hcs⟩ := hcall f args H v H' h2
 obtain ⟨args', e1, e2⟩ := HD (P := P) (w := w) (ea := a.eval) (fun f => rfl) he hc h hcb
 unfold Oper.wp
 rw [e1]
 refine (hcs ρ w args' hr hg e2).mono ?_
 rintro e w' ⟨ρ', v', rfl, q1, q2, q3⟩
 exact hK ρ' v' w' q1 q2 q3
theorem iV {op : Op} {k : KOp} (h : comp P G op = some k) :
 (∃ r, k = .r r ∧ lB P G op = some r) ∨ (∃ r, k = .n r ∧ lC P G op = some r) ∨ (∃ r, k = .w r ∧ nI P G op = some r) ∨ (∃ r, k = .c r ∧ nL G op = some r) ∨ k = .x := by
 unfold comp at h
 rw [Fl, Fm, Fj, Fs] at h
 cases h1 : lB P G op with
 | some r => rw [h1] at h; cases h; exact .inl ⟨r, rfl, rfl⟩
 | none =>
  rw [h1] at h
  cases h2 : lC P G op with
  | some r => rw [h2] at h; cases h; exact .inr (.inl ⟨r, rfl, rfl⟩)
  | none =>
   rw [h2] at h
   cases h3 : nI P G op with
   | some r => rw [h3] at h; cases h; exact .inr (.inr (.inl ⟨r, rfl, rfl⟩))
   | none =>
    rw [h3] at h
    cases h4 : nL G op with
    | some r => rw [h4] at h; cases h; exact .inr (.inr (.inr (.inl ⟨r, rfl, rfl⟩)))
    | none => rw [h4] at h; cases h; exact .inr (.inr (.inr (.inr rfl)))
theorem GH {call : aa} {o : Oper} {k : KOp} {v : AV} {H' : AHeap} (hcall : ct P base G call) (hr : HR base ρ H w) (hg : Gl G ρ) (he : ∀ x ∈ o.op.operands, EvR ρ ev a.eval G x)
 (hc : comp P G o.op = some k) (h : opK P call k ev H = some (v, H'))
 (hK : ∀ ρ' v' w', VR ρ' v v' → HR base ρ' H' w' → Ext ρ H w ρ' H' w' → K (a.put o.dst v') w') : o.wp P a w K Q := by
 rcases iV hc with ⟨r, rfl, h1⟩ | ⟨r, rfl, h1⟩ | ⟨r, rfl, h1⟩ | ⟨r, rfl, h1⟩ | rfl
 · simp only [opK] at h
   cases hv : rdK r ev H with
   | none => rw [hv] at h; cases h
   | some u => rw [hv] at h; cases h; exact DB hr he h1 hv fun v' q => hK ρ v' w q hr (Ext.refl _ _ _)
 · simp only [opK] at h
   cases hv : nwK r ev with
   | none => rw [hv] at h; cases h
   | some x =>
    obtain ⟨ob, m⟩ := x
    rw [hv] at h; cases h
    refine GP hr.low he h1 hv fun obj v' q => ?_
    obtain ⟨L, q1, q2, q3⟩ := q H.n (hr.none (Nat.le_refl _))
    obtain ⟨f1, f2⟩ := hr.new q1 q2
    exact hK _ v' _ q3 f1 f2
 · exact FW hr he h1 h hK
 · simp only [opK] at h
   cases hv : clK P r ev with
   | none => rw [hv] at h; cases h
   | some x =>
    obtain ⟨f, args⟩ := x
    rw [hv] at h
    exact MB hcall hr hg he h1 hv h hK
 · cases h
structure SR (P : Program) (base : Nat) (G : List Nat) (ρ₀ : Ren) (H₀ : AHeap) (w₀ : World) (d : List Deferred) (ρ : Ren) (tm : Tr AV) (H : AHeap) (a : Act) (w : World) : Prop where
 tr : TR ρ tm a
 hr : HR base ρ H w
 gl : Gl G ρ
 ext : Ext ρ₀ H₀ w₀ ρ H w
 defers : a.defers = d
theorem lg (a : Act) (x : Option Tmp) (v : Value) : (a.put x v).defers = a.defers := by cases x <;> rfl
theorem SR.step {ρ₀ : Ren} {H₀ : AHeap} {w₀ : World} {d : List Deferred} {tm : Tr AV} {dst : Option Nat} {ρ' : Ren} {v : AV} {v' : Value} {H' : AHeap} {w' : World} (h : SR P base G ρ₀ H₀ w₀ d ρ tm H a w) (hv : VR ρ' v v') (hr : HR base ρ' H' w') (he : Ext ρ H w ρ' H' w') :
 SR P base G ρ₀ H₀ w₀ d ρ' (fJ tm dst v) H' (a.put dst v') w' :=
 have hs := h.hr.sub he
 ⟨(h.tr.mono hs).put hv, hr, h.gl.mono hs, h.ext.trans he, by rw [lg]; exact h.defers⟩
theorem iz {ops : Array Oper} {_g0 : Option (Nat × Bool)} {g : Option (Nat × Bool)} {o : Oper} {tm : Tr AV} (hg : dE ops o.guard = some g) (htr : TR ρ tm a) : Region.wanted o (yielded ops a.tmps) = mG g tm := by
 unfold Region.wanted
 cases hgo : o.guard with
 | none => rw [hgo] at hg; cases hg; rfl
 | some jb =>
  obtain ⟨j, b⟩ := jb
  rw [hgo] at hg
  simp only [dE] at hg
  cases ht : (ops[j]?).bind (·.dst) with
  | none => rw [ht] at hg; cases hg
  | some t =>
   rw [ht] at hg; cases hg
   simp only [yielded, ht, Option.bind_some, mG, bW]
   cases hv : tm.get? t with
   | none =>
    have : a.tmps[t]? = none := by
     apply Array.getElem?_eq_none
     rcases Nat.lt_or_ge t a.tmps.size with c | c
     · have := (htr.1 t).2 c; rw [hv] at this; cases this
     · exact c
    rw [this]; rfl
   | some v =>
    obtain ⟨v', e1, e2⟩ := htr.2 t v hv
    rw [e1]
    cases v
    case bool c =>
     have : v' = .bool c := e2
     subst this
     simp only [isB]
     rw [fT]
     cases c <;> cases b <;> rfl
    all_goals
     simp only [isB]
     first
      | (have e3 : v' = _ := e2; subst e3; rfl)
      | (obtain ⟨_, _, rfl⟩ := e2; rfl)
      | (obtain ⟨_, _, _, _, rfl, _⟩ := e2; rfl)
      | (obtain ⟨_, _, rfl, _⟩ := e2; rfl)
      | (obtain ⟨_, rfl, _⟩ := e2; rfl)
theorem Hg {call : aa} {ops : Array Oper} (hcall : ct P base G call) {ρ₀ : Ren} {H₀ : AHeap} {w₀ : World} {d : List Deferred} {tm' : Tr AV} {H' : AHeap} :
 ∀ (l : List Oper) (qs : List QI) (is : List Nat), l.length = is.length → (∀ (j i : Nat) (o : Oper), is[j]? = some i → l[j]? = some o → ops[i]? = some o) → aD (gj P G ops) l = some qs →
  ∀ {tm : Tr AV} {H : AHeap} {ρ : Ren} {a : Act} {w : World}, SR P base G ρ₀ H₀ w₀ d ρ tm H a w → dy P call qs tm H = some (tm', H') →
   (∀ ρ' a' w', SR P base G ρ₀ H₀ w₀ d ρ' tm' H' a' w' → Q .normal a' w') → wpOps P ops Q is a w := by
 intro l
 induction l with
 | nil =>
  intro qs is hl _ hq tm H ρ a w hs h hQ
  cases hq; cases h
  cases is with
  | nil => exact hQ ρ a w hs
  | cons => simp at hl
 | cons o l ih =>
  intro qs is hl hops hq tm H ρ a w hs h hQ
  cases is with
  | nil => simp at hl
  | cons i is =>
   simp only [aD] at hq
   cases hq1 : gj P G ops o with
   | none => rw [hq1] at hq; cases hq
   | some q =>
    rw [hq1] at hq
    cases hq2 : aD (gj P G ops) l with
    | none => rw [hq2] at hq; cases hq
    | some qs' =>
     rw [hq2] at hq; cases hq
     simp only [gj, bind, Option.bind_eq_some_iff] at hq1
     obtain ⟨g, hg, k, hk, hqe⟩ := hq1
     cases hqe
     have hoi : ops[i]? = some o := hops 0 i o rfl rfl
     have hl' : l.length = is.length := by simpa using hl
     have hops' : ∀ (j i' : Nat) (o' : Oper), is[j]? = some i' → l[j]? = some o' → ops[i']? = some o' := fun j i' o' h1 h2 => hops (j + 1) i' o' (by simpa using h1) (by simpa using h2)
     rw [wpOps_cons]
     unfold wpOp
     simp only [hoi]
     rw [iz (_g0 := o.guard) hg hs.tr]
     simp only [dy] at h
     cases hw : mG g tm with
     | false =>
      rw [hw] at h
      simp only [Bool.false_eq_true, if_false]
      exact ih qs' is hl' hops' hq2 (hs.step dZ hs.hr (Ext.refl _ _ _)) h hQ
     | true =>
      rw [hw] at h
      simp only [cond_true] at h
      simp only [if_true]
      cases hop : opK P call k (Opnd.ev tm) H with
      | none => rw [hop] at h; cases h
      | some x =>
       obtain ⟨v, H1⟩ := x
       rw [hop] at h
       refine .inl (GH hcall hs.hr hs.gl (fun x _ => EvR.of_TR hs.tr hs.gl x) hk hop fun ρ' v' w' q1 q2 q3 => ?_)
       exact ih qs' is hl' hops' hq2 (hs.step q1 q2 q3) h hQ
end
end
noncomputable section
structure DI where
 idx : Nat
 dst : Option Nat
 g : Option (Nat × Bool)
 k : KOp
 looks : List Nat
 deps : List Nat
 anc : Nat
 olds : List Nat
inductive DE where
 | q (d : DI)
 | l (d : DI) (chks : List DI)
def fq (n : Nat) : List Nat → Bool
 | [] => false
 | m :: r => cond (Nat.beq n m) true (fq n r)
def dm (m n : Nat) : Bool := Nat.beq (Nat.mod (Nat.shiftRight m n) 2) 1
theorem m8 (m n : Nat) : dm m n = m.testBit n := by
 rw [Nat.testBit_eq_decide_div_mod_eq]
 unfold dm
 rw [show Nat.shiftRight m n = m >>> n from rfl, Nat.shiftRight_eq_div_pow]
 show Nat.beq (m / 2 ^ n % 2) 1 = _
 cases h : Nat.beq (m / 2 ^ n % 2) 1 with
 | true => simp [Nat.eq_of_beq_eq_true h]
 | false => simp [Nat.ne_of_beq_eq_false h]
def ev2 (olds : List Nat) (tm0 tm : Tr AV) (x : Opnd) : AV := match x with
 | .tmp t => cond (fq t olds) (bW tm0 t) (bW tm t)
 | .con v => v
 | .glob g => .ptr g 0
 | .fn f => .fn f [] []
def eE (g : Option (Nat × Bool)) (ev : Opnd → AV) : Bool := match g with
 | none => true
 | some (t, b) => isB (ev (.tmp t)) b
def iw (P : Program) (call : aa) (d : DI) (ev : Opnd → AV) (H : AHeap) : Option (AV × AHeap) := cond (eE d.g ev) (opK P call d.k ev H) (some (.undef, H))
def Dx (dst : Option Nat) (tm : Tr AV) (v : AV) : Bool := match dst with
 | none => true
 | some t => AV.beq v (bW tm t)
def vP (d : DI) (ev : Opnd → AV) (tm : Tr AV) (H : AHeap) : Bool := cond (eE d.g ev) (match d.k with
 | .r k => match rdK k ev H with
  | some v => Dx d.dst tm v
  | none => false
 | _ => false) true
def iA (tm0 tm : Tr AV) (H : AHeap) : List DI → Bool
 | [] => true
 | d :: r => cond (vP d (ev2 d.olds tm0 tm) tm H) (iA tm0 tm H r) false
def evD (P : Program) (call : aa) (tm0 : Tr AV) : List DE → Tr AV → AHeap → Option (Tr AV × AHeap)
 | [], tm, H => some (tm, H)
 | .q d :: r, tm, H => match iw P call d (ev2 d.olds tm0 tm) H with
  | some (v, H') => evD P call tm0 r (fJ tm d.dst v) H'
  | none => none
 | .l d chks :: r, tm, H => match iw P call d (ev2 d.olds tm0 tm) H with
  | some (v, H') => cond (iA tm0 (fJ tm d.dst v) H' chks) (evD P call tm0 r (fJ tm d.dst v) H') none
  | none => none
def DE.it : DE → DI
 | .q d => d
 | .l d _ => d
def isQ : KOp → Bool
 | .n _ => true
 | .r _ => true
 | _ => false
def QB : KR → Bool
 | .load _ _ => false
 | .slice _ _ _ _ _ => false
 | .look _ _ _ _ _ => false
 | .len _ _ => false
 | _ => true
def isP : KOp → Bool
 | .n _ => true
 | .r k => QB k
 | _ => false
theorem Gb {k : KR} (h : QB k = true) (ev : Opnd → AV) (H H' : AHeap) : rdK k ev H = rdK k ev H' := by
 cases k <;> first | rfl | cases h
theorem xX {sz : Option Nat} {x : AV} {H H' : AHeap} {v : AV} (hm : ∀ b o, H.get b = some o → H'.get b = some o) (h : ah sz H x = some v) : ah sz H' x = some v := by
 cases x with
 | ptr b o =>
  unfold ah at *
  simp only at h ⊢
  cases hb : H.get b with
  | none => rw [hb] at h; cases h
  | some ob => rw [hb] at h; rw [hm _ _ hb]; exact h
 | _ => cases h
theorem wi {esz : Nat} {x : AV} {lo hi mx : Option AV} {H H' : AHeap} {v : AV} (hm : ∀ b o, H.get b = some o → H'.get b = some o) (h : bT esz H x lo hi mx = some v) : bT esz H' x lo hi mx = some v := by
 cases x with
 | sl b o len cap =>
  cases cap with
  | some c => exact h
  | none =>
   unfold bT at *
   simp only at h ⊢
   cases hb : H.get b with
   | some ob => rw [hb] at h; rw [hm _ _ hb]; exact h
   | none =>
    rw [hb] at h
    cases hp : dK 0 lo with
    | none => rw [hp] at h; exact h
    | some l =>
     rw [hp] at h
     cases hq : dK len hi with
     | none => rw [hq] at h; exact h
     | some u =>
      rw [hq] at h
      cases mx with
      | some m => exact h
      | none =>
       simp only at h
       cases hle : Nat.ble l u with
       | false => rw [hle] at h; cases h
       | true => rw [hle] at h; cases h
 | _ => exact h
theorem xW {k : EqK} {z : AV} {ok : Bool} {m key : AV} {H H' : AHeap} {v : AV} (hm : ∀ b o, H.get b = some o → H'.get b = some o) (h : gm k z ok H m key = some v) : gm k z ok H' m key = some v := by
 unfold gm at *
 cases hk : eL k key with
 | false => rw [hk] at h; cases h
 | true =>
  rw [hk] at h
  simp only [cond_true] at h ⊢
  cases m with
  | map b =>
   simp only at h ⊢
   cases hb : H.get b with
   | none => rw [hb] at h; cases h
   | some ob => rw [hb] at h; rw [hm _ _ hb]; exact h
  | _ => exact h
theorem FE {k : LenK} {x : AV} {H H' : AHeap} {v : AV} (hm : ∀ b o, H.get b = some o → H'.get b = some o) (h : aw k H x = some v) : aw k H' x = some v := by
 cases x with
 | map b =>
  cases k with
  | map =>
   unfold aw at *
   simp only at h ⊢
   cases hb : H.get b with
   | none => rw [hb] at h; cases h
   | some ob => rw [hb] at h; rw [hm _ _ hb]; exact h
  | _ => exact h
 | _ => cases k <;> exact h
theorem Gc {k : KR} {ev : Opnd → AV} {H H' : AHeap} {v : AV} (hm : ∀ b o, H.get b = some o → H'.get b = some o) (h : rdK k ev H = some v) : rdK k ev H' = some v := by
 cases k with
 | load sz x => exact xX hm h
 | slice esz x lo hi mx => exact wi hm h
 | look k z ok m key => exact xW hm h
 | len k x => exact FE hm h
 | _ => exact h
def rq (o : Oper) : List Nat := (o.after.toList.filter (Region.binds .any)).map (·.on)
def xP (T : List Nat) : List Nat → Nat
 | [] => 0
 | e :: r => Nat.lor (Nat.lor (Nat.pow 2 e) (T.getD e 0)) (xP T r)
def nd (P : Program) (G : List Nat) (ops : Array Oper) : Nat → List Oper → List Nat → Option (List DI)
 | _, [], _ => some []
 | i, o :: r, T => match dE ops o.guard, comp P G o.op with
  | some g, some k =>
   let deps := rq o
   let anc := xP T deps
   match nd P G ops (i + 1) r (T ++ [anc]) with
   | some l => some (⟨i, o.dst, g, k, o.looksAt ops, deps, anc, []⟩ :: l)
   | none => none
  | _, _ => none
def bm (d : DI) (t : Nat) : Bool := match d.dst with
 | some u => Nat.beq u t
 | none => false
def Zz (l : List DI) (d : DI) : List Nat := d.looks.filter fun t => l.any fun p => bm p t && !dm d.anc p.idx
def cY (l : List DI) : List DI := l.map fun d => { d with olds := Zz l d }
def a1i (seen : Nat) (d : DI) : Bool := !dm seen d.idx && (Nat.beq (Nat.land d.anc seen) d.anc)
def jO (l : List DI) : Nat → Nat → List DI → List DE
 | 0, _, _ => []
 | f + 1, seen, rd => match l.find? fun d => a1i seen d && isQ d.k with
  | some d => .q d :: jO l f (Nat.lor seen (Nat.pow 2 d.idx)) (cond (isP d.k) rd (rd ++ [d]))
  | none => match l.find? fun d => a1i seen d with
   | some d => .l d (rd.filter fun c => !dm d.anc c.idx) :: jO l f (Nat.lor seen (Nat.pow 2 d.idx)) rd
   | none => []
def Hs (i : Nat) (l : List DI) : Bool := l.any fun d => Nat.beq d.idx i
def DK (T : List Nat) (l : List DI) : Bool := l.all fun d => (d.deps.all fun e => Nat.ble (e + 1) d.idx) && Nat.beq d.anc (xP T d.deps)
def qP (L : List DE) (n : Nat) : Bool := (List.range n).all fun i => L.any fun x => Nat.beq x.it.idx i
def gK : List DI → Bool
 | [] => true
 | d :: r => (match d.dst with
  | some t => r.all fun p => !bm p t
  | none => true) && gK r
def qO (l : List DI) : Bool := l.all fun d => d.looks.all fun t => l.all fun p => !bm p t || cond (fq t d.olds) (Nat.beq p.idx d.idx || dm p.anc d.idx) (dm d.anc p.idx)
def eI : List DE → List DE → Bool
 | _, [] => true
 | pre, .q d :: r => isQ d.k && (r.all fun x => !Nat.beq x.it.idx d.idx) && (d.looks.all fun t => fq t d.olds || (!bm d t && r.all fun x => !bm x.it t)) && eI (pre ++ [.q d]) r
 | pre, .l d chks :: r => (r.all fun x => !Nat.beq x.it.idx d.idx && dm x.it.anc d.idx) && (d.looks.all fun t => fq t d.olds || (!bm d t && r.all fun x => !bm x.it t)) &&
  (pre.all fun x => match x with
   | .q q => isP q.k || dm d.anc q.idx || Hs q.idx chks
   | .l _ _ => true) &&
  (chks.all fun c => isQ c.k && (pre.any fun x => match x with
   | .q q => Nat.beq q.idx c.idx
   | .l _ _ => false)) && eI (pre ++ [.l d chks]) r
def okD (n : Nat) (l : List DI) (L : List DE) : Bool := DK (l.map (·.anc)) l && (qP L n && (gK l && (qO l && eI [] L)))
def lE (P : Program) (G : List Nat) (ops : Array Oper) : Option (List DE) := match nd P G ops 0 ops.toList [] with
 | none => none
 | some l0 =>
  let l := cY l0
  let L := jO l ops.size 0 []
  cond (okD ops.size l L && Region.noSelect ops) (some L) none
end
noncomputable section
section
variable {P : Program} {G : List Nat} {ops : Array Oper}
structure ItemAt (P : Program) (G : List Nat) (ops : Array Oper) (d : DI) (o : Oper) : Prop where
 pos : ops[d.idx]? = some o
 dst : d.dst = o.dst
 g : dE ops o.guard = some d.g
 k : comp P G o.op = some d.k
 looks : d.looks = o.looksAt ops
 deps : d.deps = rq o
structure Stat (P : Program) (G : List Nat) (ops : Array Oper) (l : List DI) (L : List DE) : Prop where
 len : l.length = ops.size
 pos : ∀ (j : Nat) (d : DI), l[j]? = some d → d.idx = j ∧ ∃ o, ItemAt P G ops d o
 mem : ∀ x ∈ L, x.it ∈ l
 chk : ∀ d chks, DE.l d chks ∈ L → ∀ c ∈ chks, c ∈ l
 ok : okD ops.size l L = true
theorem H7 : ∀ {r : List Oper} {i : Nat} {T : List Nat} {l : List DI}, nd P G ops i r T = some l → (∀ (j : Nat), r[j]? = ops[i + j]?) →
 l.length = r.length ∧ ∀ (j : Nat) (d : DI), l[j]? = some d → d.idx = i + j ∧ ∃ o, ItemAt P G ops d o := by
 intro r
 induction r with
 | nil => intro i T l h _; cases h; exact ⟨rfl, fun j d hd => by simp at hd⟩
 | cons o r ih =>
  intro i T l h hr
  simp only [nd] at h
  cases hg : dE ops o.guard with
  | none => rw [hg] at h; cases h
  | some g =>
   cases hk : comp P G o.op with
   | none => rw [hg, hk] at h; cases h
   | some k =>
    rw [hg, hk] at h
    simp only at h
    cases hm : nd P G ops (i + 1) r (T ++ [xP T (rq o)]) with
    | none => rw [hm] at h; cases h
    | some l' =>
     rw [hm] at h; cases h
     obtain ⟨e1, e2⟩ := ih hm (fun j => by have := hr (j + 1); simpa [Nat.add_assoc, Nat.add_comm 1 j] using this)
     refine ⟨by simp [e1], fun j d hd => ?_⟩
     cases j with
     | zero =>
      simp at hd; subst hd
      exact ⟨rfl, o, ⟨by have := hr 0; simpa using this.symm, rfl, hg, hk, rfl, rfl⟩⟩
     | succ j =>
      obtain ⟨f1, f2⟩ := e2 j d (by simpa using hd)
      exact ⟨by rw [f1]; omega, f2⟩
theorem qv {l : List DI} : ∀ (f seen : Nat) (rd : List DI), (∀ c ∈ rd, c ∈ l) → ∀ x ∈ jO l f seen rd, x.it ∈ l ∧ ∀ d chks, x = DE.l d chks → ∀ c ∈ chks, c ∈ l := by
 intro f
 induction f with
 | zero => intro _ _ _ x hx; simp [jO] at hx
 | succ f ih =>
  intro seen rd hrd x hx
  simp only [jO] at hx
  split at hx
  · rename_i d hd
    rcases List.mem_cons.1 hx with rfl | hx
    · exact ⟨List.mem_of_find?_eq_some hd, fun _ _ e => by cases e⟩
    · refine ih _ _ (fun c hc => ?_) x hx
      cases hp : isP d.k <;> rw [hp] at hc
      · simp only [cond_false, List.mem_append, List.mem_singleton] at hc
        rcases hc with hc | rfl
        · exact hrd c hc
        · exact List.mem_of_find?_eq_some hd
      · exact hrd c hc
  · split at hx
    · rename_i d hd
      rcases List.mem_cons.1 hx with rfl | hx
      · exact ⟨List.mem_of_find?_eq_some hd, fun d' chks e c hc => by cases e; exact hrd c ((List.mem_filter.1 hc).1)⟩
      · exact ih _ _ hrd x hx
    · cases hx
theorem xK {L : List DE} (h : lE P G ops = some L) : ∃ l, Stat P G ops l L := by
 unfold lE at h
 split at h
 · cases h
 · rename_i l0 hl
   simp only at h
   cases hc : (okD ops.size (cY l0) (jO (cY l0) ops.size 0 []) && Region.noSelect ops) with
   | false => rw [hc] at h; cases h
   | true =>
    rw [hc] at h; cases h
    simp only [Bool.and_eq_true] at hc
    obtain ⟨e1, e2⟩ := H7 hl (fun j => by simp)
    refine ⟨cY l0, ⟨by simp [cY, e1], fun j d hd => ?_, fun x hx => (qv _ _ _ (fun _ h => by cases h) x hx).1, fun d chks hx c hcc => (qv _ _ _ (fun _ h => by cases h) _ hx).2 d chks rfl c hcc, hc.1⟩⟩
    simp only [cY, List.getElem?_map, Option.map_eq_some_iff] at hd
    obtain ⟨d0, hd0, rfl⟩ := hd
    obtain ⟨f1, o, f2⟩ := e2 j d0 hd0
    exact ⟨by simpa using f1, o, ⟨f2.pos, f2.dst, f2.g, f2.k, f2.looks, f2.deps⟩⟩
variable {l : List DI} {L : List DE}
theorem Stat.idx (S : Stat P G ops l L) {d : DI} (h : d ∈ l) : l[d.idx]? = some d ∧ d.idx < ops.size := by
 obtain ⟨j, hj⟩ := List.getElem?_of_mem h
 have := (S.pos j d hj).1
 refine ⟨by rw [this]; exact hj, ?_⟩
 rw [this, ← S.len]
 rcases Nat.lt_or_ge j l.length with c | c
 · exact c
 · rw [List.getElem?_eq_none c] at hj; cases hj
theorem Stat.uniq (S : Stat P G ops l L) {d d' : DI} (h : d ∈ l) (h' : d' ∈ l) (e : d.idx = d'.idx) : d = d' := by
 have h1 := (S.idx h).1
 have h2 := (S.idx h').1
 rw [e] at h1
 exact Option.some.inj (h1.symm.trans h2)
theorem Stat.item (S : Stat P G ops l L) {d : DI} (h : d ∈ l) : ∃ o, ItemAt P G ops d o := by
 obtain ⟨j, hj⟩ := List.getElem?_of_mem h
 exact (S.pos j d hj).2
theorem Stat.get (S : Stat P G ops l L) {i : Nat} (h : i < ops.size) : ∃ d, d ∈ l ∧ d.idx = i := by
 have hi : i < l.length := by rw [S.len]; exact h
 exact ⟨l[i], List.getElem_mem hi, (S.pos i _ (List.getElem?_eq_getElem hi)).1⟩
theorem Stat.oks (S : Stat P G ops l L) : DK (l.map (·.anc)) l = true ∧ qP L ops.size = true ∧ gK l = true ∧ qO l = true ∧ eI [] L = true := by
 have := S.ok
 simp only [okD, Bool.and_eq_true] at this
 exact this
theorem Stat.cover (S : Stat P G ops l L) {d : DI} (h : d ∈ l) : ∃ x ∈ L, x.it = d := by
 have h1 := S.oks.2.1
 simp only [qP, List.all_eq_true, List.mem_range, List.any_eq_true] at h1
 obtain ⟨x, hx, e⟩ := h1 d.idx (S.idx h).2
 exact ⟨x, hx, S.uniq (S.mem x hx) h (Nat.eq_of_beq_eq_true e)⟩
theorem Stat.back (S : Stat P G ops l L) {d : DI} (h : d ∈ l) {e : Nat} (he : e ∈ d.deps) : e < d.idx := by
 have h1 := S.oks.1
 simp only [DK, List.all_eq_true, Bool.and_eq_true] at h1
 exact Nat.le_of_ble_eq_true ((h1 d h).1 e he)
theorem we {T : List Nat} {j : Nat} : ∀ {deps : List Nat}, dm (xP T deps) j = true → ∃ e ∈ deps, e = j ∨ dm (T.getD e 0) j = true
 | [], h => by simp [xP, m8] at h
 | e :: r, h => by
  rw [m8] at h
  simp only [xP] at h
  rw [show ∀ a b : Nat, Nat.lor a b = a ||| b from fun _ _ => rfl, Nat.testBit_or, show ∀ a b : Nat, Nat.lor a b = a ||| b from fun _ _ => rfl, Nat.testBit_or, show Nat.pow 2 e = 2 ^ e from rfl, Nat.testBit_two_pow] at h
  simp only [Bool.or_eq_true, decide_eq_true_eq] at h
  rcases h with (h | h) | h
  · exact ⟨e, List.mem_cons_self, .inl h⟩
  · exact ⟨e, List.mem_cons_self, .inr (by rw [m8]; exact h)⟩
  · obtain ⟨e', h1, h2⟩ := we (deps := r) (by rw [m8]; exact h)
    exact ⟨e', List.mem_cons_of_mem _ h1, h2⟩
def Dk (l : List DI) (listed : Array Bool) : Prop := ∀ d ∈ l, listed.getD d.idx false = true → ∀ e ∈ d.deps, listed.getD e false = true
theorem Stat.anc (S : Stat P G ops l L) {listed : Array Bool} (hc : Dk l listed) : ∀ (n : Nat) {d : DI}, d.idx = n → d ∈ l → (∀ e ∈ d.deps, listed.getD e false = true) → ∀ {j : Nat}, dm d.anc j = true → listed.getD j false = true := by
 intro n
 induction n using Nat.strongRecOn with
 | _ n ih =>
  intro d hn hd hdeps j hj
  have h1 := S.oks.1
  simp only [DK, List.all_eq_true, Bool.and_eq_true] at h1
  rw [Nat.eq_of_beq_eq_true (h1 d hd).2] at hj
  obtain ⟨e, he, h2⟩ := we hj
  rcases h2 with rfl | h2
  · exact hdeps _ he
  · have hlt := S.back hd he
    obtain ⟨d', hd', hi⟩ := S.get (Nat.lt_trans hlt (S.idx hd).2)
    have hT : (l.map (·.anc)).getD e 0 = d'.anc := by
     have := (S.idx hd').1
     rw [hi] at this
     simp [this]
    rw [hT] at h2
    exact ih e (by omega) hi hd' (hc d' hd' (by rw [hi]; exact hdeps e he)) h2
theorem bY {d : DI} {t : Nat} : bm d t = true ↔ d.dst = some t := by
 unfold bm
 cases d.dst with
 | none => simp
 | some u =>
  cases h : Nat.beq u t with
  | true => simp [Nat.eq_of_beq_eq_true h]
  | false => simp [Nat.ne_of_beq_eq_false h]
theorem l7 : ∀ {l : List DI}, gK l = true → ∀ (i j : Nat) (p q : DI) (t : Nat), l[i]? = some p → l[j]? = some q → p.dst = some t → q.dst = some t → i = j
 | [], _, i, j, p, q, t, hp, _, _, _ => by simp at hp
 | d :: r, h, i, j, p, q, t, hp, hq, hpt, hqt => by
  simp only [gK, Bool.and_eq_true] at h
  have hno : ∀ {x : DI} (k : Nat), r[k]? = some x → d.dst = some t → x.dst = some t → False := fun {x} k hx hd hxt => by
   have h1 := h.1
   rw [hd] at h1
   simp only [List.all_eq_true] at h1
   have := h1 x (List.mem_of_getElem? hx)
   rw [bY.2 hxt] at this
   cases this
  cases i with
  | zero =>
   simp at hp; subst hp
   cases j with
   | zero => rfl
   | succ j => exact (hno j (by simpa using hq) hpt hqt).elim
  | succ i =>
   cases j with
   | zero => simp at hq; subst hq; exact (hno i (by simpa using hp) hqt hpt).elim
   | succ j => rw [l7 h.2 i j p q t (by simpa using hp) (by simpa using hq) hpt hqt]
theorem Stat.single (S : Stat P G ops l L) {p q : DI} {t : Nat} (hp : p ∈ l) (hq : q ∈ l) (h1 : p.dst = some t) (h2 : q.dst = some t) : p = q :=
 S.uniq hp hq (l7 S.oks.2.2.1 _ _ p q t (S.idx hp).1 (S.idx hq).1 h1 h2)
theorem Stat.looks (S : Stat P G ops l L) {d p : DI} {t : Nat} (hd : d ∈ l) (hp : p ∈ l) (ht : t ∈ d.looks) (h : p.dst = some t) :
 if fq t d.olds = true then (p.idx = d.idx ∨ dm p.anc d.idx = true) else dm d.anc p.idx = true := by
 have h1 := S.oks.2.2.2.1
 simp only [qO, List.all_eq_true, Bool.or_eq_true] at h1
 have := h1 d hd t ht p hp
 rw [bY.2 h] at this
 simp only [Bool.not_true, Bool.false_eq_true, false_or] at this
 cases hm : fq t d.olds with
 | true =>
  rw [hm] at this
  simp only [cond_true, Bool.or_eq_true] at this
  simp only [if_true]
  exact this.imp Nat.eq_of_beq_eq_true id
 | false => rw [hm] at this; simpa using this
theorem iI : ∀ (a : List DE) {pre r : List DE}, eI pre (a ++ r) = true → eI (pre ++ a) r = true
 | [], pre, r, h => by simpa using h
 | .q d :: a, pre, r, h => by
  simp only [List.cons_append, eI, Bool.and_eq_true] at h
  have := iI a h.2
  simpa using this
 | .l d c :: a, pre, r, h => by
  simp only [List.cons_append, eI, Bool.and_eq_true] at h
  have := iI a h.2
  simpa using this
theorem Stat.run (S : Stat P G ops l L) {pre r : List DE} (h : L = pre ++ r) : eI pre r = true := by
 have := S.oks.2.2.2.2
 rw [h] at this
 simpa using iI pre this
theorem Km {_d : DI} : ∀ {a b : List DE}, eI a b = true → ∀ (p r : List DE) (x : DE), b = p ++ x :: r → (∀ y ∈ r, y.it.idx ≠ x.it.idx) ∧ (∀ t ∈ x.it.looks, fq t x.it.olds = false → bm x.it t = false ∧ ∀ y ∈ r, bm y.it t = false) ∧ (∀ d, x = .q d → isQ d.k = true) := by
 intro a b
 induction b generalizing a with
 | nil => intro _ p r x e; simp at e
 | cons z b ih =>
  intro h p r x e
  cases p with
  | cons z' p =>
   simp only [List.cons_append, List.cons.injEq] at e
   obtain ⟨rfl, e⟩ := e
   cases z <;> simp only [eI, Bool.and_eq_true] at h <;> exact ih h.2 p r x e
  | nil =>
   simp only [List.nil_append, List.cons.injEq] at e
   obtain ⟨rfl, rfl⟩ := e
   cases z with
   | q d =>
    simp only [eI, Bool.and_eq_true, List.all_eq_true] at h
    obtain ⟨⟨⟨h1, h2⟩, h3⟩, _⟩ := h
    refine ⟨fun y hy e => ?_, fun t ht hm => ?_, fun d' e => by cases e; exact h1⟩
    · have := h2 y hy
      rw [show Nat.beq y.it.idx d.idx = true from by rw [show y.it.idx = d.idx from e]; exact Nat.beq_refl _] at this
      cases this
    · have := h3 t ht
      rw [show fq t d.olds = false from hm] at this
      simp only [Bool.false_or, Bool.and_eq_true, Bool.not_eq_true', List.all_eq_true] at this
      exact this
   | l d c =>
    simp only [eI, Bool.and_eq_true, List.all_eq_true] at h
    obtain ⟨⟨⟨⟨h2, h3⟩, _⟩, _⟩, _⟩ := h
    refine ⟨fun y hy e => ?_, fun t ht hm => ?_, fun d' e => by cases e⟩
    · have := (h2 y hy).1
      rw [show Nat.beq y.it.idx d.idx = true from by rw [show y.it.idx = d.idx from e]; exact Nat.beq_refl _] at this
      cases this
    · have := h3 t ht
      rw [show fq t d.olds = false from hm] at this
      simp only [Bool.false_or, Bool.and_eq_true, Bool.not_eq_true', List.all_eq_true] at this
      exact this
theorem Stat.after (S : Stat P G ops l L) {p r : List DE} {x : DE} (h : L = p ++ x :: r) :
 (∀ y ∈ r, y.it.idx ≠ x.it.idx) ∧ (∀ t ∈ x.it.looks, fq t x.it.olds = false → bm x.it t = false ∧ ∀ y ∈ r, bm y.it t = false) ∧ (∀ d, x = .q d → isQ d.k = true) :=
 Km (_d := x.it) S.oks.2.2.2.2 p r x h
theorem Stat.apart (S : Stat P G ops l L) {pre r : List DE} (h : L = pre ++ r) {x y : DE} (hx : x ∈ pre) (hy : y ∈ r) : y.it.idx ≠ x.it.idx ∧ (∀ t ∈ x.it.looks, fq t x.it.olds = false → bm y.it t = false) := by
 obtain ⟨a, b, rfl⟩ := List.append_of_mem hx
 have := S.after (p := a) (r := b ++ r) (x := x) (by rw [h]; simp)
 exact ⟨this.1 y (List.mem_append_right _ hy), fun t ht hm => (this.2.1 t ht hm).2 y (List.mem_append_right _ hy)⟩
theorem Stat.loud (S : Stat P G ops l L) {pre r : List DE} {d : DI} {chks : List DI} (h : L = pre ++ .l d chks :: r) :
 (∀ x ∈ r, dm x.it.anc d.idx = true) ∧ (∀ q, DE.q q ∈ pre → isP q.k = true ∨ dm d.anc q.idx = true ∨ q ∈ chks) ∧ (∀ c ∈ chks, DE.q c ∈ pre) := by
 have h1 := S.run h
 simp only [eI, Bool.and_eq_true, List.all_eq_true] at h1
 obtain ⟨⟨⟨⟨h2, _⟩, h3⟩, h4⟩, _⟩ := h1
 have hcl : ∀ c ∈ chks, c ∈ l := S.chk d chks (by rw [h]; simp)
 have hpl : ∀ q, DE.q q ∈ pre → q ∈ l := fun q hq => S.mem (.q q) (by rw [h]; exact List.mem_append_left _ hq)
 refine ⟨fun x hx => (h2 x hx).2, fun q hq => ?_, fun c hc => ?_⟩
 · have := h3 _ hq
   simp only [Bool.or_eq_true, Hs, List.any_eq_true] at this
   rcases this with (h5 | h5) | ⟨c, hc, h5⟩
   · exact .inl h5
   · exact .inr (.inl h5)
   · refine .inr (.inr ?_)
     rw [S.uniq (hpl q hq) (hcl c hc) (Nat.eq_of_beq_eq_true h5).symm]; exact hc
 · have := (h4 c hc).2
   simp only [List.any_eq_true] at this
   obtain ⟨x, hx, h5⟩ := this
   cases x with
   | l _ _ => cases h5
   | q q => rw [S.uniq (hcl c hc) (hpl q hx) (Nat.eq_of_beq_eq_true h5).symm]; exact hx
structure EnvOK (tm0 tmF : Tr AV) (d : DI) (ev : Opnd → AV) : Prop where
 tmp : ∀ t ∈ d.looks, ev (.tmp t) = cond (fq t d.olds) (bW tm0 t) (bW tmF t)
 con : ∀ v, ev (.con v) = v
 glob : ∀ g, ev (.glob g) = .ptr g 0
 fn : ∀ f, ev (.fn f) = .fn f [] []
def Res (tm0 tmF : Tr AV) (d : DI) (v : AV) : Prop := ∀ t, d.dst = some t → tmF.get? t = (tm0.get? t).map fun _ => v
def TrP (P : Program) (call : aa) (tm0 tmF : Tr AV) : List DE → AHeap → AHeap → Prop
 | [], H, HF => H = HF
 | .q d :: r, H, HF => ∃ ev v H', EnvOK tm0 tmF d ev ∧ iw P call d ev H = some (v, H') ∧ Res tm0 tmF d v ∧ TrP P call tm0 tmF r H' HF
 | .l d chks :: r, H, HF => ∃ ev v H', EnvOK tm0 tmF d ev ∧ iw P call d ev H = some (v, H') ∧ Res tm0 tmF d v ∧
  (∀ c ∈ chks, ∃ ev, EnvOK tm0 tmF c ev ∧ (eE c.g ev = true → ∃ k u, c.k = .r k ∧ rdK k ev H' = some u ∧ Res tm0 tmF c u)) ∧ TrP P call tm0 tmF r H' HF
theorem DC {tm : Tr AV} {d : DI} {v : AV} {t : Nat} (h : bm d t = false) : (fJ tm d.dst v).get? t = tm.get? t := by
 cases e : d.dst with
 | none => rfl
 | some u =>
  refine Tr.get?_set_ne _ _ _ _ fun c => ?_
  subst c
  rw [bY.2 e] at h
  cases h
theorem kv (tm : Tr AV) (d : DI) (v : AV) (t : Nat) : ((fJ tm d.dst v).get? t).isSome = (tm.get? t).isSome := by
 cases e : d.dst with
 | none => rfl
 | some u =>
  show ((tm.set u v).get? t).isSome = _
  by_cases c : t = u
  · subst c; rw [Tr.get?_set_same]; simp
  · rw [Tr.get?_set_ne _ _ _ _ c]
variable {call : aa} {tm0 tmF : Tr AV}
theorem eu : ∀ (r : List DE) {tm : Tr AV} {H HF : AHeap}, evD P call tm0 r tm H = some (tmF, HF) → ∀ t, (∀ x ∈ r, bm x.it t = false) → tmF.get? t = tm.get? t
 | [], tm, H, HF, h, t, _ => by cases h; rfl
 | .q d :: r, tm, H, HF, h, t, ht => by
  simp only [evD] at h
  split at h
  · rename_i v H' _
    rw [eu r h t fun x hx => ht x (List.mem_cons_of_mem _ hx)]
    exact DC (ht _ List.mem_cons_self)
  · cases h
 | .l d c :: r, tm, H, HF, h, t, ht => by
  simp only [evD] at h
  split at h
  · rename_i v H' _
    cases hk : iA tm0 (fJ tm d.dst v) H' c with
    | false => rw [hk] at h; cases h
    | true =>
     rw [hk] at h
     rw [eu r h t fun x hx => ht x (List.mem_cons_of_mem _ hx)]
     exact DC (ht (.l d c) List.mem_cons_self)
  · cases h
theorem iO {tm tm' : Tr AV} {t : Nat} (h : tm.get? t = tm'.get? t) : bW tm t = bW tm' t := by unfold bW; rw [h]
theorem Hy {d : DI} {tm : Tr AV} (h : ∀ t ∈ d.looks, fq t d.olds = false → tmF.get? t = tm.get? t) : EnvOK tm0 tmF d (ev2 d.olds tm0 tm) := {
 tmp t ht := by
  simp only [ev2]
  cases hm : fq t d.olds with
  | true => rfl
  | false => exact iO (h t ht hm).symm
 con _ := rfl
 glob _ := rfl
 fn _ := rfl}
theorem nM {tm : Tr AV} {H : AHeap} : ∀ {cs : List DI}, iA tm0 tm H cs = true → ∀ c ∈ cs, vP c (ev2 c.olds tm0 tm) tm H = true
 | [], _, c, hc => by cases hc
 | d :: r, h, c, hc => by
  simp only [iA] at h
  cases hd : vP d (ev2 d.olds tm0 tm) tm H with
  | false => rw [hd] at h; cases h
  | true =>
   rw [hd] at h
   rcases List.mem_cons.1 hc with rfl | hc
   · exact hd
   · exact nM h c hc
theorem Fg (S : Stat P G ops l L) : ∀ (r pre : List DE) {tm : Tr AV} {H HF : AHeap}, L = pre ++ r → (∀ t, (tm.get? t).isSome = (tm0.get? t).isSome) →
 evD P call tm0 r tm H = some (tmF, HF) → TrP P call tm0 tmF r H HF := by
 intro r
 induction r with
 | nil => intro pre tm H HF _ _ h; cases h; rfl
 | cons x r ih =>
  intro pre tm H HF hL hsh h
  have haf := S.after hL
  have hxl : x.it ∈ l := S.mem x (by rw [hL]; simp)
  have hrl : ∀ y ∈ r, y.it ∈ l := fun y hy => S.mem y (by rw [hL]; simp [hy])
  have hkeep := eu (x :: r) h
  have henv : EnvOK tm0 tmF x.it (ev2 x.it.olds tm0 tm) := Hy fun t ht hm => hkeep t fun y hy => by
   rcases List.mem_cons.1 hy with rfl | hy
   · exact (haf.2.1 t ht hm).1
   · exact (haf.2.1 t ht hm).2 y hy
  have hlast : ∀ (z : DI) (t : Nat), z ∈ l → z.dst = some t → (∀ y ∈ r, y.it.idx ≠ z.idx) → ∀ y ∈ r, bm y.it t = false := fun z t hz hzt hne y hy => by
   cases hd : bm y.it t with
   | false => rfl
   | true => exact (hne y hy (by rw [S.single (hrl y hy) hz (bY.1 hd) hzt])).elim
  have hres : ∀ v H', evD P call tm0 r (fJ tm x.it.dst v) H' = some (tmF, HF) → Res tm0 tmF x.it v := fun v H' he t ht => by
   rw [eu r he t (hlast _ t hxl ht haf.1), ht]
   show (tm.set t v).get? t = _
   rw [Tr.get?_set_same]
   have := hsh t
   cases h1 : tm.get? t <;> cases h2 : tm0.get? t <;> rw [h1, h2] at this <;> simp at this ⊢
  have hsh' : ∀ v, ∀ t, ((fJ tm x.it.dst v).get? t).isSome = (tm0.get? t).isSome := fun v t => by rw [kv]; exact hsh t
  have hL' : L = (pre ++ [x]) ++ r := by rw [hL]; simp
  cases x with
  | q d =>
   simp only [evD] at h
   split at h
   · rename_i v H' hst
     exact ⟨_, v, H', henv, hst, hres v H' h, ih (pre ++ [.q d]) hL' (hsh' v) h⟩
   · cases h
  | l d chks =>
   simp only [evD] at h
   split at h
   · rename_i v H' hst
     cases hk : iA tm0 (fJ tm d.dst v) H' chks with
     | false => rw [hk] at h; cases h
     | true =>
      rw [hk] at h
      simp only [cond_true] at h
      refine ⟨_, v, H', henv, hst, hres v H' h, fun c hc => ?_, ih (pre ++ [.l d chks]) hL' (hsh' v) h⟩
      have hcp := (S.loud hL).2.2 c hc
      have hcl : c ∈ l := S.chk d chks (by rw [hL]; simp) c hc
      refine ⟨ev2 c.olds tm0 (fJ tm d.dst v), Hy fun t ht hm => eu r h t fun y hy => (S.apart hL hcp (List.mem_cons_of_mem _ hy)).2 t ht hm, fun hw => ?_⟩
      have hv := nM hk c hc
      unfold vP at hv
      rw [hw] at hv
      simp only [cond_true] at hv
      cases hck : c.k with
      | r k =>
       rw [hck] at hv
       simp only at hv
       cases hrd : rdK k (ev2 c.olds tm0 (fJ tm d.dst v)) H' with
       | none => rw [hrd] at hv; cases hv
       | some u =>
        rw [hrd] at hv
        refine ⟨k, u, rfl, hrd, fun t ht => ?_⟩
        simp only [Dx, ht] at hv
        have hu := AV.beq_eq hv
        rw [eu r h t (hlast c t hcl ht fun y hy => (S.apart hL hcp (List.mem_cons_of_mem _ hy)).1)]
        have := hsh' v t
        simp only [DE.it] at this
        unfold bW at hu
        cases h1 : (fJ tm d.dst v).get? t with
        | none => rw [h1] at this; cases h2 : tm0.get? t with
         | none => rfl
         | some _ => rw [h2] at this; cases this
        | some z =>
         rw [h1] at this hu
         cases h2 : tm0.get? t with
         | none => rw [h2] at this; cases this
         | some _ => rw [hu]; rfl
      | n k => rw [hck] at hv; cases hv
      | w k => rw [hck] at hv; cases hv
      | c k => rw [hck] at hv; cases hv
      | x => rw [hck] at hv; cases hv
   · cases h
end
end
noncomputable section
section
variable {P : Program} {base : Nat} {G : List Nat} {ops : Array Oper} {l : List DI} {L : List DE} {call : aa} {tm0 tmF : Tr AV}
variable {ρ₀ : Ren} {H₀ : AHeap} {w₀ : World} {d0 : List Deferred} {HF : AHeap}
def CD (tm0 tmF : Tr AV) (n₀ : Nat) (d : DI) (H : AHeap) (ρ : Ren) (β : Nat → Option Nat) : Prop := ∃ ev v, EnvOK tm0 tmF d ev ∧ Res tm0 tmF d v ∧
 ((eE d.g ev = false ∧ v = .undef) ∨ (eE d.g ev = true ∧ ∃ k, d.k = .r k ∧ rdK k ev H = some v) ∨
  (eE d.g ev = true ∧ ∃ k ob m b, d.k = .n k ∧ nwK k ev = some (ob, m) ∧ β d.idx = some b ∧ v = m.val b ∧ H.get b = some ob ∧ ρ b = none ∧ n₀ ≤ b))
structure DInv (P : Program) (base : Nat) (G : List Nat) (l : List DI) (call : aa) (tm0 tmF : Tr AV) (ρ₀ : Ren) (H₀ : AHeap) (w₀ : World) (d0 : List Deferred) (HF : AHeap)
 (listed : Array Bool) (pre r : List DE) (H : AHeap) (ρ : Ren) (a : Act) (w : World) (β : Nat → Option Nat) : Prop where
 size : listed.size = l.length
 closed : Dk l listed
 inpre : ∀ d ∈ l, listed.getD d.idx false = true → ∃ x ∈ pre, x.it = d
 louds : ∀ d c, DE.l d c ∈ pre → listed.getD d.idx false = true
 hr : HR base ρ H w
 gl : Gl G ρ
 ext : Ext ρ₀ H₀ w₀ ρ H w
 defers : a.defers = d0
 full : tmF.Full a.tmps.size
 same : ∀ t, (tmF.get? t).isSome = (tm0.get? t).isSome
 tmps : ∀ t, (∃ p ∈ l, bm p t = true ∧ listed.getD p.idx false = false) → VR ρ (bW tm0 t) (a.tmps.getD t undef)
 tmps' : ∀ t, (∀ p ∈ l, bm p t = true → listed.getD p.idx false = true) → VR ρ (bW tmF t) (a.tmps.getD t undef)
 pend : ∀ d, DE.q d ∈ pre → listed.getD d.idx false = false → CD tm0 tmF H₀.n d H ρ β
 bnd : ∀ i b, β i = some b → b < H.n
 inj : ∀ i i' b, β i = some b → β i' = some b → i = i'
 trace : TrP P call tm0 tmF r H HF
variable {listed : Array Bool} {pre r : List DE} {H : AHeap} {ρ : Ren} {a : Act} {w : World} {β : Nat → Option Nat}
theorem Hz (S : Stat P G ops l L) (hunw : ∀ t, (∀ x ∈ L, bm x.it t = false) → tmF.get? t = tm0.get? t)
 (I : DInv P base G l call tm0 tmF ρ₀ H₀ w₀ d0 HF listed pre r H ρ a w β) {d : DI} (hd : d ∈ l) (hun : listed.getD d.idx false = false) (hdeps : ∀ e ∈ d.deps, listed.getD e false = true)
 {ev : Opnd → AV} (he : EnvOK tm0 tmF d ev) {t : Nat} (ht : t ∈ d.looks) : VR ρ (ev (.tmp t)) (a.tmps.getD t undef) := by
 rw [he.tmp t ht]
 cases hm : fq t d.olds with
 | true =>
  simp only [cond_true]
  by_cases hx : ∃ p ∈ l, bm p t = true ∧ listed.getD p.idx false = false
  · exact I.tmps t hx
  · have hall : ∀ p ∈ l, bm p t = true → listed.getD p.idx false = true := fun p hp hpt => by
     cases h : listed.getD p.idx false with
     | true => rfl
     | false => exact (hx ⟨p, hp, hpt, h⟩).elim
    have hno : ∀ p ∈ l, bm p t = false := fun p hp => by
     cases h : bm p t with
     | false => rfl
     | true =>
      have h1 := S.looks hd hp ht (bY.1 h)
      rw [if_pos hm] at h1
      have h2 := hall p hp h
      rcases h1 with h1 | h1
      · rw [h1, hun] at h2; cases h2
      · have := S.anc I.closed _ rfl hp (I.closed p hp h2) h1
        rw [hun] at this; cases this
    have := I.tmps' t hall
    rwa [iO (hunw t fun x hx => hno _ (S.mem x hx))] at this
 | false =>
  simp only [cond_false]
  refine I.tmps' t fun p hp hpt => ?_
  have h1 := S.looks hd hp ht (bY.1 hpt)
  rw [if_neg (by rw [hm]; simp)] at h1
  exact S.anc I.closed _ rfl hd hdeps h1
theorem xC {d : DI} {o : Oper} (hi : ItemAt P G ops d o) {ev : Opnd → AV} (he : EnvOK tm0 tmF d ev) (hg : Gl G ρ) (hv : ∀ t ∈ d.looks, VR ρ (ev (.tmp t)) (a.tmps.getD t undef)) :
 ∀ x ∈ o.op.operands, EvR ρ ev a.eval G x := by
 intro x hx k hk
 cases x with
 | tmp t =>
  cases hk
  refine hv t ?_
  rw [hi.looks]
  exact List.mem_append_left _ (List.mem_filterMap.2 ⟨.tmp t, by simpa using hx, rfl⟩)
 | const v =>
  simp only [aF, Option.map_eq_some_iff] at hk
  obtain ⟨a', h1, rfl⟩ := hk
  rw [he.con]
  exact eJ h1 ρ
 | global g =>
  simp only [aF] at hk
  split at hk
  · rename_i c
    cases hk
    obtain ⟨L, e, r1, r2⟩ := hg g c
    rw [he.glob]
    exact ⟨L, e, by rw [r1, r2]; rfl⟩
  · cases hk
 | func f => cases hk; rw [he.fn]; exact ⟨[], [], rfl, rfl, rfl⟩
theorem Dq {d : DI} {o : Oper} (hi : ItemAt P G ops d o) {ev : Opnd → AV} (hv : ∀ t ∈ d.looks, VR ρ (ev (.tmp t)) (a.tmps.getD t undef)) :
 Region.wanted o (yielded ops a.tmps) = eE d.g ev := by
 have hg := hi.g
 unfold Region.wanted
 cases hgo : o.guard with
 | none => rw [hgo] at hg; simp only [dE, Option.some.injEq] at hg; rw [← hg]; rfl
 | some jb =>
  obtain ⟨j, b⟩ := jb
  rw [hgo] at hg
  simp only [dE] at hg
  cases ht : (ops[j]?).bind (·.dst) with
  | none => rw [ht] at hg; cases hg
  | some t =>
   rw [ht] at hg
   simp only [Option.some.injEq] at hg
   rw [← hg]
   have hl : t ∈ d.looks := by
    rw [hi.looks]
    exact List.mem_append_right _ (by rw [hgo]; simp [ht])
   have h1 := hv t hl
   simp only [yielded, ht, Option.bind_some, eE]
   rw [Array.getD_eq_getD_getElem?] at h1
   cases hx : a.tmps[t]? with
   | none =>
    rw [hx] at h1
    simp only [Option.getD_none] at h1
    cases hev : ev (.tmp t) <;> rw [hev] at h1 <;> simp only [isB] <;> first | rfl | (cases h1; done)
   | some v' =>
    rw [hx] at h1
    simp only [Option.getD_some] at h1
    cases hev : ev (.tmp t) <;> rw [hev] at h1 <;> simp only [isB]
    case bool c =>
     have : v' = .bool c := h1
     subst this
     rw [fT]
     cases c <;> cases b <;> rfl
    all_goals
     first
      | (have e3 : v' = _ := h1; subst e3; rfl)
      | (obtain ⟨_, _, rfl⟩ := h1; rfl)
      | (obtain ⟨_, _, _, _, rfl, _⟩ := h1; rfl)
      | (obtain ⟨_, _, rfl, _⟩ := h1; rfl)
      | (obtain ⟨_, rfl, _⟩ := h1; rfl)
theorem nA {i j : Nat} (h : i < listed.size) : (listed.setIfInBounds i true).getD j false = if j = i then true else listed.getD j false := by
 by_cases e : j = i
 · subst e; simp [h]
 · rw [if_neg e]; exact getD_set_ne false (fun c => e c.symm)
theorem Fe {listed : Array Bool} {i : Nat} (h : listed.getD i true = false) : listed.getD i false = false := by
 rcases Nat.lt_or_ge i listed.size with h' | h'
 · simp [h'] at h ⊢; exact h
 · simp [Array.getElem?_eq_none h'] at h
theorem M8 {listed : Array Bool} {i : Nat} (hi : i < listed.size) (h : listed.getD i false = false) : listed.getD i true = false := by
 simp [hi] at h ⊢; exact h
theorem gv (m j : Nat) : (Array.replicate m false).getD j false = false := by
 rcases Nat.lt_or_ge j m with h | h
 · simp [h]
 · simp [h]
theorem G1 (S : Stat P G ops l L) (I : DInv P base G l call tm0 tmF ρ₀ H₀ w₀ d0 HF listed pre r H ρ a w β) {d : DI} (hd : d ∈ l) {ρ' : Ren} (hs : Sub ρ ρ') {v : AV} {v' : Value} (hv : VR ρ' v v') (hres : Res tm0 tmF d v) :
 (∀ t, (∃ p ∈ l, bm p t = true ∧ (listed.setIfInBounds d.idx true).getD p.idx false = false) → VR ρ' (bW tm0 t) ((a.put d.dst v').tmps.getD t undef)) ∧
 (∀ t, (∀ p ∈ l, bm p t = true → (listed.setIfInBounds d.idx true).getD p.idx false = true) → VR ρ' (bW tmF t) ((a.put d.dst v').tmps.getD t undef)) := by
 have hlt : d.idx < listed.size := by rw [I.size, S.len]; exact (S.idx hd).2
 have hne : ∀ t, bm d t = false → (a.put d.dst v').tmps.getD t undef = a.tmps.getD t undef := fun t ht => by
  cases e : d.dst with
  | none => rfl
  | some u =>
   have : u ≠ t := fun c => by subst c; rw [bY.2 e] at ht; cases ht
   show (a.tmps.setIfInBounds u v').getD t undef = _
   rw [Array.getD_eq_getD_getElem?, Array.getD_eq_getD_getElem?, Array.getElem?_setIfInBounds_ne this]
 have heq : ∀ t, bm d t = true → VR ρ' (bW tmF t) ((a.put d.dst v').tmps.getD t undef) := fun t ht => by
  have e := bY.1 ht
  have h1 := hres t e
  rw [e]
  show VR ρ' _ ((a.tmps.setIfInBounds t v').getD t undef)
  rw [Array.getD_eq_getD_getElem?]
  unfold bW
  rcases Nat.lt_or_ge t a.tmps.size with c | c
  · have h2 : (tmF.get? t).isSome = true := (I.full t).2 c
    rw [Array.getElem?_setIfInBounds_self_of_lt c]
    cases h3 : tm0.get? t with
    | none => rw [h1, h3] at h2; cases h2
    | some z => rw [h1, h3]; exact hv
  · rw [I.full.none c, Array.getElem?_eq_none (by simpa using c)]
    exact dZ
 refine ⟨fun t ⟨p, hp, hpt, hpu⟩ => ?_, fun t hall => ?_⟩
 · rw [nA hlt] at hpu
   by_cases e : p.idx = d.idx
   · rw [if_pos e] at hpu; cases hpu
   · rw [if_neg e] at hpu
     have : bm d t = false := by
      cases h : bm d t with
      | false => rfl
      | true => exact (e (by rw [S.single hp hd (bY.1 hpt) (bY.1 h)])).elim
     rw [hne t this]
     exact (I.tmps t ⟨p, hp, hpt, hpu⟩).mono hs
 · cases h : bm d t with
   | true => exact heq t h
   | false =>
    rw [hne t h]
    refine (I.tmps' t fun p hp hpt => ?_).mono hs
    have := hall p hp hpt
    rw [nA hlt] at this
    by_cases e : p.idx = d.idx
    · rw [S.uniq hp hd e, h] at hpt; cases hpt
    · rw [if_neg e] at this; exact this
theorem EM {d : DI} {o : Oper} (hi : ItemAt P G ops d o) {ev ev' : Opnd → AV} (h : EnvOK tm0 tmF d ev) (h' : EnvOK tm0 tmF d ev') : eE d.g ev = eE d.g ev' := by
 have hg := hi.g
 cases hgo : o.guard with
 | none => rw [hgo] at hg; simp only [dE, Option.some.injEq] at hg; rw [← hg]; rfl
 | some jb =>
  obtain ⟨j, b⟩ := jb
  rw [hgo] at hg
  simp only [dE] at hg
  cases ht : (ops[j]?).bind (·.dst) with
  | none => rw [ht] at hg; cases hg
  | some t =>
   rw [ht] at hg
   simp only [Option.some.injEq] at hg
   rw [← hg]
   have hl : t ∈ d.looks := by
    rw [hi.looks]
    exact List.mem_append_right _ (by rw [hgo]; simp [ht])
   simp only [eE]
   rw [h.tmp t hl, h'.tmp t hl]
theorem E1 (S : Stat P G ops l L) : ∀ (r pre : List DE) (H : AHeap) (β : Nat → Option Nat), L = pre ++ r → DInv P base G l call tm0 tmF ρ₀ H₀ w₀ d0 HF listed pre r H ρ a w β →
 ∃ pre' r' H' β', L = pre' ++ r' ∧ DInv P base G l call tm0 tmF ρ₀ H₀ w₀ d0 HF listed pre' r' H' ρ a w β' ∧ ∀ d r'', r' ≠ .q d :: r'' := by
 intro r
 induction r with
 | nil => intro pre H β hL I; exact ⟨pre, [], H, β, hL, I, fun _ _ h => by cases h⟩
 | cons x r ih =>
  intro pre H β hL I
  cases x with
  | l d c => exact ⟨pre, _, H, β, hL, I, fun _ _ h => by cases h⟩
  | q d =>
   obtain ⟨ev, v, H', henv, hst, hres, htr⟩ := I.trace
   have hL' : L = (pre ++ [.q d]) ++ r := by rw [hL]; simp
   have hdl : d ∈ l := S.mem (.q d) (by rw [hL]; simp)
   have hq : isQ d.k = true := (S.after hL).2.2 d rfl
   have hnew : d.idx ∉ pre.map (·.it.idx) := fun h => by
    obtain ⟨x, hx, e⟩ := List.mem_map.1 h
    exact (S.apart hL hx (y := .q d) List.mem_cons_self).1 e.symm
   have hun : listed.getD d.idx false = false := by
    cases h : listed.getD d.idx false with
    | false => rfl
    | true =>
     obtain ⟨x, hx, e⟩ := I.inpre d hdl h
     exact (hnew (List.mem_map.2 ⟨x, hx, by rw [e]⟩)).elim
   have hpre : ∀ d' ∈ l, listed.getD d'.idx false = true → ∃ x ∈ pre ++ [.q d], x.it = d' := fun d' h1 h2 => let ⟨x, hx, e⟩ := I.inpre d' h1 h2; ⟨x, List.mem_append_left _ hx, e⟩
   have hlo : ∀ d' c, DE.l d' c ∈ pre ++ [.q d] → listed.getD d'.idx false = true := fun d' c h => by
    rcases List.mem_append.1 h with h | h
    · exact I.louds d' c h
    · simp at h
   unfold iw at hst
   cases hw : eE d.g ev with
   | false =>
    rw [hw] at hst
    cases hst
    refine ih (pre ++ [.q d]) H β hL' ⟨I.size, I.closed, hpre, hlo, I.hr, I.gl, I.ext, I.defers, I.full, I.same, I.tmps, I.tmps', fun d' h1 h2 => ?_, I.bnd, I.inj, htr⟩
    rcases List.mem_append.1 h1 with h1 | h1
    · exact I.pend d' h1 h2
    · simp only [List.mem_singleton, DE.q.injEq] at h1
      subst h1
      exact ⟨ev, _, henv, hres, .inl ⟨hw, rfl⟩⟩
   | true =>
    rw [hw] at hst
    simp only [cond_true] at hst
    cases hk : d.k with
    | w k => rw [hk] at hq; cases hq
    | c k => rw [hk] at hq; cases hq
    | x => rw [hk] at hq; cases hq
    | r k =>
     rw [hk] at hst
     simp only [opK] at hst
     cases hrd : rdK k ev H with
     | none => rw [hrd] at hst; cases hst
     | some u =>
      rw [hrd] at hst; cases hst
      refine ih (pre ++ [.q d]) H β hL' ⟨I.size, I.closed, hpre, hlo, I.hr, I.gl, I.ext, I.defers, I.full, I.same, I.tmps, I.tmps', fun d' h1 h2 => ?_, I.bnd, I.inj, htr⟩
      rcases List.mem_append.1 h1 with h1 | h1
      · exact I.pend d' h1 h2
      · simp only [List.mem_singleton, DE.q.injEq] at h1
        subst h1
        exact ⟨ev, _, henv, hres, .inr (.inl ⟨hw, k, hk, hrd⟩)⟩
    | n k =>
     rw [hk] at hst
     simp only [opK] at hst
     cases hnw : nwK k ev with
     | none => rw [hnw] at hst; cases hst
     | some om =>
      obtain ⟨ob, m⟩ := om
      rw [hnw] at hst; cases hst
      have hget : ∀ b, (H.add ob).get b = if b = H.n then some ob else H.get b := AHeap.get_add I.hr ob
      have hmono : ∀ b o, H.get b = some o → (H.add ob).get b = some o := fun b o hb => by
       rw [hget, if_neg]
       · exact hb
       · intro e
         subst e
         have := I.hr.full.none (Nat.le_refl H.n)
         rw [show H.get H.n = none from this] at hb; cases hb
      refine ih (pre ++ [.q d]) (H.add ob) (fun i => if i = d.idx then some H.n else β i) hL' ⟨I.size, I.closed, hpre, hlo, I.hr.add ob, I.gl, I.ext.trans (Ext.add I.hr ob), I.defers, I.full, I.same, I.tmps, I.tmps', fun d' h1 h2 => ?_, fun i b hb => ?_, fun i i' b h1 h2 => ?_, htr⟩
      · rcases List.mem_append.1 h1 with h1 | h1
        · have hne : d'.idx ≠ d.idx := fun e => hnew (List.mem_map.2 ⟨.q d', h1, e⟩)
          obtain ⟨ev', v', q1, q2, q3⟩ := I.pend d' h1 h2
          refine ⟨ev', v', q1, q2, ?_⟩
          rcases q3 with q3 | ⟨q3, k', q4, q5⟩ | ⟨q3, k', ob', m', b, q4, q5, q6, q7, q8, q9, q10⟩
          · exact .inl q3
          · exact .inr (.inl ⟨q3, k', q4, Gc hmono q5⟩)
          · exact .inr (.inr ⟨q3, k', ob', m', b, q4, q5, (if_neg hne).trans q6, q7, hmono _ _ q8, q9, q10⟩)
        · simp only [List.mem_singleton, DE.q.injEq] at h1
          subst h1
          exact ⟨ev, _, henv, hres, .inr (.inr ⟨hw, k, ob, m, H.n, hk, hnw, if_pos rfl, rfl, by rw [hget, if_pos rfl], I.hr.none (Nat.le_refl _), I.ext.n⟩)⟩
      · show b < H.n + 1
        have hb : (if i = d.idx then some H.n else β i) = some b := hb
        split at hb
        · cases hb; exact Nat.lt_succ_self _
        · exact Nat.lt_succ_of_lt (I.bnd i b hb)
      · have h1 : (if i = d.idx then some H.n else β i) = some b := h1
        have h2 : (if i' = d.idx then some H.n else β i') = some b := h2
        split at h1 <;> split at h2
        · rename_i e1 e2; rw [e1, e2]
        · cases h1; have := I.bnd i' _ h2; omega
        · cases h2; have := I.bnd i _ h1; omega
        · exact I.inj i i' b h1 h2
theorem Fh (S : Stat P G ops l L) (hcall : ct P base G call) (hunw : ∀ t, (∀ x ∈ L, bm x.it t = false) → tmF.get? t = tm0.get? t) {Q : Exit → Act → World → Prop}
 (hQ : ∀ ρ' a' w', SR P base G ρ₀ H₀ w₀ d0 ρ' tmF HF a' w' → Q .normal a' w') :
 ∀ (fuel : Nat) (listed : Array Bool) (pre r : List DE) (H : AHeap) (ρ : Ren) (a : Act) (w : World) (β : Nat → Option Nat) (un : List Nat), L = pre ++ r → DInv P base G l call tm0 tmF ρ₀ H₀ w₀ d0 HF listed pre r H ρ a w β →
  un.length ≤ fuel → (∀ i, i < ops.size → listed.getD i false = false → i ∈ un) → wpAny P .any ops Q fuel listed a w := by
 have hready : ∀ {listed : Array Bool} {j : Nat}, j ∈ Region.ready .any ops listed → listed.size = l.length → listed.getD j false = false ∧ ∃ d ∈ l, d.idx = j ∧ ∀ e ∈ d.deps, listed.getD e false = true := by
  intro listed j hj hsz
  obtain ⟨h1, o, h2, h3⟩ := mem_ready.1 hj
  have hj' := dV h2
  obtain ⟨d, hd, hi⟩ := S.get hj'
  obtain ⟨o', hit⟩ := S.item hd
  have : o' = o := Option.some.inj ((by rw [← hi]; exact hit.pos.symm : some o' = ops[j]?).trans h2)
  subst this
  refine ⟨Fe h1, d, hd, hi, fun e he => ?_⟩
  rw [hit.deps] at he
  simp only [rq, List.mem_map, List.mem_filter] at he
  obtain ⟨ed, ⟨h4, h5⟩, rfl⟩ := he
  exact h3 ed (by simpa using h4) h5
 have hdone : ∀ (listed : Array Bool) (pre r : List DE) (H : AHeap) (ρ : Ren) (a : Act) (w : World) (β : Nat → Option Nat), L = pre ++ r → DInv P base G l call tm0 tmF ρ₀ H₀ w₀ d0 HF listed pre r H ρ a w β →
  Region.ready .any ops listed = [] → Q .normal a w := by
  intro listed pre r H ρ a w β hL I hr
  have hall : ∀ (n i : Nat), i = n → i < ops.size → listed.getD i false = true := by
   intro n
   induction n using Nat.strongRecOn with
   | _ n ih =>
    intro i hn hi
    cases hx : listed.getD i false with
    | true => rfl
    | false =>
     obtain ⟨d, hd, hdi⟩ := S.get hi
     obtain ⟨o, hit⟩ := S.item hd
     have : i ∈ Region.ready .any ops listed := mem_ready.2 ⟨M8 (by rw [I.size, S.len]; exact hi) hx, o, by rw [← hdi]; exact hit.pos, fun e he hb => by
      have hin : e.on ∈ d.deps := by
       rw [hit.deps]
       exact List.mem_map.2 ⟨e, List.mem_filter.2 ⟨by simpa using he, hb⟩, rfl⟩
      have := S.back hd hin
      exact ih e.on (by omega) e.on rfl (by omega)⟩
     rw [hr] at this; cases this
  obtain ⟨pre', r', H', β', hL', I', hnq⟩ := E1 S r pre H β hL I
  have hr' : r' = [] := by
   cases r' with
   | nil => rfl
   | cons x r'' =>
    have hxl : x.it ∈ l := S.mem x (by rw [hL']; simp)
    obtain ⟨y, hy, e⟩ := I'.inpre x.it hxl (hall _ _ rfl (S.idx hxl).2)
    exact ((S.apart hL' hy (y := x) List.mem_cons_self).1 (by rw [e])).elim
  subst hr'
  have hHF : H' = HF := I'.trace
  subst hHF
  refine hQ ρ a w ⟨⟨I'.full, fun t v hv => ?_⟩, I'.hr, I'.gl, I'.ext, I'.defers⟩
  have h1 := I'.tmps' t fun p hp _ => hall _ _ rfl (S.idx hp).2
  have hlt : t < a.tmps.size := (I'.full t).1 (by rw [hv]; rfl)
  unfold bW at h1
  rw [hv, Array.getD_eq_getD_getElem?, Array.getElem?_eq_getElem hlt] at h1
  exact ⟨_, Array.getElem?_eq_getElem hlt, h1⟩
 intro fuel
 induction fuel with
 | zero =>
  intro listed pre r H ρ a w β un hL I hf hun
  have hr : Region.ready .any ops listed = [] := by
   cases h : Region.ready .any ops listed with
   | nil => rfl
   | cons j s =>
    obtain ⟨h1, d, hd, hi, _⟩ := hready (j := j) (by rw [h]; exact List.mem_cons_self) I.size
    have := hun j (by rw [← hi]; exact (S.idx hd).2) h1
    cases un with
    | nil => cases this
    | cons => simp at hf
  exact ⟨hr, hdone listed pre r H ρ a w β hL I hr⟩
 | succ fuel ih =>
  intro listed pre r H ρ a w β un hL I hf hun
  refine ⟨fun hr => hdone listed pre r H ρ a w β hL I hr, fun j hj => ?_⟩
  obtain ⟨pre, r, H, β, hL, I, hnq⟩ := E1 S r pre H β hL I
  obtain ⟨hju, d, hd, rfl, hdeps⟩ := hready hj I.size
  obtain ⟨o, hit⟩ := S.item hd
  have hlt : d.idx < listed.size := by rw [I.size, S.len]; exact (S.idx hd).2
  have hset : ∀ j, (listed.setIfInBounds d.idx true).getD j false = if j = d.idx then true else listed.getD j false := fun j => nA hlt
  have hset_mono : ∀ j, listed.getD j false = true → (listed.setIfInBounds d.idx true).getD j false = true := fun j h => by rw [hset]; split <;> simp_all
  have hset_un : ∀ j, (listed.setIfInBounds d.idx true).getD j false = false → j ≠ d.idx ∧ listed.getD j false = false := fun j h => by
   rw [hset] at h
   by_cases e : j = d.idx
   · rw [if_pos e] at h; cases h
   · rw [if_neg e] at h; exact ⟨e, h⟩
  have hclosed : Dk l (listed.setIfInBounds d.idx true) := fun p hp h e he => by
   rw [hset] at h
   by_cases c : p.idx = d.idx
   · rw [S.uniq hp hd c] at he; exact hset_mono e (hdeps e he)
   · rw [if_neg c] at h; exact hset_mono e (I.closed p hp h e he)
  have hin : d.idx ∈ un := hun _ (S.idx hd).2 hju
  have hf' : (un.erase d.idx).length ≤ fuel := by rw [List.length_erase_of_mem hin]; omega
  have hun' : ∀ i, i < ops.size → (listed.setIfInBounds d.idx true).getD i false = false → i ∈ un.erase d.idx := fun i hi h => by
   obtain ⟨h1, h2⟩ := hset_un i h
   exact (List.mem_erase_of_ne h1).2 (hun i hi h2)
  have hsz : (listed.setIfInBounds d.idx true).size = l.length := by rw [Array.size_setIfInBounds]; exact I.size
  have hputsz : ∀ v', (a.put d.dst v').tmps.size = a.tmps.size := fun v' => by cases d.dst <;> simp [Act.put]
  have hgo : ∀ (pre₂ r₂ : List DE) (H₂ : AHeap) (ρ₂ : Ren) (w₂ : World) (v : AV) (v' : Value), L = pre₂ ++ r₂ → (∀ x ∈ pre, x ∈ pre₂) → (∃ x ∈ pre₂, x.it = d) → (∀ d' c, DE.l d' c ∈ pre₂ → (listed.setIfInBounds d.idx true).getD d'.idx false = true) →
   HR base ρ₂ H₂ w₂ → Sub ρ ρ₂ → Ext ρ₀ H₀ w₀ ρ₂ H₂ w₂ → VR ρ₂ v v' → Res tm0 tmF d v → (∀ d', DE.q d' ∈ pre₂ → d'.idx ≠ d.idx → listed.getD d'.idx false = false → CD tm0 tmF H₀.n d' H₂ ρ₂ β) → H.n ≤ H₂.n → TrP P call tm0 tmF r₂ H₂ HF →
   wpAny P .any ops Q fuel (listed.setIfInBounds d.idx true) (a.put d.dst v') w₂ := by
   intro pre₂ r₂ H₂ ρ₂ w₂ v v' e1 e2 e3 e4 e5 e6 e7 e8 e9 e10 e11 e12
   obtain ⟨t1, t2⟩ := G1 S I hd e6 e8 e9
   refine ih _ pre₂ r₂ H₂ ρ₂ _ w₂ β (un.erase d.idx) e1 ⟨hsz, hclosed, fun p hp h => ?_, e4, e5, I.gl.mono e6, e7, by rw [lg]; exact I.defers, by rw [hputsz]; exact I.full, I.same, t1, t2, fun d' h1 h2 => ?_, fun i b hb => Nat.lt_of_lt_of_le (I.bnd i b hb) e11, I.inj, e12⟩ hf' hun'
   · rw [hset] at h
     by_cases c : p.idx = d.idx
     · rw [S.uniq hp hd c]; exact e3
     · rw [if_neg c] at h
       obtain ⟨x, hx, e⟩ := I.inpre p hp h
       exact ⟨x, e2 x hx, e⟩
   · obtain ⟨h3, h4⟩ := hset_un _ h2
     exact e10 d' h1 h3 h4
  unfold wpOp
  simp only [hit.pos]
  obtain ⟨x, hxL, hxd⟩ := S.cover hd
  rw [hL] at hxL
  rcases List.mem_append.1 hxL with hx | hx
  ·
   cases x with
   | l d' c =>
    have : d' = d := hxd
    subst this
    have := I.louds _ _ hx
    rw [hju] at this; cases this
   | q d' =>
    have : d' = d := hxd
    subst this
    obtain ⟨ev, v, henv, hres, hcase⟩ := I.pend d' hx hju
    have hv : ∀ t ∈ d'.looks, VR ρ (ev (.tmp t)) (a.tmps.getD t undef) := fun t ht => Hz S hunw I hd hju hdeps henv ht
    have hlo : ∀ d'' c, DE.l d'' c ∈ pre → (listed.setIfInBounds d'.idx true).getD d''.idx false = true := fun d'' c h => hset_mono _ (I.louds d'' c h)
    rw [Dq hit hv]
    rcases hcase with ⟨hw, rfl⟩ | ⟨hw, k, hk, hrd⟩ | ⟨hw, k, ob, m, b, hk, hnw, hb, rfl, hob, hρ, hn₀⟩
    · rw [hw]
      simp only [Bool.false_eq_true, if_false]
      rw [← hit.dst]
      exact hgo pre r H ρ w .undef undef hL (fun _ h => h) ⟨_, hx, rfl⟩ hlo I.hr (Sub.refl _) I.ext dZ hres (fun d'' h1 _ h2 => I.pend d'' h1 h2) (Nat.le_refl _) I.trace
    · rw [hw]
      simp only [if_true]
      have hc := hit.k
      rw [hk] at hc
      have hc' : lB P G o.op = some k := by
       rcases iV hc with ⟨r, e, h1⟩ | ⟨r, e, h1⟩ | ⟨r, e, h1⟩ | ⟨r, e, h1⟩ | e <;> cases e; exact h1
      refine .inl (DB I.hr (xC hit henv I.gl hv) hc' hrd fun v' hv' => ?_)
      rw [← hit.dst]
      exact hgo pre r H ρ w v v' hL (fun _ h => h) ⟨_, hx, rfl⟩ hlo I.hr (Sub.refl _) I.ext hv' hres (fun d'' h1 _ h2 => I.pend d'' h1 h2) (Nat.le_refl _) I.trace
    · rw [hw]
      simp only [if_true]
      have hc := hit.k
      rw [hk] at hc
      have hc' : lC P G o.op = some k := by
       rcases iV hc with ⟨r, e, h1⟩ | ⟨r, e, h1⟩ | ⟨r, e, h1⟩ | ⟨r, e, h1⟩ | e <;> cases e; exact h1
      refine .inl (GP I.hr.low (xC hit henv I.gl hv) hc' hnw fun obj v' hobj => ?_)
      obtain ⟨K, q1, q2, q3⟩ := hobj b hρ
      rw [← hit.dst]
      refine hgo pre r H (ρ.upd b K) _ _ v' hL (fun _ h => h) ⟨_, hx, rfl⟩ hlo (I.hr.map (I.bnd _ _ hb) hρ hob q1 q2) (Ren.sub_upd K hρ) (I.ext.map hn₀ q1) q3 hres (fun d'' h1 h3 h2 => ?_) (Nat.le_refl _) I.trace
      obtain ⟨ev', v'', p1, p2, p3⟩ := I.pend d'' h1 h2
      refine ⟨ev', v'', p1, p2, ?_⟩
      rcases p3 with p3 | p3 | ⟨p3, k', ob', m', b', p4, p5, p6, p7, p8, p9, p10⟩
      · exact .inl p3
      · exact .inr (.inl p3)
      · refine .inr (.inr ⟨p3, k', ob', m', b', p4, p5, p6, p7, p8, ?_, p10⟩)
        rw [Ren.upd_ne _ _ (fun e => h3 (I.inj _ _ b' p6 (by rw [e]; exact hb)))]
        exact p9
  ·
   cases r with
   | nil => cases hx
   | cons y r =>
    cases y with
    | q d' => exact (hnq d' r rfl).elim
    | l d' chks =>
     have hdl : d' ∈ l := S.mem (.l d' chks) (by rw [hL]; simp)
     have hd'u : listed.getD d'.idx false = false := by
      cases h : listed.getD d'.idx false with
      | false => rfl
      | true =>
       obtain ⟨z, hz, e⟩ := I.inpre d' hdl h
       exact ((S.apart hL hz (y := .l d' chks) List.mem_cons_self).1 (by rw [e]; rfl)).elim
     have hdd : d' = d := by
      rcases List.mem_cons.1 hx with h | h
      · rw [h] at hxd; exact hxd
      · have h1 := (S.loud hL).1 x h
        rw [hxd] at h1
        have := S.anc I.closed _ rfl hd hdeps h1
        rw [hd'u] at this; cases this
     subst hdd
     obtain ⟨ev, v, H', henv, hst, hres, hchk, htr⟩ := I.trace
     have hv : ∀ t ∈ d'.looks, VR ρ (ev (.tmp t)) (a.tmps.getD t undef) := fun t ht => Hz S hunw I hd hju hdeps henv ht
     have hL' : L = (pre ++ [.l d' chks]) ++ r := by rw [hL]; simp
     have hlo : ∀ d'' c, DE.l d'' c ∈ pre ++ [.l d' chks] → (listed.setIfInBounds d'.idx true).getD d''.idx false = true := fun d'' c h => by
      rcases List.mem_append.1 h with h | h
      · exact hset_mono _ (I.louds d'' c h)
      · simp only [List.mem_singleton, DE.l.injEq] at h
        rw [h.1, hset, if_pos rfl]
     have hpq : ∀ d'', DE.q d'' ∈ pre ++ [.l d' chks] → DE.q d'' ∈ pre := fun d'' h => by
      rcases List.mem_append.1 h with h | h
      · exact h
      · simp at h
     have hpend : ∀ (ρ' : Ren) (w' : World), HR base ρ' H' w' → Ext ρ H w ρ' H' w' → ∀ d'', DE.q d'' ∈ pre ++ [.l d' chks] → d''.idx ≠ d'.idx → listed.getD d''.idx false = false → CD tm0 tmF H₀.n d'' H' ρ' β := by
      intro ρ' w' hr' he' d'' h1 h2 h3
      have h1 := hpq d'' h1
      have hd'' : d'' ∈ l := S.mem (.q d'') (by rw [hL]; exact List.mem_append_left _ h1)
      obtain ⟨o'', hit''⟩ := S.item hd''
      obtain ⟨ev', v', p1, p2, p3⟩ := I.pend d'' h1 h3
      rcases p3 with p3 | ⟨p3, k, p4, p5⟩ | ⟨p3, k', ob', m', b', p4, p5, p6, p7, p8, p9, p10⟩
      · exact ⟨ev', v', p1, p2, .inl p3⟩
      · rcases (S.loud hL).2.1 d'' h1 with h4 | h4 | h4
        · rw [p4] at h4
          exact ⟨ev', v', p1, p2, .inr (.inl ⟨p3, k, p4, by rw [Gb h4 ev' H' H]; exact p5⟩)⟩
        · have := S.anc I.closed _ rfl hd hdeps h4
          rw [h3] at this; cases this
        · obtain ⟨ev'', q1, q2⟩ := hchk d'' h4
          have hw'' : eE d''.g ev'' = true := by rw [EM hit'' q1 p1]; exact p3
          obtain ⟨k', u, q3, q4, q5⟩ := q2 hw''
          exact ⟨ev'', u, q1, q5, .inr (.inl ⟨hw'', k', q3, q4⟩)⟩
      · have hlt' := I.bnd _ _ p6
        exact ⟨ev', v', p1, p2, .inr (.inr ⟨p3, k', ob', m', b', p4, p5, p6, p7, by rw [he'.quiet b' hlt' p9]; exact p8, by rw [he'.old b' hlt']; exact p9, p10⟩)⟩
     rw [Dq hit hv]
     unfold iw at hst
     cases hw : eE d'.g ev with
     | false =>
      rw [hw] at hst
      cases hst
      simp only [Bool.false_eq_true, if_false]
      rw [← hit.dst]
      exact hgo (pre ++ [.l d' chks]) r H ρ w .undef undef hL' (fun x hx => List.mem_append_left _ hx) ⟨.l d' chks, by simp, rfl⟩ hlo I.hr (Sub.refl _) I.ext dZ hres (hpend ρ w I.hr (Ext.refl _ _ _)) (Nat.le_refl _) htr
     | true =>
      rw [hw] at hst
      simp only [cond_true] at hst
      simp only [if_true]
      refine .inl (GH hcall I.hr I.gl (xC hit henv I.gl hv) hit.k hst fun ρ' v' w' q1 q2 q3 => ?_)
      rw [← hit.dst]
      exact hgo (pre ++ [.l d' chks]) r H' ρ' w' v v' hL' (fun x hx => List.mem_append_left _ hx) ⟨.l d' chks, by simp, rfl⟩ hlo q2 (I.hr.sub q3) (I.ext.trans q3) q1 hres (hpend ρ' w' q2 q3) q3.n htr
theorem nF : ∀ (r : List DE) {tm : Tr AV} {H HF : AHeap}, evD P call tm0 r tm H = some (tmF, HF) → ∀ t, (tmF.get? t).isSome = (tm.get? t).isSome
 | [], tm, H, HF, h, t => by cases h; rfl
 | .q d :: r, tm, H, HF, h, t => by
  simp only [evD] at h
  split at h
  · rw [nF r h t, kv]
  · cases h
 | .l d c :: r, tm, H, HF, h, t => by
  simp only [evD] at h
  split at h
  · rename_i v H' _
    cases hk : iA tm0 (fJ tm d.dst v) H' c with
    | false => rw [hk] at h; cases h
    | true => rw [hk] at h; rw [nF r h t, kv]
  · cases h
theorem HA {id : Nat} {_ds : Bool} {tm : Tr AV} (hm : P.follows .mixedOrders = true) (hc : lE P G ops = some L) (hcall : ct P base G call) {Q : Exit → Act → World → Prop} (hs : SR P base G ρ₀ H₀ w₀ d0 ρ tm H a w)
 (h : evD P call tm L tm H = some (tmF, HF)) (hQ : ∀ ρ' a' w', SR P base G ρ₀ H₀ w₀ d0 ρ' tmF HF a' w' → Q .normal a' w') : (Code.region id ops true).wp P Q a w := by
 obtain ⟨l, S⟩ := xK hc
 refine wp_region_any hm ?_
 have htr := Fg S L [] (by rfl) (fun _ => rfl) h
 have hkeep := eu L h
 have hsame := nF L h
 have hrep : ∀ j, (Array.replicate ops.size false).getD j false = false := fun j => gv _ _
 refine Fh S hcall (fun t ht => hkeep t ht) hQ ops.size _ [] L H ρ a _ (fun _ => none) (List.range ops.size) rfl
  ⟨by simp [S.len], fun d _ h => (by rw [hrep] at h; cases h), fun d _ h => (by rw [hrep] at h; cases h), fun _ _ h => (by cases h), hs.hr.of_heap rfl, hs.gl, hs.ext.trans (Ext.of_heap rfl rfl rfl rfl), hs.defers, ?_, hsame, fun t _ => ?_, fun t ht => ?_, fun _ h => (by cases h), fun _ _ h => (by cases h), fun _ _ _ h => (by cases h), htr⟩ (by simp) (fun i hi _ => List.mem_range.2 hi)
 · intro t
   rw [hsame t]; exact hs.tr.1 t
 · exact EvR.of_TR hs.tr hs.gl (.tmp t) _ rfl
 · have hno : ∀ x ∈ L, bm x.it t = false := fun x hx => by
    cases h1 : bm x.it t with
    | false => rfl
    | true =>
     have := ht _ (S.mem x hx) h1
     rw [hrep] at this; cases this
   rw [iO (hkeep t hno)]
   exact EvR.of_TR hs.tr hs.gl (.tmp t) _ rfl
end
end
noncomputable section
inductive Ex where
 | nrm
 | exit (id : Nat)
 | ret
def Ex.out : Ex → Exit
 | .nrm => .normal
 | .exit i => .exit i
 | .ret => .ret
inductive KCode where
 | skip
 | seq (a b : KCode)
 | cnd (c : Opnd) (a b : KCode)
 | block (id : Nat) (c : KCode)
 | loop (c : KCode)
 | exit (id : Nat)
 | ret
 | reg (qs : List QI)
 | dreg (L : List DE)
 | bad
 | dfr (nt : Nat) (args : List Opnd) (cd b : KCode)
inductive KRes where
 | tmp (t : Nat)
 | cell (sz : Option Nat) (t : Nat)
structure KFun where
 nt : Nat
 res : List KRes
 code : KCode
def aT (P : Program) (G : List Nat) : Code → Option KCode
 | .skip => some .skip
 | .seq a b => match aT P G a with
  | some x => match aT P G b with
   | some y => some (.seq x y)
   | none => none
  | none => none
 | .cond c a b => match aF G c with
  | some c => match aT P G a with
   | some x => match aT P G b with
    | some y => some (.cnd c x y)
    | none => none
   | none => none
  | none => none
 | .block id c => match aT P G c with
  | some x => some (.block id x)
  | none => none
 | .loop c => match aT P G c with
  | some x => some (.loop x)
  | none => none
 | .exit id => some (.exit id)
 | .ret => some .ret
 | .region _ ops false => match aD (gj P G ops) ops.toList with
  | some qs => some (.reg qs)
  | none => none
 | .region _ ops true => match lE P G ops with
  | some L => some (.dreg L)
  | none => none
 | _ => some .bad
def cA (P : Program) : ResultVar → Option KRes
 | .tmp t => some (.tmp t)
 | .cell a t => (cL P t).map fun sz => .cell sz a
def cE (P : Program) (G : List Nat) (f : Nat) : Option KFun := match P.funcs[f]? with
 | none => none
 | some fn => match fn.body with
  | none => none
  | some c => cond (fn.name == "runtime.NumGoroutine") none (match aT P G c with
   | some k => match aD (cA P) fn.results.toList with
    | some rs => some ⟨fn.ntmps, rs, k⟩
    | none => none
   | none => none)
def TX (G : List Nat) (o : Oper) : Option (Nat × List Opnd) := match o.guard, o.dst, o.op with
 | none, none, .defer { callee := .value (.func f), args, argTypes := _ } => match aD (aF G) args.toList with
  | some l => some (f, l)
  | none => none
 | _, _, _ => none
def jD (G : List Nat) : Code → Option (Nat × List Opnd)
 | .region _ ops false => match ops.toList.getLast? with
  | some o => TX G o
  | none => none
 | _ => none
def a1t (G : List Nat) : Code → Bool
 | .seq a b => match jD G a with
  | some _ => true
  | none => a1t G b
 | _ => false
def DZ (P : Program) (G : List Nat) : Code → Option (List QI)
 | .region _ ops false => aD (gj P G ops) ops.toList.dropLast
 | _ => none
def dO (P : Program) (G : List Nat) (ck : Code → Option KCode) (cf : Nat → Option KFun) : Code → Option KCode
 | .seq a b => match jD G a with
  | some (f, l) => match DZ P G a with
   | some qs => match cf f with
    | some kf => match kf.res with
     | [] => match ck b with
      | some kb => cond (Nat.ble l.length kf.nt) (some (.seq (.reg qs) (.dfr kf.nt l kf.code kb))) none
      | none => none
     | _ => none
    | none => none
   | none => none
  | none => match dO P G ck cf b with
   | some kb => match ck a with
    | some ka => some (.seq ka kb)
    | none => none
   | none => none
 | _ => none
def nK (P : Program) (G : List Nat) (f : Nat) : Option KFun := match P.funcs[f]? with
 | none => none
 | some fn => match fn.body with
  | none => none
  | some c => cond (fn.name == "runtime.NumGoroutine") none (match dO P G (aT P G) (cE P G) c with
   | some k => match aD (cA P) fn.results.toList with
    | some rs => some ⟨fn.ntmps, rs, k⟩
    | none => none
   | none => none)
def vT (P : Program) (G : List Nat) (f : Nat) : Bool := match P.funcs[f]? with
 | none => false
 | some fn => match fn.body with
  | none => false
  | some c => a1t G c
def lD (P : Program) (G : List Nat) (f : Nat) : Option KFun := cond (vT P G f) (nK P G f) (cE P G f)
abbrev Out := Option (Ex × Tr AV × AHeap)
def lx (body : Tr AV → AHeap → Out) : Nat → Tr AV → AHeap → Out
 | 0, _, _ => none
 | n + 1, tm, H => match body tm H with
  | some (e, tm', H') => match e with
   | .nrm => lx body n tm' H'
   | e => some (e, tm', H')
  | none => none
def bj (tm : Tr AV) : Nat → List AV → Tr AV
 | _, [] => tm
 | i, v :: r => bj (tm.set i v) (Nat.succ i) r
def er : Ex → Bool
 | .exit _ => false
 | _ => true
def evK (P : Program) (call : aa) (N : Nat) : KCode → Tr AV → AHeap → Out
 | .skip, tm, H => some (.nrm, tm, H)
 | .seq a b, tm, H => match evK P call N a tm H with
  | some (e, tm', H') => match e with
   | .nrm => evK P call N b tm' H'
   | e => some (e, tm', H')
  | none => none
 | .cnd c a b, tm, H => match c.ev tm with
  | .bool t => cond t (evK P call N a tm H) (evK P call N b tm H)
  | _ => none
 | .block id c, tm, H => match evK P call N c tm H with
  | some (e, tm', H') => match e with
   | .exit i => cond (Nat.beq i id) (some (.nrm, tm', H')) (some (.exit i, tm', H'))
   | e => some (e, tm', H')
  | none => none
 | .loop c, tm, H => lx (evK P call N c) N tm H
 | .exit id, tm, H => some (.exit id, tm, H)
 | .ret, tm, H => some (.ret, tm, H)
 | .reg qs, tm, H => match dy P call qs tm H with
  | some (tm', H') => some (.nrm, tm', H')
  | none => none
 | .dreg L, tm, H => match evD P call tm L tm H with
  | some (tm', H') => some (.nrm, tm', H')
  | none => none
 | .bad, _, _ => none
 | .dfr nt args cd b, tm, H => match evK P call N b tm H with
  | some (e, tm', H') => cond (er e) (match evK P call N cd (bj (Tr.rep nt .undef) 0 (evs (Opnd.ev tm) args)) H' with
   | some (e2, _, H2) => cond (er e2) (some (.ret, tm', H2)) none
   | none => none) none
  | none => none
def jk (tm : Tr AV) (H : AHeap) : KRes → Option AV
 | .tmp t => some (bW tm t)
 | .cell sz t => ah sz H (bW tm t)
def aV : List AV → AV
 | [v] => v
 | vs => .tup vs
def nD (res : List KRes) (o : Out) : Option (AV × AHeap) := match o with
 | some (e, tm, H) => cond (er e) (match aD (jk tm H) res with
  | some vs => some (aV vs, H)
  | none => none) none
 | none => none
abbrev di := Nat → Option (List AV → AHeap → Option (AV × AHeap))
section
variable {P : Program} {base : Nat} {G : List Nat} {call : aa} {N : Nat}
variable {ρ₀ : Ren} {H₀ : AHeap} {w₀ : World} {d0 : List Deferred}
theorem EL {Q : Exit → Act → World → Prop} {c : Code} (I : Nat → Act → World → Prop) {n : Nat} {a : Act} {w : World} (h₀ : I n a w)
 (round : ∀ n a w, I n a w → c.wp P (Exit.then (fun a' w' => ∃ m, m < n ∧ I m a' w') Q) a w) : (Code.loop c).wp P Q a w := by
 intro b k cs
 have key : ∀ n a w, I n a w →
  ∃ e a' w', Q e a' w' ∧ Arrives P (lone (b.at a (.code c :: .inLoop c :: k)) cs w) b k cs e a' w' := by
  intro n
  induction n using Nat.strongRecOn with
  | _ n ih =>
   intro a w hI
   obtain ⟨e, a₁, w₁, hq, harr⟩ := round n a w hI b (.inLoop c :: k) cs
   cases e with
   | normal =>
    obtain ⟨m, hlt, hI₁⟩ := hq
    obtain ⟨e₂, a₂, w₂, hq₂, harr₂⟩ := ih m hlt a₁ w₁ hI₁
    exact ⟨e₂, a₂, w₂, hq₂, .of_steps (Steps.trans harr (.one step_inLoop)) harr₂⟩
   | exit id => exact ⟨_, a₁, w₁, hq, .pass (x := .inLoop c) rfl (fun _ _ => .inl (by simp)) harr⟩
   | goto l => exact ⟨_, a₁, w₁, hq, .pass (x := .inLoop c) rfl (fun _ _ => .inl (by simp)) harr⟩
   | ret => exact ⟨_, a₁, w₁, hq, .pass (x := .inLoop c) rfl (fun _ _ => .inl (by simp)) harr⟩
   | panic ch => exact ⟨_, a₁, w₁, hq, .pass (x := .inLoop c) rfl (fun _ _ => .inl (by simp)) harr⟩
   | outgrown => exact ⟨_, a₁, w₁, hq, .pass (x := .inLoop c) rfl (fun _ _ => .inl (by simp)) harr⟩
 obtain ⟨e, a', w', hq, harr⟩ := key n a w h₀
 exact ⟨e, a', w', hq, .of_steps (.one step_loop) harr⟩
theorem ri (hm : P.follows .mixedOrders = true) (hcall : ct P base G call) : ∀ (c : Code) {kc : KCode} {ρ : Ren} {tm tm' : Tr AV} {H H' : AHeap} {a : Act} {w : World} {e : Ex} {Q : Exit → Act → World → Prop},
 aT P G c = some kc → SR P base G ρ₀ H₀ w₀ d0 ρ tm H a w → evK P call N kc tm H = some (e, tm', H') →
 (∀ ρ' a' w', SR P base G ρ₀ H₀ w₀ d0 ρ' tm' H' a' w' → Q e.out a' w') → c.wp P Q a w := by
 intro c
 induction c with
 | skip =>
  intro kc ρ tm tm' H H' a w e Q hc hs h hQ
  cases hc; cases h
  exact wp_skip (hQ _ _ _ hs)
 | exit id =>
  intro kc ρ tm tm' H H' a w e Q hc hs h hQ
  cases hc; cases h
  exact wp_exit (hQ _ _ _ hs)
 | ret =>
  intro kc ρ tm tm' H H' a w e Q hc hs h hQ
  cases hc; cases h
  exact wp_ret (hQ _ _ _ hs)
 | region id ops draw =>
  intro kc ρ tm tm' H H' a w e Q hc hs h hQ
  cases draw with
  | false =>
   simp only [aT] at hc
   cases hq : aD (gj P G ops) ops.toList with
   | none => rw [hq] at hc; cases hc
   | some qs =>
    rw [hq] at hc; cases hc
    simp only [evK] at h
    cases hi : dy P call qs tm H with
    | none => rw [hi] at h; cases h
    | some x =>
     obtain ⟨tm1, H1⟩ := x
     rw [hi] at h; cases h
     refine wp_region ?_
     exact Hg hcall ops.toList qs (List.range ops.size) (by simp) (fun j i o h1 h2 => by
      rw [List.getElem?_range] at h1
      · cases h1; simpa using h2
      · have := dV (a := ops) (k := j) (x := o) (by simpa using h2)
        exact this) hq hs hi hQ
  | true =>
   simp only [aT] at hc
   cases hq : lE P G ops with
   | none => rw [hq] at hc; cases hc
   | some L =>
    rw [hq] at hc; cases hc
    simp only [evK] at h
    cases hi : evD P call tm L tm H with
    | none => rw [hi] at h; cases h
    | some x =>
     obtain ⟨tm1, H1⟩ := x
     rw [hi] at h; cases h
     exact HA (_ds := true) hm hq hcall hs hi hQ
 | seq x y ihx ihy =>
  intro kc ρ tm tm' H H' a w e Q hc hs h hQ
  simp only [aT] at hc
  cases hx : aT P G x with
  | none => rw [hx] at hc; cases hc
  | some kx =>
   cases hy : aT P G y with
   | none => rw [hx, hy] at hc; cases hc
   | some ky =>
    rw [hx, hy] at hc; cases hc
    simp only [evK] at h
    cases h1 : evK P call N kx tm H with
    | none => rw [h1] at h; cases h
    | some r =>
     obtain ⟨e1, tm1, H1⟩ := r
     rw [h1] at h
     simp only at h
     refine wp_seq (ihx hx hs h1 fun ρ' a' w' hs' => ?_)
     cases e1 with
     | nrm => exact ihy hy hs' h hQ
     | exit i => cases h; exact hQ _ _ _ hs'
     | ret => cases h; exact hQ _ _ _ hs'
 | cond c x y ihx ihy =>
  intro kc ρ tm tm' H H' a w e Q hc hs h hQ
  simp only [aT] at hc
  cases hcc : aF G c with
  | none => rw [hcc] at hc; cases hc
  | some kcc =>
   cases hx : aT P G x with
   | none => rw [hcc, hx] at hc; cases hc
   | some kx =>
    cases hy : aT P G y with
    | none => rw [hcc, hx, hy] at hc; cases hc
    | some ky =>
     rw [hcc, hx, hy] at hc; cases hc
     simp only [evK] at h
     have hv := EvR.of_TR hs.tr hs.gl c kcc hcc
     simp only at hv
     split at h
     · rename_i t ht
       rw [ht] at hv
       have hv : a.eval c = .bool t := hv
       refine wp_cond hv ?_
       cases t with
       | true => exact ihx hx hs h hQ
       | false => exact ihy hy hs h hQ
     · cases h
 | block id x ihx =>
  intro kc ρ tm tm' H H' a w e Q hc hs h hQ
  simp only [aT] at hc
  cases hx : aT P G x with
  | none => rw [hx] at hc; cases hc
  | some kx =>
   rw [hx] at hc; cases hc
   simp only [evK] at h
   cases h1 : evK P call N kx tm H with
   | none => rw [h1] at h; cases h
   | some r =>
    obtain ⟨e1, tm1, H1⟩ := r
    rw [h1] at h
    simp only at h
    refine wp_block (ihx hx hs h1 fun ρ' a' w' hs' => ?_)
    cases e1 with
    | nrm => cases h; exact hQ _ _ _ hs'
    | ret => cases h; exact hQ _ _ _ hs'
    | exit i =>
     simp only [Ex.out, Exit.inBlock]
     have h : (cond (Nat.beq i id) (some (Ex.nrm, tm1, H1)) (some (Ex.exit i, tm1, H1)) : Out) = some (e, tm', H') := h
     cases hb : Nat.beq i id with
     | true =>
      rw [hb] at h; cases h
      rw [if_pos (Nat.eq_of_beq_eq_true hb)]
      exact hQ _ _ _ hs'
     | false =>
      rw [hb] at h; cases h
      rw [if_neg (Nat.ne_of_beq_eq_false hb)]
      exact hQ _ _ _ hs'
 | loop x ihx =>
  intro kc ρ tm tm' H H' a w e Q hc hs h hQ
  simp only [aT] at hc
  cases hx : aT P G x with
  | none => rw [hx] at hc; cases hc
  | some kx =>
   rw [hx] at hc; cases hc
   simp only [evK] at h
   refine EL (fun n a w => ∃ ρ tm H, SR P base G ρ₀ H₀ w₀ d0 ρ tm H a w ∧ lx (evK P call N kx) n tm H = some (e, tm', H')) (n := N) ⟨ρ, tm, H, hs, h⟩ ?_
   rintro n a w ⟨ρ, tm, H, hs, h⟩
   cases n with
   | zero => cases h
   | succ n =>
    simp only [lx] at h
    cases h1 : evK P call N kx tm H with
    | none => rw [h1] at h; cases h
    | some r =>
     obtain ⟨e1, tm1, H1⟩ := r
     rw [h1] at h
     simp only at h
     refine ihx hx hs h1 fun ρ' a' w' hs' => ?_
     cases e1 with
     | nrm => exact ⟨n, Nat.lt_succ_self n, ρ', tm1, H1, hs', h⟩
     | ret => cases h; exact hQ _ _ _ hs'
     | exit i => cases h; exact hQ _ _ _ hs'
 | _ => intro kc ρ tm tm' H H' a w e Q hc hs h hQ; cases hc; cases h
theorem wV {ρ : Ren} {tm : Tr AV} {H : AHeap} {a : Act} {w : World} (hr : HR base ρ H w) (ht : TR ρ tm a) (hg : Gl G ρ) {r : ResultVar} {k : KRes} {v : AV} (hc : cA P r = some k) (h : jk tm H k = some v) :
 ∃ v', ((match r with
  | .tmp t => pure (a.tmps.getD t undef)
  | .cell x t => do loadVar t (← asAddr (a.tmps.getD x undef))) : Sem Value).run P w = .ok v' w ∧ VR ρ v v' := by
 cases r with
 | tmp t =>
  cases hc; cases h
  exact ⟨_, rfl, EvR.of_TR ht hg (.tmp t) _ rfl⟩
 | cell x t =>
  simp only [cA, Option.map_eq_some_iff] at hc
  obtain ⟨sz, hsz, rfl⟩ := hc
  simp only [jk] at h
  have hx : VR ρ (bW tm x) (a.tmps.getD x undef) := EvR.of_TR ht hg (.tmp x) _ rfl
  cases hp : bW tm x <;> rw [hp] at h hx <;> (try cases h; done)
  obtain ⟨L, hb, e⟩ := hx
  obtain ⟨v', e1, e2⟩ := qy (P := P) hr hsz h hb
  refine ⟨v', ?_, e2⟩
  simp only
  rw [e]
  exact e1
theorem eU {ρ : Ren} {tm : Tr AV} {H : AHeap} {a : Act} {w : World} (hr : HR base ρ H w) (ht : TR ρ tm a) (hg : Gl G ρ) {fn : Func} {ks : List KRes} {vs : List AV} (hc : aD (cA P) fn.results.toList = some ks) (h : aD (jk tm H) ks = some vs) :
 ∃ v', (results fn a.tmps).run P w = .ok v' w ∧ VR ρ (aV vs) v' := by
 have key : ∀ (l : List ResultVar) (ks : List KRes) (vs : List AV), aD (cA P) l = some ks → aD (jk tm H) ks = some vs →
  ∃ vs', (l.mapM (fun r => ((match r with
  | .tmp t => pure (a.tmps.getD t undef)
  | .cell x t => do loadVar t (← asAddr (a.tmps.getD x undef))) : Sem Value))).run P w = .ok vs' w ∧ VRs ρ vs vs' := by
  intro l
  induction l with
  | nil => intro ks vs h1 h2; cases h1; cases h2; exact ⟨[], rfl, rfl⟩
  | cons r l ih =>
   intro ks vs h1 h2
   simp only [aD] at h1
   cases hr1 : cA P r with
   | none => rw [hr1] at h1; cases h1
   | some k =>
    rw [hr1] at h1
    cases hl1 : aD (cA P) l with
    | none => rw [hl1] at h1; cases h1
    | some ks' =>
     rw [hl1] at h1; cases h1
     simp only [aD] at h2
     cases hv : jk tm H k with
     | none => rw [hv] at h2; cases h2
     | some v =>
      rw [hv] at h2
      cases hl2 : aD (jk tm H) ks' with
      | none => rw [hl2] at h2; cases h2
      | some vs' =>
       rw [hl2] at h2; cases h2
       obtain ⟨v', e1, e2⟩ := wV hr ht hg hr1 hv
       obtain ⟨us, e3, e4⟩ := ih ks' vs' hl1 hl2
       refine ⟨v' :: us, ?_, v', us, rfl, e2, e4⟩
       rw [List.mapM_cons, ag e1, ag e3]
       rfl
 obtain ⟨us, e1, e2⟩ := key _ _ _ hc h
 unfold results
 rw [Array.mapM_eq_mapM_toList, map_eq_pure_bind]
 have e1' : ((fn.results.toList.mapM (fun r => ((match r with
  | .tmp t => pure (a.tmps.getD t undef)
  | .cell x t => do loadVar t (← asAddr (a.tmps.getD x undef))) : Sem Value))) >>= fun l => pure l.toArray).run P w = .ok us.toArray w := by
  rw [ag e1]; rfl
 refine ⟨_, ag (a := us.toArray) (w' := w) (by exact e1'), ?_⟩
 match vs, us, e2 with
 | [], us, e2 => cases e2; exact ⟨[], rfl, rfl⟩
 | [v], us, ⟨y, s, e, h1, h2⟩ => subst e; cases h2; exact h1
 | v :: v2 :: r, us, ⟨y, s, e, h1, y2, s2, e2', h2, h3⟩ =>
  subst e; subst e2'
  have : ¬ ((y :: y2 :: s2).toArray.size = 1) := by simp
  rw [dif_neg this]
  exact ⟨_, rfl, y, _, rfl, h1, y2, s2, rfl, h2, h3⟩
theorem eF : ∀ (l : List AV) (tm : Tr AV) (i j : Nat), (bj tm i l).get? j = if i ≤ j ∧ j < i + l.length then (tm.get? j).bind (fun _ => l[j - i]?) else tm.get? j
 | [], tm, i, j => by
  have : ¬ (i ≤ j ∧ j < i + 0) := by omega
  simp only [bj, List.length_nil]
  rw [if_neg this]
 | v :: r, tm, i, j => by
  simp only [bj]
  rw [eF r]
  by_cases e : j = i
  · subst e
    rw [if_neg (by omega), if_pos (by simp), Tr.get?_set_same]
    cases tm.get? j <;> simp
  · rw [Tr.get?_set_ne _ _ _ _ e]
    by_cases c : i.succ ≤ j ∧ j < i.succ + r.length
    · rw [if_pos c, if_pos (by simp; omega)]
      have : j - i = (j - i.succ) + 1 := by omega
      rw [this, List.getElem?_cons_succ]
    · rw [if_neg c, if_neg (by simp; omega)]
theorem rB {ρ : Ren} {args : List AV} {args' : List Value} {n : Nat} (h : VRs ρ args args') (hn : args.length ≤ n) :
 TR ρ (bj (Tr.rep n .undef) 0 args) ⟨List.toArray args' ++ Array.replicate (n - (List.toArray args').size) undef, []⟩ := by
 have hl := h.length
 have hg : ∀ j, (bj (Tr.rep n .undef) 0 args).get? j = if j < args.length then args[j]? else if j < n then some .undef else none := fun j => by
  rw [eF, Tr.get?_rep]
  by_cases c : j < args.length
  · rw [if_pos (by omega), if_pos c, if_pos (by omega)]; rfl
  · rw [if_neg (by omega), if_neg c]
 have hsz : (List.toArray args' ++ Array.replicate (n - (List.toArray args').size) undef).size = n := by simp; omega
 refine ⟨fun j => ?_, fun t v hv => ?_⟩
 · show _ ↔ j < (List.toArray args' ++ Array.replicate (n - (List.toArray args').size) undef).size
   rw [hsz, hg]
   by_cases c : j < args.length
   · rw [if_pos c, List.getElem?_eq_getElem c]; simp; omega
   · rw [if_neg c]
     by_cases c2 : j < n
     · simp [c2]
     · simp [c2]
 · rw [hg] at hv
   show ∃ v', (List.toArray args' ++ Array.replicate (n - (List.toArray args').size) undef)[t]? = some v' ∧ _
   by_cases c : t < args.length
   · rw [if_pos c] at hv
     obtain ⟨y, e1, e2⟩ := h.get hv
     refine ⟨y, ?_, e2⟩
     rw [Array.getElem?_append_left (by simp; omega)]
     simpa using e1
   · rw [if_neg c] at hv
     by_cases c2 : t < n
     · rw [if_pos c2] at hv; cases hv
       refine ⟨undef, ?_, dZ⟩
       have hsz' : (List.toArray args').size = args'.length := by simp
       rw [Array.getElem?_append_right (by omega), Array.getElem?_replicate, if_pos (by omega)]
     · rw [if_neg c2] at hv; cases hv
def pg (P : Program) (base : Nat) (G : List Nat) (prim : di) : Prop := ct P base G fun f args H => match prim f with
 | some p => p args H
 | none => none
theorem vS {call : aa} {f : Nat} {kf : KFun} {args : List AV} {H H' : AHeap} {v : AV} (hm : P.follows .mixedOrders = true) (ih : ct P base G call) (hcf : cE P G f = some kf) (hle : Nat.ble args.length kf.nt = true)
 (h : nD kf.res (evK P call N kf.code (bj (Tr.rep kf.nt .undef) 0 args) H) = some (v, H')) : bC P f ∧
 ∀ ρ w args', HR base ρ H w → Gl G ρ → VRs ρ args args' → Calls P f (List.toArray args') w fun e w' => ∃ ρ' v', e = .returned v' ∧ VR ρ' v v' ∧ HR base ρ' H' w' ∧ Ext ρ H w ρ' H' w' := by
 have hle' := Nat.le_of_ble_eq_true hle
 unfold cE at hcf
 cases hfn : P.funcs[f]? with
 | none => rw [hfn] at hcf; cases hcf
 | some fn =>
  rw [hfn] at hcf
  simp only at hcf
  cases hb : fn.body with
  | none => rw [hb] at hcf; cases hcf
  | some c =>
   rw [hb] at hcf
   simp only at hcf
   cases hnm : (fn.name == "runtime.NumGoroutine") with
   | true => rw [hnm] at hcf; cases hcf
   | false =>
    rw [hnm] at hcf
    simp only [cond_false] at hcf
    cases hck : aT P G c with
    | none => rw [hck] at hcf; cases hcf
    | some k =>
     rw [hck] at hcf
     simp only at hcf
     cases hrs : aD (cA P) fn.results.toList with
     | none => rw [hrs] at hcf; cases hcf
     | some rs =>
      rw [hrs] at hcf; cases hcf
      simp only at h hle'
      refine ⟨⟨fn, hfn, by rw [hb]; rfl, hnm⟩, fun ρ w args' hr hg ha => ?_⟩
      unfold nD at h
      cases hev : evK P (call) N k (bj (Tr.rep fn.ntmps .undef) 0 args) H with
      | none => rw [hev] at h; cases h
      | some r =>
       obtain ⟨e, tm, H1⟩ := r
       rw [hev] at h
       simp only at h
       have hpost : ∀ ρ' a' w', SR P base G ρ H w [] ρ' tm H1 a' w' → ∀ vs, aD (jk tm H1) rs = some vs → some (aV vs, H1) = some (v, H') →
        a'.defers = [] ∧ ∃ v', (results fn a'.tmps).run P w' = .ok v' w' ∧ ∃ ρ'' u, (Ending.returned v') = .returned u ∧ VR ρ'' v u ∧ HR base ρ'' H' w' ∧ Ext ρ H w ρ'' H' w' := by
        intro ρ' a' w' hs vs hvs he
        cases he
        obtain ⟨v', e1, e2⟩ := eU hs.hr hs.tr hs.gl hrs hvs
        exact ⟨hs.defers, v', e1, ρ', v', rfl, e2, hs.hr, hs.ext⟩
       refine calls_of_wp hfn hb (ri (ρ₀ := ρ) (H₀ := H) (w₀ := w) (d0 := []) hm ih c hck (ρ := ρ) ⟨rB ha hle', hr, hg, Ext.refl _ _ _, rfl⟩ hev fun ρ' a' w' hs => ?_)
       cases e with
       | exit i => cases h
       | nrm =>
        simp only [er, cond_true] at h
        cases hvs : aD (jk tm H1) rs with
        | none => rw [hvs] at h; cases h
        | some vs => rw [hvs] at h; exact hpost ρ' a' w' hs vs hvs h
       | ret =>
        simp only [er, cond_true] at h
        cases hvs : aD (jk tm H1) rs with
        | none => rw [hvs] at h; cases h
        | some vs => rw [hvs] at h; exact hpost ρ' a' w' hs vs hvs h
theorem F9 {Q : Exit → Act → World → Prop} {call : aa} {ops : Array Oper} (hcall : ct P base G call) {ρ₀ : Ren} {H₀ : AHeap} {w₀ : World} {d : List Deferred} {tm' : Tr AV} {H' : AHeap} {js : List Nat} :
 ∀ (l : List Oper) (qs : List QI) (is : List Nat), l.length = is.length → (∀ (j i : Nat) (o : Oper), is[j]? = some i → l[j]? = some o → ops[i]? = some o) → aD (gj P G ops) l = some qs →
  ∀ {tm : Tr AV} {H : AHeap} {ρ : Ren} {a : Act} {w : World}, SR P base G ρ₀ H₀ w₀ d ρ tm H a w → dy P call qs tm H = some (tm', H') →
   (∀ ρ' a' w', SR P base G ρ₀ H₀ w₀ d ρ' tm' H' a' w' → wpOps P ops Q js a' w') → wpOps P ops Q (is ++ js) a w := by
 intro l
 induction l with
 | nil =>
  intro qs is hl _ hq tm H ρ a w hs h hQ
  cases hq; cases h
  cases is with
  | nil => exact hQ ρ a w hs
  | cons => simp at hl
 | cons o l ih =>
  intro qs is hl hops hq tm H ρ a w hs h hQ
  cases is with
  | nil => simp at hl
  | cons i is =>
   simp only [aD] at hq
   cases hq1 : gj P G ops o with
   | none => rw [hq1] at hq; cases hq
   | some q =>
    rw [hq1] at hq
    cases hq2 : aD (gj P G ops) l with
    | none => rw [hq2] at hq; cases hq
    | some qs' =>
     rw [hq2] at hq; cases hq
     simp only [gj, bind, Option.bind_eq_some_iff] at hq1
     obtain ⟨g, hg, k, hk, hqe⟩ := hq1
     cases hqe
     have hoi : ops[i]? = some o := hops 0 i o rfl rfl
     have hl' : l.length = is.length := by simpa using hl
     have hops' : ∀ (j i' : Nat) (o' : Oper), is[j]? = some i' → l[j]? = some o' → ops[i']? = some o' := fun j i' o' h1 h2 => hops (j + 1) i' o' (by simpa using h1) (by simpa using h2)
     rw [List.cons_append, wpOps_cons]
     unfold wpOp
     simp only [hoi]
     rw [iz (_g0 := o.guard) hg hs.tr]
     simp only [dy] at h
     cases hw : mG g tm with
     | false =>
      rw [hw] at h
      simp only [Bool.false_eq_true, if_false]
      exact ih qs' is hl' hops' hq2 (hs.step dZ hs.hr (Ext.refl _ _ _)) h hQ
     | true =>
      rw [hw] at h
      simp only [cond_true] at h
      simp only [if_true]
      cases hop : opK P call k (Opnd.ev tm) H with
      | none => rw [hop] at h; cases h
      | some x =>
       obtain ⟨v, H1⟩ := x
       rw [hop] at h
       refine .inl (GH hcall hs.hr hs.gl (fun x _ => EvR.of_TR hs.tr hs.gl x) hk hop fun ρ' v' w' q1 q2 q3 => ?_)
       exact ih qs' is hl' hops' hq2 (hs.step q1 q2 q3) h hQ
theorem xo {α : Type} {l : List α} {i : Nat} {x : α} (h : l[i]? = some x) : i < l.length := (List.getElem?_eq_some_iff.1 h).1
theorem iQ (ev : Opnd → AV) : ∀ l, (evs ev l).length = l.length
 | [] => rfl
 | _ :: l => by simp [evs, iQ ev l]
theorem HC {o : Oper} {f : Nat} {l : List Opnd} (h : TX G o = some (f, l)) : ∃ args ts, o.guard = none ∧ o.dst = none ∧ o.op = .defer { callee := .value (.func f), args, argTypes := ts } ∧ aD (aF G) args.toList = some l := by
 unfold TX at h
 split at h
 · rename_i g args ts h1 h2 h3
   split at h
   · rename_i l' hl
     cases h
     exact ⟨args, ts, h1, h2, h3, hl⟩
   · cases h
 · cases h
theorem xJ {f : Nat} {kf : KFun} (h : cE P G f = some kf) : ∃ fn c, P.funcs[f]? = some fn ∧ fn.body = some c ∧ bC P f ∧ aT P G c = some kf.code ∧ aD (cA P) fn.results.toList = some kf.res ∧ fn.ntmps = kf.nt := by
 unfold cE at h
 split at h
 · cases h
 · rename_i fn hfn
   split at h
   · cases h
   · rename_i c hb
     cases hnm : (fn.name == "runtime.NumGoroutine") with
     | true => rw [hnm] at h; cases h
     | false =>
      rw [hnm] at h
      simp only [cond_false] at h
      split at h
      · rename_i k hk
        split at h
        · rename_i rs hrs
          cases h
          exact ⟨fn, c, hfn, hb, ⟨fn, hfn, by rw [hb]; rfl, hnm⟩, hk, hrs, rfl⟩
        · cases h
      · cases h
theorem TV {ρ : Ren} {tm : Tr AV} {a : Act} (ht : TR ρ tm a) (hg : Gl G ρ) {l : List Operand} {m : List Opnd} (h : aD (aF G) l = some m) : VRs ρ (evs (Opnd.ev tm) m) (l.map a.eval) :=
 dW (fun x _ => EvR.of_TR ht hg x) h
theorem TW (hm : P.follows .mixedOrders = true) (hcall : ct P base G call) {fn : Func} {R : Ending → World → Prop} : ∀ (c : Code) {kc : KCode} {ρ : Ren} {tm tm' : Tr AV} {H H' : AHeap} {a : Act} {w : World} {e : Ex},
 dO P G (aT P G) (cE P G) c = some kc → SR P base G ρ₀ H₀ w₀ [] ρ tm H a w → evK P call N kc tm H = some (e, tm', H') → er e = true →
 (∀ ρ' a' w', SR P base G ρ₀ H₀ w₀ [] ρ' tm' H' a' w' → ∃ v, (results fn a'.tmps).run P w' = .ok v w' ∧ R (.returned v) w') → c.wp P (bodyPostD P fn R) a w := by
 intro c
 induction c with
 | seq x y ihx ihy =>
  clear ihx
  intro kc ρ tm tm' H H' a w e hc hs h he hfin
  simp only [dO] at hc
  cases hd : jD G x with
  | none =>
   rw [hd] at hc
   simp only at hc
   cases hy : dO P G (aT P G) (cE P G) y with
   | none => rw [hy] at hc; cases hc
   | some ky =>
    cases hx : aT P G x with
    | none => rw [hy, hx] at hc; cases hc
    | some kx =>
     rw [hy, hx] at hc; cases hc
     simp only [evK] at h
     cases h1 : evK P call N kx tm H with
     | none => rw [h1] at h; cases h
     | some r =>
      obtain ⟨e1, tm1, H1⟩ := r
      rw [h1] at h
      simp only at h
      refine wp_seq (ri hm hcall x hx hs h1 fun ρ' a' w' hs' => ?_)
      cases e1 with
      | nrm => exact ihy hy hs' h he hfin
      | exit i => cases h; cases he
      | ret =>
       cases h
       show Leaves P fn a'.tmps R a'.defers .returning w'
       rw [hs'.defers]
       exact hfin ρ' a' w' hs'
  | some fl =>
   obtain ⟨f, l⟩ := fl
   rw [hd] at hc
   simp only at hc
   cases hq : DZ P G x with
   | none => rw [hq] at hc; cases hc
   | some qs =>
    rw [hq] at hc
    simp only at hc
    cases hf : cE P G f with
    | none => rw [hf] at hc; cases hc
    | some kf =>
     rw [hf] at hc
     simp only at hc
     cases hres : kf.res with
     | cons => rw [hres] at hc; cases hc
     | nil =>
      rw [hres] at hc
      simp only at hc
      cases hb : aT P G y with
      | none => rw [hb] at hc; cases hc
      | some kb =>
       rw [hb] at hc
       simp only at hc
       cases hle : Nat.ble l.length kf.nt with
       | false => rw [hle] at hc; cases hc
       | true =>
        rw [hle] at hc; cases hc
        cases x <;> simp only [jD] at hd <;> (try cases hd; done)
        rename_i rid ops draw
        cases draw with
        | true => cases hd
        | false =>
         simp only at hd
         simp only [DZ] at hq
         cases hlast : ops.toList.getLast? with
         | none => rw [hlast] at hd; cases hd
         | some o =>
          rw [hlast] at hd
          simp only at hd
          obtain ⟨args, ts, hog, hod, hoo, hl⟩ := HC hd
          have happ : ops.toList = ops.toList.dropLast ++ [o] := by
           rw [List.getLast?_eq_some_iff] at hlast
           obtain ⟨ys, hys⟩ := hlast
           rw [hys]; simp
          have hsz : ops.size = ops.toList.dropLast.length + 1 := by
           have := congrArg List.length happ
           simpa using this
          have hoi : ops[ops.toList.dropLast.length]? = some o := by
           rw [← Array.getElem?_toList, happ]
           simp
          simp only [evK] at h
          cases hi : dy P call qs tm H with
          | none => rw [hi] at h; cases h
          | some x1 =>
           obtain ⟨tm1, H1⟩ := x1
           rw [hi] at h
           simp only at h
           cases h1 : evK P call N kb tm1 H1 with
           | none => rw [h1] at h; cases h
           | some r =>
            obtain ⟨e1, tm2, H2⟩ := r
            rw [h1] at h
            simp only at h
            cases hd1 : er e1 with
            | false => rw [hd1] at h; cases h
            | true =>
             rw [hd1] at h
             simp only [cond_true] at h
             cases h2 : evK P call N kf.code (bj (Tr.rep kf.nt .undef) 0 (evs (Opnd.ev tm1) l)) H2 with
             | none => rw [h2] at h; cases h
             | some r2 =>
              obtain ⟨e2, tm3, H3⟩ := r2
              rw [h2] at h
              simp only at h
              cases hd2 : er e2 with
              | false => rw [hd2] at h; cases h
              | true =>
               rw [hd2] at h; cases h
               obtain ⟨fnd, cd, hfnd, hbd, hcb, hck, hrs, hnt⟩ := xJ hf
               refine wp_seq (wp_region ?_)
               rw [hsz, List.range_succ]
               refine F9 hcall ops.toList.dropLast qs (List.range ops.toList.dropLast.length) (by simp) (fun j i o' g1 g2 => by
                have hj : j < ops.toList.dropLast.length := xo g2
                rw [List.getElem?_range hj] at g1; cases g1
                rw [← Array.getElem?_toList, happ, List.getElem?_append_left hj]; exact g2) hq hs hi fun ρ1 a1 w1 hs1 => ?_
               rw [wpOps_cons]
               unfold wpOp
               simp only [hoi]
               have hwant : Region.wanted o (yielded ops a1.tmps) = true := by unfold Region.wanted; rw [hog]
               rw [hwant]
               simp only [if_true]
               refine .inl ?_
               unfold Oper.wp
               have hex : (execOp a1.eval o).run P w1 = .ok (.defer { target := .fn (.func f) #[], args := #[] ++ args.map a1.eval }) w1 := by
                unfold execOp
                rw [hoo]
                rfl
               rw [hex, Oper.upon_defer, hod]
               show (y.wp P (bodyPostD P fn R) { a1 with defers := _ :: a1.defers } w1)
               have hv := TV hs1.tr hs1.gl hl
               refine ri (ρ₀ := ρ1) (H₀ := H1) (w₀ := w1) (d0 := [{ target := .fn (.func f) #[], args := #[] ++ args.map a1.eval }]) hm hcall y hb (ρ := ρ1) ⟨hs1.tr, hs1.hr, hs1.gl, Ext.refl _ _ _, by show _ :: a1.defers = _; rw [hs1.defers]⟩ h1 fun ρ2 a2 w2 hs2 => ?_
               have hleave : Leaves P fn a2.tmps R a2.defers .returning w2 := by
                rw [hs2.defers]
                have hinv : (invoke (.fn (.func f) #[]) (#[] ++ args.map a1.eval)).run P w2 = .ok (.enter f (List.toArray (args.toList.map a1.eval))) w2 := by
                 show (callFunc f ((#[] ++ args.map a1.eval) ++ #[])).run P w2 = _
                 rw [dR hcb]
                 congr 1
                 congr 1
                 apply Array.ext'
                 simp
                refine leaves_cons (by intro q; cases q) hinv ?_
                have hsub := hs2.hr
                have hv2 : VRs ρ2 (evs (Opnd.ev tm1) l) (args.toList.map a1.eval) := VRs.mono (hs1.hr.sub hs2.ext) hv
                have hlen : (evs (Opnd.ev tm1) l).length ≤ kf.nt := by
                 have : (evs (Opnd.ev tm1) l).length = l.length := iQ _ _
                 rw [this]; exact Nat.le_of_ble_eq_true hle
                have hTR : TR ρ2 (bj (Tr.rep kf.nt .undef) 0 (evs (Opnd.ev tm1) l)) ⟨List.toArray (args.toList.map a1.eval) ++ Array.replicate (fnd.ntmps - (List.toArray (args.toList.map a1.eval)).size) undef, []⟩ := by
                 rw [hnt]; exact rB hv2 hlen
                have hwp : cd.wp P (bodyPost P fnd fun e' w3 => ∃ v, e' = .returned v ∧ ∃ v', (results fn a2.tmps).run P w3 = .ok v' w3 ∧ R (.returned v') w3) { tmps := List.toArray (args.toList.map a1.eval) ++ Array.replicate (fnd.ntmps - (List.toArray (args.toList.map a1.eval)).size) undef, defers := [] } w2 := by
                 refine ri (ρ₀ := ρ2) (H₀ := H2) (w₀ := w2) (d0 := []) hm hcall cd hck (ρ := ρ2) ⟨hTR, hs2.hr, hs2.gl, Ext.refl _ _ _, rfl⟩ h2 fun ρ3 a3 w3 hs3 => ?_
                 have hpost : a3.defers = [] ∧ ∃ v, (results fnd a3.tmps).run P w3 = .ok v w3 ∧ ∃ v1, Ending.returned v = .returned v1 ∧ ∃ v', (results fn a2.tmps).run P w3 = .ok v' w3 ∧ R (.returned v') w3 := by
                  rw [hres] at hrs
                  obtain ⟨v3, e3, _⟩ := eU hs3.hr hs3.tr hs3.gl (ks := []) (vs := []) hrs rfl
                  have hsub3 : Sub ρ2 ρ3 := hs2.hr.sub hs3.ext
                  exact ⟨hs3.defers, v3, e3, v3, rfl, hfin ρ3 { a2 with defers := [] } w3 ⟨⟨(hs2.tr.mono hsub3).1, (hs2.tr.mono hsub3).2⟩, hs3.hr, hs3.gl, (hs1.ext.trans hs2.ext).trans hs3.ext, rfl⟩⟩
                 cases e2 with
                 | exit i => cases hd2
                 | nrm => exact hpost
                 | ret => exact hpost
                refine (callsD_of_wp hfnd hbd (u := .returning) hwp).mono ?_
                rintro e' u' w3 ⟨rfl, v, rfl, hv'⟩
                exact hv'
               cases e1 with
               | exit i => cases hd1
               | nrm => exact hleave
               | ret => exact hleave
 | _ => intro kc ρ tm tm' H H' a w e hc; cases hc
theorem vR {call : aa} {f : Nat} {kf : KFun} {args : List AV} {H H' : AHeap} {v : AV} (hm : P.follows .mixedOrders = true) (ih : ct P base G call) (hcf : nK P G f = some kf) (hle : Nat.ble args.length kf.nt = true)
 (h : nD kf.res (evK P call N kf.code (bj (Tr.rep kf.nt .undef) 0 args) H) = some (v, H')) : bC P f ∧
 ∀ ρ w args', HR base ρ H w → Gl G ρ → VRs ρ args args' → Calls P f (List.toArray args') w fun e w' => ∃ ρ' v', e = .returned v' ∧ VR ρ' v v' ∧ HR base ρ' H' w' ∧ Ext ρ H w ρ' H' w' := by
 have hle' := Nat.le_of_ble_eq_true hle
 unfold nK at hcf
 cases hfn : P.funcs[f]? with
 | none => rw [hfn] at hcf; cases hcf
 | some fn =>
  rw [hfn] at hcf
  simp only at hcf
  cases hb : fn.body with
  | none => rw [hb] at hcf; cases hcf
  | some c =>
   rw [hb] at hcf
   simp only at hcf
   cases hnm : (fn.name == "runtime.NumGoroutine") with
   | true => rw [hnm] at hcf; cases hcf
   | false =>
    rw [hnm] at hcf
    simp only [cond_false] at hcf
    cases hck : dO P G (aT P G) (cE P G) c with
    | none => rw [hck] at hcf; cases hcf
    | some k =>
     rw [hck] at hcf
     simp only at hcf
     cases hrs : aD (cA P) fn.results.toList with
     | none => rw [hrs] at hcf; cases hcf
     | some rs =>
      rw [hrs] at hcf; cases hcf
      simp only at h hle'
      refine ⟨⟨fn, hfn, by rw [hb]; rfl, hnm⟩, fun ρ w args' hr hg ha => ?_⟩
      unfold nD at h
      cases hev : evK P (call) N k (bj (Tr.rep fn.ntmps .undef) 0 args) H with
      | none => rw [hev] at h; cases h
      | some r =>
       obtain ⟨e, tm, H1⟩ := r
       rw [hev] at h
       simp only at h
       cases hdn : er e with
       | false => rw [hdn] at h; cases h
       | true =>
        rw [hdn] at h
        simp only [cond_true] at h
        cases hvs : aD (jk tm H1) rs with
        | none => rw [hvs] at h; cases h
        | some vs =>
         rw [hvs] at h; cases h
         refine calls_of_wp_defers hfn hb (TW (ρ₀ := ρ) (H₀ := H) (w₀ := w) hm ih c hck (ρ := ρ) ⟨rB ha hle', hr, hg, Ext.refl _ _ _, rfl⟩ hev hdn fun ρ' a' w' hs => ?_)
         obtain ⟨v', e1, e2⟩ := eU hs.hr hs.tr hs.gl hrs hvs
         exact ⟨v', e1, ρ', v', rfl, e2, hs.hr, hs.ext⟩
theorem xO {call : aa} {f : Nat} {kf : KFun} {args : List AV} {H H' : AHeap} {v : AV} (hm : P.follows .mixedOrders = true) (ih : ct P base G call) (hcf : lD P G f = some kf) (hle : Nat.ble args.length kf.nt = true)
 (h : nD kf.res (evK P call N kf.code (bj (Tr.rep kf.nt .undef) 0 args) H) = some (v, H')) : bC P f ∧
 ∀ ρ w args', HR base ρ H w → Gl G ρ → VRs ρ args args' → Calls P f (List.toArray args') w fun e w' => ∃ ρ' v', e = .returned v' ∧ VR ρ' v v' ∧ HR base ρ' H' w' ∧ Ext ρ H w ρ' H' w' := by
 unfold lD at hcf
 cases hd : vT P G f with
 | true => rw [hd] at hcf; exact vR hm ih hcf hle h
 | false => rw [hd] at hcf; exact vS hm ih hcf hle h
end
end
end Go.Ab
