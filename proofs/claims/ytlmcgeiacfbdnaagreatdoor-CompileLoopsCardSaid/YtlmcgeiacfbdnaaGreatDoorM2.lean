/- The machine: a run; from a text to what it says. -/
import Derived.Test.YtlmcgeiacfbdnaaGreatDoorM1
import Derived.Test.YtlmcgeiacfbdnaaGreatDoorA3
namespace Go.Proofs.YtlmcgeiacfbdnaaGreatDoor
open Go.Ab
noncomputable section
set_option maxRecDepth 100000
def mapB (m : Mo) (f : Fr) : Bool := decide (0 ≤ f.fn) && (decide (0 ≤ f.pc) && (decide (f.slots.length ≤ 1000) && (match m.funcs[f.fn.toNat]? with | some u => decide (f.pc < u.maps.length) | none => false)))
theorem mapB_of {m : Mo} {fs : List Fr} (h : fs.all (mapB m) = true) : MapOK m fs := fun f hf => by
 have := List.all_eq_true.1 h f hf
 unfold mapB at this
 simp only [Bool.and_eq_true, decide_eq_true_eq] at this
 obtain ⟨h1, h2, h3, h4⟩ := this
 split at h4
 · rename_i u hu
   exact ⟨⟨u, hu, h1, h2, by simpa using h4⟩, h3⟩
 · cases h4
def stepC (m : Mo) (c : St) : Option St :=
 match c.gs with
 | none => none
 | some fs => match fs.length with
  | 0 => none
  | k + 1 => match fs[k]? with
   | none => none
   | some f => match m.ins f with
    | none => none
    | some i => match decide (k < 256) && (decide (i.op ≠ 38) && (decide (i.op ≠ 39) && (decide (i.op ≠ 41) && (decide (c.en = 0) && (decide (f.pc ≤ 1000000) && (fs.all (mapB m) && decide (c.acts.length ≤ 100000))))))) with
     | true => match doTo m c fs k f i with
      | some c1 => match decide (c1.acts.length ≤ 100000) with
       | true => some (actTo c1 k f i)
       | false => none
      | none => none
     | false => none
structure Stp (m : Mo) (c c' : St) (fs : List Fr) (k : Nat) (f : Fr) (i : Ins) (c1 : St) : Prop where
 y : Rdy m c fs k f i
 pc : f.pc ≤ 1000000
 maps : MapOK m fs
 to : doTo m c fs k f i = some c1
 few : c1.acts.length ≤ 100000
 eq : c' = actTo c1 k f i
theorem stepC_of {m : Mo} {c c' : St} (h : stepC m c = some c') : ∃ fs k f i c1, Stp m c c' fs k f i c1 := by
 unfold stepC at h
 split at h
 · cases h
 · rename_i fs hg
   split at h
   · cases h
   · rename_i k hk
     split at h
     · cases h
     · rename_i f hf
       split at h
       · cases h
       · rename_i i hi
         split at h
         · rename_i hc
           simp only [Bool.and_eq_true, decide_eq_true_eq] at hc
           obtain ⟨h1, h2, h3, h4, h5, h6, h7, h8⟩ := hc
           split at h
           · rename_i c1 hd
             split at h
             · rename_i hl
               have hm := mapB_of h7
               cases h
               exact ⟨fs, k, f, i, c1, ⟨hg, hk, h1, hf, hi, h2, h3, h4, (hm f (List.mem_of_getElem? hf)).2, h5⟩, h6, hm, hd, by simpa using hl, rfl⟩
             · cases h
           · cases h
         · cases h
def chk (m : Mo) (want : List Int) : Nat → St → Bool
 | 0, _ => false
 | n + 1, c => match decide (c.en = 0) with
  | true => match stepC m c with
   | some c' => chk m want n c'
   | none => false
  | false => decide (c.en = 1) && (decide (c.trap = 0) && (decide (c.out = want) && decide (c.acts.length ≤ 1000000)))
def Sim (s c : St) : Prop := s = { c with phase := s.phase, black := s.black, done := s.done, used := s.used }
theorem Sim.refl (s : St) : Sim s s := rfl
theorem Sim.gs {s c : St} (h : Sim s c) : s.gs = c.gs := by rw [h]
theorem Sim.en {s c : St} (h : Sim s c) : s.en = c.en := by rw [h]
theorem Sim.out {s c : St} (h : Sim s c) : s.out = c.out := by rw [h]
theorem Sim.acts {s c : St} (h : Sim s c) : s.acts = c.acts := by rw [h]
theorem Sim.trap {s c : St} (h : Sim s c) : s.trap = c.trap := by rw [h]
theorem Rdy.sim {m : Mo} {s c : St} {fs : List Fr} {k : Nat} {f : Fr} {i : Ins} (h : Sim s c) (y : Rdy m c fs k f i) : Rdy m s fs k f i :=
 ⟨h.gs.trans y.hg, y.hk, y.hb, y.hf, y.hi, y.o38, y.o39, y.o41, y.sl, h.en.trans y.en⟩
theorem doTo_sim {m : Mo} {s c c1 : St} {fs : List Fr} {k : Nat} {f : Fr} {i : Ins} (h : Sim s c) (e : doTo m c fs k f i = some c1) : ∃ s1, doTo m s fs k f i = some s1 ∧ Sim s1 c1 ∧ s1.phase = s.phase := by
 rw [h]
 generalize s.phase = a1
 generalize s.black = a2
 generalize s.done = a3
 generalize s.used = a4
 unfold doTo at e ⊢
 split at e
 · rename_i c1'
   rw [if_pos c1']
   cases hp : plainTo m i f f.pc with
   | none => rw [hp] at e; cases e
   | some f' => rw [hp] at e; cases e; exact ⟨_, rfl, rfl, rfl⟩
 · rename_i c1'
   rw [if_neg c1']
   split at e
   · rename_i c2
     rw [if_pos c2]
     split at e
     · rename_i c3
       rw [if_pos c3]
       split at e
       · rename_i u hu
         split at e
         · rename_i c4
           simp only [if_pos c4]
           cases e
           exact ⟨_, rfl, rfl, rfl⟩
         · cases e
       · cases e
     · cases e
   · rename_i c2
     rw [if_neg c2]
     split at e
     · rename_i c3
       rw [if_pos c3]
       cases k with
       | zero => cases e; exact ⟨_, rfl, rfl, rfl⟩
       | succ j =>
        simp only at e ⊢
        split at e
        · rename_i f2 hf2
          split at e
          · rename_i i2 hi2
            split at e
            · rename_i c4
              simp only [if_pos c4]
              cases e
              exact ⟨_, rfl, rfl, rfl⟩
            · cases e
          · cases e
        · cases e
     · rename_i c3
       rw [if_neg c3]
       split at e
       · rename_i c4
         rw [if_pos c4]
         split at e
         · rename_i c5
           simp only [if_pos c5]
           cases e
           exact ⟨_, rfl, rfl, rfl⟩
         · cases e
       · cases e
theorem actTo_sim {s c : St} {k : Nat} {f : Fr} {i : Ins} (h : Sim s c) : Sim (actTo s k f i) (actTo c k f i) ∧ (actTo s k f i).phase = s.phase := by
 unfold actTo
 rw [h.en]
 split
 · refine ⟨?_, rfl⟩
   rw [h]; rfl
 · exact ⟨h, rfl⟩
def Pre (a b : List Int) : Prop := ∃ c, b = a ++ c
theorem Pre.refl (a : List Int) : Pre a a := ⟨[], by simp⟩
theorem Pre.trans {a b c : List Int} (h : Pre a b) (k : Pre b c) : Pre a c := by
 obtain ⟨x, rfl⟩ := h
 obtain ⟨y, rfl⟩ := k
 exact ⟨x ++ y, by simp⟩
theorem doTo_out {m : Mo} {c c1 : St} {fs : List Fr} {k : Nat} {f : Fr} {i : Ins} (e : doTo m c fs k f i = some c1) : Pre c.out c1.out ∧ c1.ar = c.ar ∧ c1.uns = c.uns ∧ c1.q = c.q ∧ c1.globals = c.globals := by
 unfold doTo at e
 split at e
 · cases hp : plainTo m i f f.pc with
   | none => rw [hp] at e; cases e
   | some f' => rw [hp] at e; cases e; exact ⟨.refl _, rfl, rfl, rfl, rfl⟩
 · split at e
   · split at e
     · split at e
       · split at e
         · cases e; exact ⟨.refl _, rfl, rfl, rfl, rfl⟩
         · cases e
       · cases e
     · cases e
   · split at e
     · cases k with
       | zero => cases e; exact ⟨.refl _, rfl, rfl, rfl, rfl⟩
       | succ j =>
        simp only at e
        split at e
        · split at e
          · split at e
            · cases e; exact ⟨.refl _, rfl, rfl, rfl, rfl⟩
            · cases e
          · cases e
        · cases e
     · split at e
       · split at e
         · cases e; exact ⟨⟨_, rfl⟩, rfl, rfl, rfl, rfl⟩
         · cases e
       · cases e
theorem actTo_out {c : St} {k : Nat} {f : Fr} {i : Ins} : (actTo c k f i).out = c.out ∧ (actTo c k f i).ar = c.ar ∧ (actTo c k f i).uns = c.uns ∧ (actTo c k f i).q = c.q ∧ (actTo c k f i).globals = c.globals := by
 unfold actTo; split <;> exact ⟨rfl, rfl, rfl, rfl, rfl⟩
theorem chk_pre {m : Mo} {want : List Int} : ∀ {n : Nat} {c : St}, chk m want n c = true → Pre c.out want
 | 0, _, h => by cases h
 | n + 1, c, h => by
  unfold chk at h
  split at h
  · split at h
    · rename_i c' hs
      obtain ⟨fs, k, f, i, c1, q⟩ := stepC_of hs
      have h2 := chk_pre h
      have h3 := (doTo_out q.to).1
      rw [q.eq, actTo_out.1] at h2
      exact h3.trans h2
    · cases h
  · simp only [Bool.and_eq_true, decide_eq_true_eq] at h
    rw [h.2.2.1]; exact .refl _
section
variable {pr : Prims} {B : Bx} {Z : Nat → Prop} {m : Mo} {L L' : Lay} {s s' c : St} {H H' : AHeap}
structure Run (m : Mo) (want : List Int) (s : St) : Prop where
 run : ∃ n c, chk m want n c = true ∧ Sim s c
 dull : Dull m s
 ph : s.phase = 0 ∨ s.phase = 1 ∨ s.phase = 2 ∨ s.phase = 3
theorem Dull.of {s s' : St} (y : Dull m s) (h1 : s'.globals = s.globals) (h2 : s'.ar = s.ar) (h3 : s'.uns = s.uns) (h4 : s'.q = s.q) : Dull m s' :=
 ⟨y.maps, h1.trans y.globals, by rw [h2]; exact y.spans, by rw [h2]; exact y.few, by rw [h3]; exact y.uns, h4.trans y.q⟩
theorem gcTo_facts (s : St) : Sim (gcTo s) s ∧ ((gcTo s).phase = 0 ∨ (gcTo s).phase = 1 ∨ (gcTo s).phase = 2 ∨ (gcTo s).phase = 3) := by
 unfold gcTo
 split
 · split
   · exact ⟨rfl, .inr (.inr (.inl rfl))⟩
   · rename_i h _; exact ⟨rfl, .inr (.inl h)⟩
 · split
   · split
     · exact ⟨rfl, .inr (.inr (.inr rfl))⟩
     · exact ⟨rfl, .inr (.inl rfl)⟩
   · split
     · exact ⟨rfl, .inl rfl⟩
     · exact ⟨rfl, .inr (.inl rfl)⟩
theorem Sim.trans {a b c : St} (h : Sim a b) (k : Sim b c) : Sim a c := by
 unfold Sim at *
 rw [h, k]
theorem run_One (F : Free pr) (SP : Srt pr) (n : Nat) {want : List Int} (h : M B Z m L s H) (r : Run m want s) (he : s.en = 0) {p : Nat} (hpb : p ≤ 1000000000) :
 W (VE pr (n + 10) n21 [.ptr B.v 0, I (p : Int)] H) fun r H' => ∃ s', Ex B Z m L H (.bool true) s' r H' ∧ Run m want s' := by
 obtain ⟨N, c, hc, hs⟩ := r.run
 cases N with
 | zero => cases hc
 | succ N =>
  have hc0 := hc
  unfold chk at hc
  rw [show decide (c.en = 0) = true by rw [← hs.en, he]; rfl] at hc
  simp only at hc
  split at hc
  · rename_i c' hst
    obtain ⟨fs, k, f, i, c1, q⟩ := stepC_of hst
    have y := q.y.sim hs
    by_cases hp : p % 2 = 0
    · obtain ⟨s1, e1, e2, e3⟩ := doTo_sim hs q.to
      obtain ⟨e4, e5⟩ := actTo_sim (k := k) (f := f) (i := i) e2
      have nx : (actTo s1 k f i).en ≠ 0 ∨ ∃ fs' k' f' i', Rdy m (actTo s1 k f i) fs' k' f' i' := by
       rw [← q.eq] at e4
       cases N with
       | zero => cases hc
       | succ N =>
        unfold chk at hc
        by_cases h0 : c'.en = 0
        · rw [show decide (c'.en = 0) = true by rw [h0]; rfl] at hc
          simp only at hc
          split at hc
          · rename_i c2 hst2
            obtain ⟨fs2, k2, f2, i2, c3, q2⟩ := stepC_of hst2
            exact .inr ⟨fs2, k2, f2, i2, q2.y.sim e4⟩
          · cases hc
        · exact .inl (by rw [e4.en]; exact h0)
      refine (run_One_do F SP n h y q.pc e1 (by rw [e2.acts]; exact q.few) nx hp hpb).mono fun v' H' hx => ⟨_, hx, ⟨N, c', hc, by rw [q.eq]; exact e4⟩, ?_, by rw [e5, e3]; exact r.ph⟩
      obtain ⟨_, o2, o3, o4, o5⟩ := doTo_out e1
      obtain ⟨_, a2, a3, a4, a5⟩ := actTo_out (c := s1) (k := k) (f := f) (i := i)
      exact r.dull.of (a5.trans o5) (a2.trans o2) (a3.trans o3) (a4.trans o4)
    · have hp1 : p % 2 = 1 := by omega
      obtain ⟨g1, g2⟩ := gcTo_facts s
      refine (run_One_gc F SP (n + 1) h y r.dull q.maps r.ph hp1 hpb).mono fun r' H' hx => ⟨_, hx, ⟨N + 1, c, hc0, g1.trans hs⟩, ?_, g2⟩
      exact r.dull.of (by rw [g1]) (by rw [g1]) (by rw [g1]) (by rw [g1])
  · cases hc
theorem run_One_end (F : Free pr) (n : Nat) (h : M B Z m L s H) (he : s.en ≠ 0) (p : Int) : VE pr (n + 2) n21 [.ptr B.v 0, I p] H = some (.bool false, H) := by
 refine (U21 pr (F _ (by decide)) (n + 1) _ _ _).trans ?_
 simp -implicitDefEqProofs [S21_1, pC, vm_End F n h, he]
theorem Run.few {want : List Int} (r : Run m want s) : s.acts.length ≤ 1000000 := by
 obtain ⟨N, c, hc, hs⟩ := r.run
 rw [hs.acts]
 cases N with
 | zero => cases hc
 | succ N =>
  unfold chk at hc
  split at hc
  · split at hc
    · rename_i c' hst
      unfold stepC at hst
      split at hst
      · cases hst
      · split at hst
        · cases hst
        · split at hst
          · cases hst
          · split at hst
            · cases hst
            · split at hst
              · rename_i hx
                simp only [Bool.and_eq_true, decide_eq_true_eq] at hx
                have := hx.2.2.2.2.2.2.2
                omega
              · cases hst
    · cases hc
  · simp only [Bool.and_eq_true, decide_eq_true_eq] at hc
    exact hc.2.2.2
theorem Run.outs {want : List Int} (r : Run m want s) : s.out.length ≤ want.length := by
 obtain ⟨N, c, hc, hs⟩ := r.run
 rw [hs.out]
 obtain ⟨z, e⟩ := chk_pre hc
 rw [e, List.length_append]; omega
theorem Run.end_ {want : List Int} (r : Run m want s) : (s.en = 0 ∧ Pre s.out want) ∨ (s.en = 1 ∧ s.trap = 0 ∧ s.out = want) := by
 obtain ⟨N, c, hc, hs⟩ := r.run
 have hp := chk_pre hc
 rw [hs.en, hs.out, hs.trap]
 cases N with
 | zero => cases hc
 | succ N =>
  unfold chk at hc
  by_cases h0 : c.en = 0
  · exact .inl ⟨h0, hp⟩
  · rw [show decide (c.en = 0) = false by simpa using h0] at hc
    simp only [Bool.and_eq_true, decide_eq_true_eq] at hc
    exact .inr ⟨hc.1, hc.2.1, hc.2.2.1⟩
end
end
noncomputable section
set_option maxRecDepth 100000
def fullV (t : Tr AV) (n : Nat) : Bool := Tr.rec (motive := fun _ => Bool)
 (fun a => and2 (Nat.ble n 16) (all16 fun i => eqB (someB (N16.gd i a)) (Nat.ble (Nat.succ i) n)))
 (fun a => and2 (Nat.ble n 256) (all16 fun i => all16 fun j => eqB (someB (Q2.get a (Nat.add (Nat.mul i 16) j))) (Nat.ble (Nat.succ (Nat.add (Nat.mul i 16) j)) n)))
 (fun a b => and2 (Nat.ble n 4096) (and2 (isNilT b) (all16 fun i => all16 fun j => all16 fun k => eqB (someB (Q3.get a (Nat.add (Nat.mul i 256) (Nat.add (Nat.mul j 16) k)))) (Nat.ble (Nat.succ (Nat.add (Nat.mul i 256) (Nat.add (Nat.mul j 16) k))) n)))) t
theorem fullV_spec {t : Tr AV} {n : Nat} (h : fullV t n = true) : t.Full n := by
 intro i
 cases t with
 | t1 a =>
  obtain ⟨h1, h2⟩ := and2_eq (show and2 _ _ = true from h)
  rw [ble_dec, decide_eq_true_eq] at h1
  rw [get1]
  by_cases c : i < 16
  · rw [if_pos c]
    have := eqB_eq (all16_spec h2 i c)
    rw [someB_eq, ble_dec] at this
    rw [this]; simp; omega
  · rw [if_neg c]; simp; omega
 | t2 a =>
  obtain ⟨h1, h2⟩ := and2_eq (show and2 _ _ = true from h)
  rw [ble_dec, decide_eq_true_eq] at h1
  rw [get2]
  by_cases c : i < 256
  · rw [if_pos c]
    have := eqB_eq (all16_spec (all16_spec h2 (i / 16) (by omega)) (i % 16) (by omega))
    rw [show Nat.add (Nat.mul (i / 16) 16) (i % 16) = i by show i / 16 * 16 + i % 16 = i; omega, someB_eq, ble_dec] at this
    rw [this]; simp; omega
  · rw [if_neg c]; simp; omega
 | t3 a b =>
  obtain ⟨h1, h⟩ := and2_eq (show and2 _ _ = true from h)
  obtain ⟨h3, h2⟩ := and2_eq h
  rw [ble_dec, decide_eq_true_eq] at h1
  rw [get3]
  by_cases c : i < 4096
  · rw [if_pos c]
    have := eqB_eq (all16_spec (all16_spec (all16_spec h2 (i / 256) (by omega)) (i / 16 % 16) (by omega)) (i % 16) (by omega))
    rw [show Nat.add (Nat.mul (i / 256) 256) (Nat.add (Nat.mul (i / 16 % 16) 16) (i % 16)) = i by show i / 256 * 256 + (i / 16 % 16 * 16 + i % 16) = i; omega, someB_eq, ble_dec] at this
    rw [this]; simp; omega
  · rw [if_neg c]
    cases b with
    | nil => simp [Tb.get?]; omega
    | node _ _ _ => cases h3
def cellsB (t : Tr AV) : Nat → List AV → Bool
 | _, [] => true
 | i, a :: l => match t.get? i with
  | some v => and2 (AV.beq v a) (cellsB t (Nat.succ i) l)
  | none => false
theorem cellsB_spec {t : Tr AV} : ∀ {l : List AV} {i : Nat}, cellsB t i l = true → ∀ j, j < l.length → t.get? (i + j) = l[j]?
 | [], _, _, j, hj => by simp at hj
 | a :: l, i, h, j, hj => by
  unfold cellsB at h
  split at h
  · rename_i v hv
    obtain ⟨h1, h2⟩ := and2_eq h
    cases j with
    | zero => rw [Nat.add_zero, hv, AV.beq_eq h1]; rfl
    | succ j =>
     have := cellsB_spec h2 j (by simpa using hj)
     rw [show i + (j + 1) = Nat.succ i + j by omega, this]; simp
  · cases h
def csB (H : AHeap) (b e : Nat) (l : List AV) : Bool := match H.get b with
 | some (.cells ro e' n t) => match ro with
  | false => and2 (Nat.beq e' e) (and2 (Nat.beq n l.length) (and2 (fullV t n) (cellsB t 0 l)))
  | true => false
 | _ => false
theorem csB_spec {H : AHeap} {b e : Nat} {l : List AV} (h : csB H b e l = true) : Cs H b false e l := by
 unfold csB at h
 split at h
 · rename_i ro e' n t hg
   cases ro with
   | true => cases h
   | false =>
    obtain ⟨h1, h⟩ := and2_eq h
    obtain ⟨h2, h⟩ := and2_eq h
    obtain ⟨h3, h4⟩ := and2_eq h
    obtain rfl := Nat.eq_of_beq_eq_true h1
    obtain rfl := Nat.eq_of_beq_eq_true h2
    have hf := fullV_spec h3
    refine ⟨t, hg, hf, fun i => ?_⟩
    by_cases c : i < l.length
    · have := cellsB_spec h4 i c; rwa [Nat.zero_add] at this
    · rw [List.getElem?_eq_none (by omega)]
      cases hx : t.get? i with
      | none => rfl
      | some v => have := (hf i).1 (by rw [hx]; rfl); omega
 · cases h
def svB (H : AHeap) (v : AV) (e : Nat) (l : List AV) : Bool := match v with
 | .nilsl => (match l with | [] => true | _ => false)
 | .sl b o n q => and2 (Nat.beq o 0) (and2 (Nat.beq l.length (Nat.mul n e)) (and2 (match q with | none => true | some c => Nat.ble c n) (csB H b e l)))
 | _ => false
theorem svB_spec {H : AHeap} {v : AV} {e : Nat} {l : List AV} (h : svB H v e l = true) : SV H v e l := by
 unfold svB at h
 split at h
 · split at h
   · exact .nil _ _
   · cases h
 · rename_i b o n q
   obtain ⟨h1, h⟩ := and2_eq h
   obtain ⟨h2, h⟩ := and2_eq h
   obtain ⟨h3, h4⟩ := and2_eq h
   obtain rfl := Nat.eq_of_beq_eq_true h1
   have h2 : l.length = n * e := Nat.eq_of_beq_eq_true h2
   refine SV.of (csB_spec h4) h2 fun c hc => ?_
   subst hc
   simpa [ble_dec] using h3
 · cases h
def rolesOf (n : Nat) : List Ro := [.v, .vg, .vo, .va, .h, .c, .bl, .a, .w, .s, .l, .vu, .mk, .q, .vq, .sd, .sm, .st, .vf] ++ (List.range n).map .sl
def blksOf (B : Bx) (L : Lay) : List Nat := (rolesOf L.sl.length).filterMap (pl B L)
def memB (a : Nat) : List Nat → Bool
 | [] => false
 | b :: l => or2 (Nat.beq a b) (memB a l) where
      or2 (a b : Bool) : Bool := Bool.rec (motive := fun _ => Bool) b true a
theorem memB_spec {a : Nat} : ∀ {l : List Nat}, memB a l = false → a ∉ l
 | [], _ => by simp
 | b :: l, h => by
  unfold memB at h
  cases c : Nat.beq a b with
  | true => rw [c] at h; cases h
  | false =>
   rw [c] at h
   have := memB_spec (l := l) h
   simp only [List.mem_cons, not_or]
   exact ⟨fun e => by rw [e] at c; simp at c, this⟩
def nodB : List Nat → Bool
 | [] => true
 | a :: l => and2 (eqB (memB a l) false) (nodB l)
theorem nodB_spec : ∀ {l : List Nat}, nodB l = true → l.Nodup
 | [], _ => List.nodup_nil
 | a :: l, h => by
  obtain ⟨h1, h2⟩ := and2_eq (show and2 _ _ = true from h)
  exact List.nodup_cons.2 ⟨memB_spec (eqB_eq h1), nodB_spec h2⟩
theorem inj_of {α : Type} {p : α → Option Nat} : ∀ {l : List α}, (l.filterMap p).Nodup → ∀ r ∈ l, ∀ r' ∈ l, ∀ b, p r = some b → p r' = some b → r = r'
 | [], _, r, hr, _, _, _, _, _ => by cases hr
 | x :: l, h, r, hr, r', hr', b, e, e' => by
  have mem : ∀ {y}, y ∈ l → p y = some b → b ∈ l.filterMap p := fun hy e => List.mem_filterMap.2 ⟨_, hy, e⟩
  rcases List.mem_cons.1 hr with rfl | h1
  · rcases List.mem_cons.1 hr' with rfl | h2
    · rfl
    · rw [List.filterMap_cons_some e, List.nodup_cons] at h
      exact absurd (mem h2 e') h.1
  · rcases List.mem_cons.1 hr' with rfl | h2
    · rw [List.filterMap_cons_some e', List.nodup_cons] at h
      exact absurd (mem h1 e) h.1
    · refine inj_of ?_ r h1 r' h2 b e e'
      cases hx : p x with
      | none => rwa [List.filterMap_cons_none hx] at h
      | some y => rw [List.filterMap_cons_some hx, List.nodup_cons] at h; exact h.2
theorem rolesOf_mem (B : Bx) (L : Lay) {r : Ro} {b : Nat} (h : pl B L r = some b) : r ∈ rolesOf L.sl.length := by
 cases r <;> try simp [rolesOf]
 rename_i k
 have h : (L.sl[k]?).bind AV.blk = some b := h
 cases hk : L.sl[k]? with
 | none => rw [hk] at h; cases h
 | some v => exact (List.getElem?_eq_some_iff.1 hk).1
def allB {α : Type} (f : α → Bool) : List α → Bool
 | [] => true
 | a :: l => and2 (f a) (allB f l)
theorem allB_spec {α : Type} {f : α → Bool} : ∀ {l : List α}, allB f l = true → ∀ a ∈ l, f a = true
 | [], _, a, h => by cases h
 | x :: l, h, a, ha => by
  obtain ⟨h1, h2⟩ := and2_eq (show and2 _ _ = true from h)
  rcases List.mem_cons.1 ha with rfl | k
  · exact h1
  · exact allB_spec h2 a k
def inB (zs : List Nat) (v : AV) : Bool := match v.blk with
 | some b => memB b zs
 | none => true
theorem memB_true {a : Nat} : ∀ {l : List Nat}, memB a l = true → a ∈ l
 | [], h => by cases h
 | b :: l, h => by
  unfold memB at h
  cases c : Nat.beq a b with
  | true => rw [Nat.eq_of_beq_eq_true c]; exact List.mem_cons_self
  | false => rw [c] at h; exact List.mem_cons_of_mem _ (memB_true (l := l) h)
theorem inB_spec {zs : List Nat} {v : AV} (h : inB zs v = true) : ∀ b, v.blk = some b → b ∈ zs := fun b e => by
 unfold inB at h
 rw [e] at h
 exact memB_true h
def mdB (H : AHeap) (zs : List Nat) (B : Bx) (m : Mo) : Bool :=
 and2 (and2 (svB H B.mg 1 (m.globals.map .bool)) (inB zs B.mg)) (and2 (and2 (svB H B.mc 1 (m.consts.map I)) (inB zs B.mc)) (and2 (and2 (svB H B.mf 7 ((m.funcs.zip B.fv).flatMap fuCells)) (inB zs B.mf)) (and2 (Nat.beq B.fv.length m.funcs.length)
  (allB (fun p => and2 (and2 (svB H p.2.k 1 (p.1.kinds.map .bool)) (inB zs p.2.k)) (and2 (and2 (svB H p.2.c 5 (p.1.code.flatMap Ins.cells)) (inB zs p.2.c)) (and2 (svB H p.2.m 1 (p.1.maps.map mapV)) (inB zs p.2.m)))) (m.funcs.zip B.fv)))))
theorem mdB_spec {H : AHeap} {zs : List Nat} {B : Bx} {m : Mo} (h : mdB H zs B m = true) : Md (· ∈ zs) H B m := by
 obtain ⟨h1, h⟩ := and2_eq (show and2 _ _ = true from h)
 obtain ⟨h2, h⟩ := and2_eq h
 obtain ⟨h3, h⟩ := and2_eq h
 obtain ⟨h4, h5⟩ := and2_eq h
 have pr : ∀ {a b : Bool}, and2 a b = true → a = true ∧ b = true := and2_eq
 refine ⟨⟨svB_spec (pr h1).1, inB_spec (pr h1).2⟩, ⟨svB_spec (pr h2).1, inB_spec (pr h2).2⟩, ⟨svB_spec (pr h3).1, inB_spec (pr h3).2⟩, Nat.eq_of_beq_eq_true h4, fun k p e => ?_, fun k p e => ?_, fun k p e => ?_⟩
 all_goals
  have := allB_spec h5 p (List.mem_of_getElem? e)
  obtain ⟨g1, g⟩ := and2_eq this
  obtain ⟨g2, g3⟩ := and2_eq g
 · exact ⟨svB_spec (pr g1).1, inB_spec (pr g1).2⟩
 · exact ⟨svB_spec (pr g2).1, inB_spec (pr g2).2⟩
 · exact ⟨svB_spec (pr g3).1, inB_spec (pr g3).2⟩
def smB (H : AHeap) (B : Bx) : Bool := match H.get B.sm with
 | some (.map [(k, v, s)] ck) => and2 (AV.beq k (I 1)) (and2 (AV.beq v (.ptr B.st 0)) (Nat.ble (Nat.succ s) ck))
 | _ => false
def blB (H : AHeap) (B : Bx) : Bool := match H.get B.bl with
 | some (.map [] _) => true
 | _ => false
def arB (H : AHeap) (B : Bx) (σ : Arn) (qw qs : Nat) : Bool :=
 and2 (csB H B.a 0 [.sl B.w 0 σ.words.length (some qw), .sl B.s 0 σ.spans.length (some qs)]) (and2 (csB H B.w 1 (σ.words.map (.int .i64))) (and2 (csB H B.s 3 (σ.spans.flatMap Span.cells)) (and2 (Nat.beq σ.words.length (Nat.mul 64 σ.spans.length)) (allB (fun p => and2 (Nat.ble p.taken 1000) (Nat.ble p.marked 1000)) σ.spans))))
def mB (H : AHeap) (zs : List Nat) (B : Bx) (m : Mo) (L : Lay) (s : St) (fs : List Fr) (qw qs : Nat) : Bool :=
 and2 (fullB2 H.t H.n) (and2 (nodB (blksOf B L)) (and2 (allB (fun b => Nat.ble (Nat.succ b) H.n) (blksOf B L)) (and2 (allB (fun b => and2 (Nat.ble (Nat.succ b) H.n) (eqB (memB b (blksOf B L)) false)) zs) (and2 (mdB H zs B m)
 (and2 (and2 (csB H B.v 0 (B.md ++ [.ptr B.h 0, .ptr B.sd 0, B.vg, L.vo, L.va, I s.en, I s.trap])) (and2 (svB H B.vg 1 (s.globals.map I)) (and2 (svB H L.vo 1 (s.out.map I)) (svB H L.va 7 (s.acts.flatMap Act.cells)))))
 (and2 (csB H B.h 0 [.ptr B.c 0, B.vh, I s.forced]) (and2 (and2 (csB H B.c 0 [.ptr B.a 0, .ptr B.t 0, .ptr B.l 0, .ptr B.mr 0, I s.phase, .map B.bl, I s.done, I s.used]) (blB H B)) (and2 (arB H B s.ar qw qs) (and2 (and2 (csB H B.l 0 [.ptr B.a 0, B.vu]) (and2 (svB H B.vu 1 (s.uns.map .bool)) (Nat.beq s.uns.length s.ar.spans.length)))
 (and2 (csB H B.mr 0 [.ptr B.a 0, .ptr B.t 0, .ptr B.q 0]) (and2 (and2 (csB H B.q 0 [L.vq]) (svB H L.vq 1 (s.q.map I)))
 (and2 (csB H B.sd 0 (B.md ++ [.map B.sm, I 1])) (and2 (smB H B) (and2 (csB H B.st 0 [L.vf]) (and2 (svB H L.vf 3 ((fs.zip L.sl).flatMap frCells)) (and2 (Nat.beq L.sl.length fs.length) (and2 (Nat.beq fs.length 1) (allB (fun p => svB H p.2 1 (p.1.slots.map I)) (fs.zip L.sl)))))))))))))))))))
theorem mB_spec {H : AHeap} {zs : List Nat} {B : Bx} {m : Mo} {L : Lay} {s : St} {fs : List Fr} {qw qs : Nat} (h : mB H zs B m L s fs qw qs = true) (hg : s.gs = some fs) (hb : s.black = false) : M B (· ∈ zs) m L s H := by
 obtain ⟨h1, h⟩ := and2_eq (show and2 _ _ = true from h)
 obtain ⟨h2, h⟩ := and2_eq h
 obtain ⟨h3, h⟩ := and2_eq h
 obtain ⟨h4, h⟩ := and2_eq h
 obtain ⟨h5, h⟩ := and2_eq h
 obtain ⟨gv, h⟩ := and2_eq h
 obtain ⟨gh, h⟩ := and2_eq h
 obtain ⟨gc, h⟩ := and2_eq h
 obtain ⟨ga, h⟩ := and2_eq h
 obtain ⟨gl, h⟩ := and2_eq h
 obtain ⟨gm, h⟩ := and2_eq h
 obtain ⟨gq, h⟩ := and2_eq h
 obtain ⟨g1, h⟩ := and2_eq h
 obtain ⟨g2, h⟩ := and2_eq h
 obtain ⟨g3, h⟩ := and2_eq h
 obtain ⟨g4, h⟩ := and2_eq h
 obtain ⟨g5, h⟩ := and2_eq h
 obtain ⟨g6, g7⟩ := and2_eq h
 have hnd := nodB_spec h2
 have hinj : ∀ r r' b, pl B L r = some b → pl B L r' = some b → r = r' := fun r r' b e e' => inj_of hnd r (rolesOf_mem B L e) r' (rolesOf_mem B L e') b e e'
 have hmem : ∀ r b, pl B L r = some b → b ∈ blksOf B L := fun r b e => List.mem_filterMap.2 ⟨r, rolesOf_mem B L e, e⟩
 have ble : ∀ {a b : Nat}, Nat.ble (Nat.succ a) b = true → a < b := fun h => by rw [ble_dec, decide_eq_true_eq] at h; exact h
 refine ⟨fullB2_spec h1, fun r b e => ble (allB_spec h3 b (hmem r b e)), hinj, fun b hz => ble (and2_eq (allB_spec h4 b hz)).1, fun b hz r e => memB_spec (eqB_eq (and2_eq (allB_spec h4 b hz)).2) (hmem r b e), mdB_spec h5, fun g => ?_⟩
 cases g with
 | v =>
  obtain ⟨a1, a⟩ := and2_eq gv
  obtain ⟨a2, a⟩ := and2_eq a
  obtain ⟨a3, a4⟩ := and2_eq a
  exact ⟨csB_spec a1, svB_spec a2, svB_spec a3, svB_spec a4⟩
 | h => exact csB_spec gh
 | c =>
  obtain ⟨a1, a2⟩ := and2_eq gc
  refine ⟨csB_spec a1, ?_⟩
  unfold blB at a2
  split at a2
  · rename_i ck e
    exact ⟨[], ck, e, by rw [hb]; rfl⟩
  · cases a2
 | a =>
  obtain ⟨a1, a⟩ := and2_eq ga
  obtain ⟨a2, a⟩ := and2_eq a
  obtain ⟨a3, a⟩ := and2_eq a
  obtain ⟨a4, a5⟩ := and2_eq a
  refine ⟨⟨_, _, csB_spec a1⟩, csB_spec a2, csB_spec a3, Nat.eq_of_beq_eq_true a4, ⟨fun e => ?_, fun e => ?_, fun e => ?_⟩, fun p hp => ?_⟩
  · have := hinj .a .w B.a rfl (by rw [e]; rfl); cases this
  · have := hinj .a .s B.a rfl (by rw [e]; rfl); cases this
  · have := hinj .w .s B.w rfl (by rw [e]; rfl); cases this
  · have := allB_spec a5 p hp
    obtain ⟨b1, b2⟩ := and2_eq this
    rw [ble_dec, decide_eq_true_eq] at b1 b2
    exact ⟨by omega, by omega⟩
 | l =>
  obtain ⟨a1, a⟩ := and2_eq gl
  obtain ⟨a2, a3⟩ := and2_eq a
  exact ⟨csB_spec a1, svB_spec a2, Nat.eq_of_beq_eq_true a3⟩
 | mk => exact csB_spec gm
 | q =>
  obtain ⟨a1, a2⟩ := and2_eq gq
  exact ⟨csB_spec a1, svB_spec a2⟩
 | gg =>
  refine ⟨csB_spec g1, ?_⟩
  rw [hg]
  have hl : fs.length = 1 := Nat.eq_of_beq_eq_true g6
  refine ⟨?_, csB_spec g3, svB_spec g4, Nat.eq_of_beq_eq_true g5, fun k p e => svB_spec (allB_spec g7 p (List.mem_of_getElem? e)), fun hlt => by omega⟩
  unfold smB at g2
  split at g2
  · rename_i k v x ck e
    obtain ⟨b1, b⟩ := and2_eq g2
    obtain ⟨b2, b3⟩ := and2_eq b
    rw [AV.beq_eq b1, AV.beq_eq b2] at e
    exact ⟨x, ck, e, ble b3⟩
  · cases g2
end
noncomputable section
set_option maxRecDepth 100000
section
variable {pr : Prims} {B : Bx} {Z : Nat → Prop} {m : Mo} {L L' : Lay} {s s' c : St} {H H' : AHeap}
theorem SV.scal {v : AV} {e : Nat} {l : List AV} (h : SV H v e l) : isScal v = true ∧ v.cells = [v] := by
 rcases h with ⟨rfl, _⟩ | ⟨b, o, n, q, cs, rfl, _⟩ <;> exact ⟨rfl, rfl⟩
theorem vm_Out (F : Free pr) (n : Nat) (h : M B Z m L s H) (hb : s.out.length ≤ 1000000) : W (VE pr (n + 2) n57 [.ptr B.v 0] H) fun r H' => Copied H 1 (s.out.map I) r H' := by
 refine W_of (U57 pr (F _ (by decide)) (n + 1) _ _) ?_
 simp -implicitDefEqProofs [S57_0, h.v.rd]
 refine W_ob2i (clone_int64 F n h.wf h.vo (by omega)) fun r H1 hx => ?_
 simpa using hx
theorem vm_Acts (F : Free pr) (n : Nat) (h : M B Z m L s H) (hb : s.acts.length ≤ 1000000) : W (VE pr (n + 2) n62 [.ptr B.v 0] H) fun r H' => Copied H 7 (s.acts.flatMap Act.cells) r H' := by
 refine W_of (U62 pr (F _ (by decide)) (n + 1) _ _) ?_
 simp -implicitDefEqProofs [S62_0, h.v.rd]
 refine W_ob2i (clone_Act F n h.wf h.va (by omega)) fun r H1 hx => ?_
 simpa using hx
theorem vm_Heap (F : Free pr) (n : Nat) (h : M B Z m L s H) : VE pr (n + 1) n58 [.ptr B.v 0] H = some (.ptr B.h 0, H) := by
 refine (U58 pr (F _ (by decide)) n _ _).trans ?_
 simp -implicitDefEqProofs [S58_0, h.v.rd]
theorem heap_Forced (F : Free pr) (n : Nat) (h : M B Z m L s H) : VE pr (n + 1) n61 [.ptr B.h 0] H = some (I s.forced, H) := by
 refine (U61 pr (F _ (by decide)) n _ _).trans ?_
 simp -implicitDefEqProofs [S61_0, h.h.rd]
theorem cycle_Done (F : Free pr) (n : Nat) (h : M B Z m L s H) : VE pr (n + 1) n60 [.ptr B.c 0] H = some (I s.done, H) := by
 refine (U60 pr (F _ (by decide)) n _ _).trans ?_
 simp -implicitDefEqProofs [S60_0, h.c.rd]
structure Told (s : St) (st : Int) (H : AHeap) (r : AV) (H' : AHeap) : Prop where
 nu : Nu H H'
 ex : ∃ vo va, r = .agg [vo, I s.en, I s.trap, I st, I s.done, I s.forced, va] ∧ SV H' vo 1 (s.out.map I) ∧ SV H' va 7 (s.acts.flatMap Act.cells) ∧ ∀ b, vo.blk = some b → H.n ≤ b
theorem run_Told (F : Free pr) (n : Nat) (h : M B Z m L s H) (hb : s.out.length ≤ 1000000) (hb2 : s.acts.length ≤ 1000000) (st : Int) :
 W (VE pr (n + 3) n22 [.ptr B.v 0, I st] H) fun r H' => Told s st H r H' := by
 refine W_of (U22 pr (F _ (by decide)) (n + 2) _ _ _) ?_
 unfold S22_0
 refine W_new h.wf fun H1 u1 n1 c1 => ?_
 have h1 := h.nu u1
 simp -implicitDefEqProofs [pC, vm_End F (n + 1) h1, -stK_int]
 refine W_ob2i (vm_Out F n h1 hb) fun vo H2 hx => ?_
 obtain ⟨u2, so, fo⟩ := hx
 have h2 := h1.nu u2
 simp -implicitDefEqProofs [vm_Heap F (n + 1) h2, heap_Cycle F (n + 1) h2, cycle_Done F (n + 1) h2, heap_Forced F (n + 1) h2, -stK_int]
 refine W_ob2i (vm_Acts F n h2 hb2) fun va H3 hx => ?_
 obtain ⟨u3, sa, fa⟩ := hx
 have so3 := so.same (H' := H3) fun b e => u3.old b (so.lt u2.wf e)
 have k1 := so3.scal
 have k2 := sa.scal
 have c3 := c1.nu u1.wf (u2.trans u3)
 simp -implicitDefEqProofs [k1.2, k2.2, -stK_int]
 refine W_st c3 (x := .agg [vo, I s.en, I s.trap, I st, I s.done, I s.forced, va]) (by simp -implicitDefEqProofs [k1.1, k2.1]) rfl (by simp) fun H4 t4 c4 => ?_
 simp at c4
 have := c4.rds 0 7 (by simp)
 simp -implicitDefEqProofs [this, resV]
 have hn2 : H.n < H2.n := by have := u2.n; omega
 refine ⟨((u1.trans u2).trans u3).tu t4 (Nat.le_refl _), vo, va, rfl, so3.same fun b e => t4.old b (by have := fo b e; omega), sa.same fun b e => t4.old b (by have := fa b e; omega), fun b e => by have := fo b e; omega⟩
end
end
noncomputable section
set_option maxRecDepth 100000
section
variable {pr : Prims} {H H' : AHeap} {a b : AV} {la lb : List Int}
structure RV (H : AHeap) (v : AV) (l : List Int) : Prop where
 len : aLen .sl H v = some (I l.length)
 ia : ∀ (j : Nat), j < l.length → ∀ (c : Kv) (H0 : AHeap), pIa 1 v (I j) H0 c = c (.ptr (sb v) (so v + j)) H0
 rd : ∀ (j : Nat), j < l.length → H.rd (sb v) (so v + j) = l[j]?.map I
theorem SV.rv (h : SV H a 1 (la.map I)) : RV H a la := by
 have n := h.num
 simp at n
 refine ⟨by rw [h.len, n], fun j hj c H0 => ?_, fun j hj => ?_⟩
 · have := h.ia (c := c) (k := .i64) (x := (j : Int)) (by omega) (by omega) H0
   simpa using this
 · rw [h.rd (by simpa using hj), List.getElem?_map]
theorem nums_eq (hp : pr n12 = none) (n : Nat) (ha : RV H a la) (hb : RV H b la) (hl : la.length ≤ 100000) : VE pr (n + 1) n12 [a, b] H = some (.bool true, H) := by
 refine (U12 pr hp n _ _ _).trans ?_
 simp -implicitDefEqProofs [S12_1, ha.len, hb.len]
 have key : ∀ (r j mm : Nat) (x : Int), x = (j : Int) → j + r = la.length → r < mm → S12_0 (VE pr n) mm a b (I x) H = some (.bool true, H) := by
  intro r
  induction r with
  | zero =>
   intro j mm x hx hj hm
   obtain ⟨mm, rfl⟩ : ∃ k, mm = k + 1 := ⟨mm - 1, by omega⟩
   subst hx
   rw [L12_0]
   have : j = la.length := by omega
   simp -implicitDefEqProofs [ha.len, this]
  | succ r ih =>
   intro j mm x hx hj hm
   obtain ⟨mm, rfl⟩ : ∃ k, mm = k + 1 := ⟨mm - 1, by omega⟩
   subst hx
   rw [L12_0]
   have h1 : (j : Int) < (la.length : Int) := by omega
   have h2 : j < la.length := by omega
   have ra := ha.rd j h2
   have rb := hb.rd j h2
   simp [h2] at ra rb
   simp -implicitDefEqProofs [ha.len, h1, ha.ia j h2, hb.ia j h2, ra, rb]
   exact ih (j + 1) mm _ (by rw [wrap64 (by omega) (by omega)]; omega) (by omega) (by omega)
 exact key la.length 0 1000000 0 rfl (by omega) (by omega)
def WantV (H : AHeap) (v : AV) (l : List Int) : Prop := (v = .nilsl ∧ l = []) ∨ ∃ b q, v = .sl b 0 l.length q ∧ (q = none ∨ q = some l.length) ∧ Cs H b false 1 (l.map I)
theorem WantV.sv (h : WantV H a la) : SV H a 1 (la.map I) := by
 rcases h with ⟨rfl, rfl⟩ | ⟨b, q, rfl, hq, c⟩
 · exact .nil _ _
 · exact SV.of c (by simp) (fun x e => by rcases hq with rfl | rfl <;> cases e; simp)
theorem WantV.same (h : WantV H a la) (k : ∀ b, a.blk = some b → H'.get b = H.get b) : WantV H' a la := by
 rcases h with h | ⟨b, q, rfl, hq, c⟩
 · exact .inl h
 · exact .inr ⟨b, q, rfl, hq, c.same (k b rfl)⟩
theorem begins_ok (hp : pr n14 = none) (hp2 : pr n12 = none) (n : Nat) (ha : RV H a la) (hb : WantV H b lb) (hpre : Pre la lb) (hl : lb.length ≤ 100000) : VE pr (n + 2) n14 [a, b] H = some (.bool true, H) := by
 refine (U14 pr hp (n + 1) _ _ _).trans ?_
 obtain ⟨c, rfl⟩ := hpre
 have hsl : ∃ w, aSlice 1 H b .none (.some (I la.length)) .none = some w ∧ RV H w la := by
  rcases hb with ⟨rfl, e⟩ | ⟨bb, q, rfl, hq, cc⟩
  · have : la = [] := by
     cases la with
     | nil => rfl
     | cons x y => cases e
    subst this
    exact ⟨.nilsl, rfl, (SV.nil H 1).rv⟩
  · have cc2 := cc
    obtain ⟨t, c1, c2, c3⟩ := cc
    have view : ∀ q', RV H (.sl bb 0 la.length q') la := fun q' => ⟨rfl, fun j hj c H0 => by
     have := pIa_at (H := H0) (c := c) (esz := 1) (b := bb) (o := 0) (q := q') (k := .i64) hj
     simpa [sb, so] using this, fun j hj => by
     show H.rd bb (0 + j) = _
     rw [cc2.rd, Nat.zero_add, List.map_append, List.getElem?_append_left (by simpa using hj), List.getElem?_map]⟩
    rcases hq with rfl | rfl
    · refine ⟨.sl bb 0 la.length none, ?_, view _⟩
      show (cond (Nat.ble 0 la.length) (match H.get bb with
       | some (.cells _ e _ _) => cond (Nat.ble la.length (la ++ c).length && Nat.beq e 1) (some (AV.sl bb (Nat.add 0 (Nat.mul 0 1)) (Nat.sub la.length 0) none)) none
       | _ => none) none : Option AV) = _
      rw [c1]
      simp [ble_dec]
    · refine ⟨.sl bb 0 la.length (some (la ++ c).length), ?_, view _⟩
      show (cond (Nat.ble 0 la.length) (cond (Nat.ble la.length (la ++ c).length) (some (AV.sl bb (cond (Nat.beq (la ++ c).length 0) 0 (Nat.add 0 (Nat.mul 0 1))) (Nat.sub la.length 0) (some (Nat.sub (la ++ c).length 0)))) none) none : Option AV) = _
      cases Nat.beq (la ++ c).length 0 <;> simp [ble_dec]
 obtain ⟨w, e1, e2⟩ := hsl
 have hle2 : (la.length : Int) ≤ ((la ++ c).length : Int) := by simp; omega
 simp -implicitDefEqProofs only [S14_0, S14_1, pO_eq, ha.len, hb.sv.rv.len, ob_some, pLeq_int, hle2, decide_true, guardA_tt, e1, pC, nums_eq hp2 n ha e2 (by simp at hl; omega), ob2_some, pPick_b, cond_true]
end
end
noncomputable section
set_option maxRecDepth 100000
def lcgX (x : Int) : Int := IntKind.u32.wrap (IntKind.u32.wrap (1664525 * x) + 1013904223)
def pickI (x : Int) : Int := IntKind.i64.wrap (x.fdiv 256)
def pickN (x : Int) : Nat := x.toNat / 256
theorem lcgX_in (x : Int) : 0 ≤ lcgX x ∧ lcgX x < 4294967296 := by
 unfold lcgX
 generalize IntKind.u32.wrap (1664525 * x) + 1013904223 = y
 have : IntKind.u32.wrap y = y % 4294967296 := by
  simp [IntKind.wrap, IntKind.bits, IntKind.signed]
 rw [this]; omega
theorem pickI_eq {x : Int} (h : 0 ≤ x ∧ x < 4294967296) : pickI x = (pickN x : Int) := by
 obtain ⟨n, rfl⟩ := Int.eq_ofNat_of_zero_le h.1
 have e : ((n : Int)).fdiv 256 = ((n / 256 : Nat) : Int) := by
  rw [Int.fdiv_eq_ediv_of_nonneg _ (by omega)]; simp
 unfold pickI pickN
 rw [e, wrap64 (by omega) (by omega)]; simp
def picks : Nat → Int → List Nat
 | 0, _ => []
 | k + 1, x => pickN (lcgX x) :: picks k (lcgX x)
theorem picks_len : ∀ (k : Nat) (x : Int), (picks k x).length = k
 | 0, _ => rfl
 | k + 1, x => by simp [picks, picks_len k]
theorem picks_le : ∀ (k : Nat) (x : Int), ∀ p ∈ picks k x, p ≤ 1000000000
 | 0, _, p, h => by cases h
 | k + 1, x, p, h => by
  rcases List.mem_cons.1 h with rfl | h
  · have := lcgX_in x
    unfold pickN
    omega
  · exact picks_le k _ p h
def appI (v : Int) (l : AV) (H : AHeap) : R := pN (aBsl 1 1 [I 0] [(0, 1, I v)]) H fun t H => aApp 1 8 H l t
def lcg (k : Nat) : Int → AV → AHeap → R := Nat.rec (motive := fun _ => Int → AV → AHeap → R) (fun _ l H => some (l, H)) (fun _ ih x l H => ob2 (appI (pickI (lcgX x)) l H) fun l H => ih (lcgX x) l H) k
theorem lcg_succ (k : Nat) (x : Int) (l : AV) (H : AHeap) : lcg (k + 1) x l H = ob2 (appI (pickI (lcgX x)) l H) fun l H => lcg k (lcgX x) l H := rfl
theorem ob2_ob2 {r : R} {f g : Kv} : ob2 (ob2 r f) g = ob2 r fun v H => ob2 (f v H) g := by
 cases r with
 | none => rfl
 | some p => rfl
theorem appI_eq (v : Int) (l : AV) (H : AHeap) (c : Kv) : (pN (aBsl 1 1 [I 0] [(0, 1, I v)]) H fun t H => pW (aApp 1 8 H l t) c) = ob2 (appI v l H) c := by
 unfold appI pN pW
 cases aBsl 1 1 [I 0] [(0, 1, I v)] with
 | none => rfl
 | some p => rfl
theorem done_loop (call : CallFn) (N : Nat) (hN : N ≤ 100000) (t1 t8 t10 : AV) : ∀ (r j mm : Nat) (x z : Int) (l : AV) (H : AHeap), z = (j : Int) → j + r = N → r < mm →
 S13_1 call mm t1 (.int .u32 x) (I (N : Int)) t8 t10 l (I z) H = ob2 (lcg r x l H) fun l H => S13_0 call t1 t8 t10 l H := by
 intro r
 induction r with
 | zero =>
  intro j mm x z l H hz hj hm
  obtain ⟨mm, rfl⟩ : ∃ k, mm = k + 1 := ⟨mm - 1, by omega⟩
  subst hz
  rw [L13_1]
  have : j = N := by omega
  simp only [this, pLss_int, Int.lt_irrefl, decide_false, onBool_false]
  rfl
 | succ r ih =>
  intro j mm x z l H hz hj hm
  obtain ⟨mm, rfl⟩ : ∃ k, mm = k + 1 := ⟨mm - 1, by omega⟩
  subst hz
  rw [L13_1]
  have h1 : (j : Int) < (N : Int) := by omega
  have hs := aBin_shr .u32 .u64 (lcgX x) 8
  simp [IntKind.bits] at hs
  simp only [pLss_int, h1, decide_true, onBool_true, pMul_int, pAdd_int]
  show (pO (aBin .shr (.int .u32 (lcgX x)) (.int .u64 8)) H fun t35 H => _) = _
  rw [hs]
  simp only [pO_eq, ob_some, pConv_int]
  show (pN (aBsl 1 1 [I 0] [(0, 1, I (pickI (lcgX x)))]) H fun t H => pW (aApp 1 8 H l t) _) = _
  rw [appI_eq, lcg_succ, ob2_ob2]
  congr 1
  funext l' H'
  exact ih (j + 1) mm (lcgX x) _ l' H' (by show IntKind.i64.wrap ((j : Int) + 1) = _; rw [wrap64 (by omega) (by omega)]; omega) (by omega) (by omega)
theorem lcg_facts {H0 : AHeap} : ∀ (r : Nat) (x : Int) (l : AV) (H : AHeap) (acc : List Nat), Own H0 H l 1 (acc.map fun (p : Nat) => I (p : Int)) → acc.length + r ≤ 100000 →
 ∃ l' H', lcg r x l H = some (l', H') ∧ Own H0 H' l' 1 ((acc ++ picks r x).map fun (p : Nat) => I (p : Int))
 | 0, x, l, H, acc, o, _ => ⟨l, H, rfl, by simpa [picks] using o⟩
 | r + 1, x, l, H, acc, o, hr => by
  have hsn := o.sv.num
  simp at hsn
  have key : W (appI (pickI (lcgX x)) l H) fun l' H' => Own H0 H' l' 1 ((acc ++ [pickN (lcgX x)]).map fun (p : Nat) => I (p : Int)) := by
   have := o.app (bytes := 8) (zs := [I 0]) (parts := [(0, 1, I (pickI (lcgX x)))]) (news := [I (pickN (lcgX x))]) (c := fun v H => some (v, H)) (Q := fun l' H' => Own H0 H' l' 1 ((acc ++ [pickN (lcgX x)]).map fun (p : Nat) => I (p : Int)))
    (by rw [pickI_eq (lcgX_in x)]; simp) rfl (by omega) (by omega) rfl (by omega) (by omega) (fun v' H' o' => by simpa using o')
   rw [appI_eq] at this
   obtain ⟨v, H1, e, q⟩ := this
   cases h : appI (pickI (lcgX x)) l H with
   | none => rw [h] at e; cases e
   | some p => rw [h] at e; cases e; exact ⟨_, _, rfl, q⟩
  obtain ⟨l1, H1, e, o1⟩ := key
  obtain ⟨l2, H2, e2, o2⟩ := lcg_facts r (lcgX x) l1 H1 (acc ++ [pickN (lcgX x)]) o1 (by simp; omega)
  refine ⟨l2, H2, ?_, ?_⟩
  · rw [lcg_succ, e]; exact e2
  · simpa [picks] using o2
end
noncomputable section
set_option maxRecDepth 100000
def z7 : List AV := [.nilsl, I 0, I 0, I 0, I 0, I 0, .nilsl]
def z6 : List AV := [.nilsl, .nilsl, .nilsl, .nilsl, .nilsl, I 0]
def z2 : List AV := [I 0, I 0]
def cell (l : List AV) : AObj := .cells false 0 l.length (Tr.ofList l)
section
variable {pr : Prims} {B : Bx} {Z : Nat → Prop} {m : Mo} {L : Lay} {s : St} {H : AHeap} {want : List Int}
def Tale (want : List Int) (n0 : Nat) (r : AV) (H' : AHeap) : Prop := ∃ (vo va : AV) (en trap st dn fo : Int) (out : List Int), r = .agg [vo, I en, I trap, I st, I dn, I fo, va] ∧ SV H' vo 1 (out.map I) ∧ (∀ b, vo.blk = some b → n0 ≤ b) ∧ isScal va = true ∧ va.cells = [va] ∧ out.length ≤ want.length ∧ ((en = 0 ∧ Pre out want) ∨ (en = 1 ∧ trap = 0 ∧ out = want))
def Kept (B : Bx) (L : Lay) (H : AHeap) (t : Nat) (H' : AHeap) : Prop := H.n ≤ H'.n ∧ WF H' ∧ ∀ b, b < H.n → (∀ r, pl B L r ≠ some b) → b ≠ t → H'.get b = H.get b
theorem run_fin (F : Free pr) (n : Nat) (h : M B Z m L s H) (r : Run m want s) (hw : want.length ≤ 65536) {t6 : Nat} (c6 : Cs H t6 false 0 z7) (_hu : ∀ r, pl B L r ≠ some t6) (st : Int) :
 W (S10_0 (VE pr (n + 3)) (.ptr t6 0) (.ptr B.v 0) (I st) H) fun r H' => ∃ a, r = .tup [a, I 0] ∧ Tale want H.n a H' ∧ Kept B L H t6 H' := by
 unfold S10_0
 have ho := r.outs
 refine W_pC (run_Told F n h (by omega) r.few st) fun a H1 hx => ?_
 obtain ⟨u1, vo, va, rfl, so, sa, fo⟩ := hx
 have k1 := so.scal
 have k2 := sa.scal
 refine W_st (c6.nu h.wf u1) (x := .agg [vo, I s.en, I s.trap, I st, I s.done, I s.forced, va]) (by simp [k1.1, k2.1]) rfl (by simp [z7]) fun H2 t2 c2 => ?_
 simp [z7] at c2
 have := c2.rds 0 7 (by simp)
 simp [this, resV]
 have hlt := c6.lt h.wf
 refine ⟨⟨vo, va, s.en, s.trap, st, s.done, s.forced, s.out, rfl, so.same fun b e => t2.old b (by have := fo b e; omega), fo, k2.1, k2.2, ho, r.end_⟩, by rw [t2.n]; exact u1.n, t2.wf u1.wf, fun b hb hn ht => by rw [t2.old b ht, u1.old b hb]⟩
def PickV (H : AHeap) (v : AV) (l : List Nat) : Prop := ∀ (j : Nat), j < l.length → (∀ (c : Kv) (H0 : AHeap), pIa 1 v (I (j : Int)) H0 c = c (.ptr (sb v) (so v + j)) H0) ∧ H.rd (sb v) (so v + j) = l[j]?.map fun (p : Nat) => I (p : Int)
theorem run_loop (F : Free pr) (SP : Srt pr) (n : Nat) (hw : want.length ≤ 65536) {pk : List Nat} (hpk : ∀ p ∈ pk, p ≤ 1000000000) (hpl : pk.length ≤ 100000) {lv : AV} {t6 : Nat} : ∀ (r j mm : Nat) (x : Int) (st : Nat) (L : Lay) (s : St) (H : AHeap), x = (j : Int) → j + r = pk.length → r < mm → st ≤ j →
 M B Z m L s H → Run m want s → Cs H t6 false 0 z7 → (∀ r, pl B L r ≠ some t6) → PickV H lv pk → (∀ r, pl B L r ≠ some (sb lv)) → sb lv < H.n →
 W (S10_1 (VE pr (n + 10)) mm (.ptr t6 0) (.ptr B.v 0) (I (st : Int)) lv (I (pk.length : Int)) (I x) H) fun v H' => ∃ a, v = .tup [a, I 0] ∧ (∃ n0, H.n ≤ n0 ∧ Tale want n0 a H') ∧ Kept B L H t6 H' := by
 intro r
 induction r with
 | zero =>
  intro j mm x st L s H hx hj hm hst h hr c6 hu hp hpu hpl2
  obtain ⟨mm, rfl⟩ : ∃ k, mm = k + 1 := ⟨mm - 1, by omega⟩
  subst hx
  rw [L10_1]
  have : j = pk.length := by omega
  simp only [this, pLss_int, Int.lt_irrefl, decide_false, onBool_false]
  exact (run_fin F (n + 7) h hr hw c6 hu st).mono fun v H' ⟨a, e, t, k⟩ => ⟨a, e, ⟨H.n, Nat.le_refl _, t⟩, k⟩
 | succ r ih =>
  intro j mm x st L s H hx hj hm hst h hr c6 hu hp hpu hpl2
  obtain ⟨mm, rfl⟩ : ∃ k, mm = k + 1 := ⟨mm - 1, by omega⟩
  subst hx
  rw [L10_1]
  have h1 : (j : Int) < (pk.length : Int) := by omega
  have h2 : j < pk.length := by omega
  obtain ⟨p1, p2⟩ := hp j h2
  simp [h2] at p2
  simp -implicitDefEqProofs [h1, p1, p2]
  by_cases he : s.en = 0
  · refine W_pC (run_One F SP n h hr he (hpk _ (List.getElem_mem h2))) fun v H1 hx => ?_
    obtain ⟨s1, ⟨rfl, L1, g1, m1⟩, r1⟩ := hx
    obtain ⟨k1, k2, k3⟩ := g1.keep (c6.lt h.wf) hu
    obtain ⟨l1, l2, l3⟩ := g1.keep hpl2 hpu
    have hp1 : PickV H1 lv pk := fun i hi => ⟨(hp i hi).1, by rw [← (hp i hi).2]; unfold AHeap.rd; rw [l1]⟩
    simp -implicitDefEqProofs [wrap64 (n := (st : Int) + 1) (by omega) (by omega), wrap64 (n := (j : Int) + 1) (by omega) (by omega)]
    have := ih (j + 1) mm ((j : Int) + 1) (st + 1) L1 s1 H1 (by omega) (by omega) (by omega) (by omega) m1 r1 (c6.same k1) k3 hp1 l3 l2
    simp only [Int.natCast_add, Int.cast_ofNat_Int] at this
    refine this.mono fun v H' ⟨a, e, ⟨n0, hn0, t⟩, q1, q2, q3⟩ => ⟨a, e, ⟨n0, Nat.le_trans g1.n hn0, t⟩, Nat.le_trans g1.n q1, q2, fun b hb hn ht => ?_⟩
    obtain ⟨y1, y2, y3⟩ := g1.keep hb hn
    rw [q3 b y2 y3 ht, y1]
  · simp -implicitDefEqProofs [pC, run_One_end F (n + 8) h he]
    exact (run_fin F (n + 7) h hr hw c6 hu st).mono fun v H' ⟨a, e, t, k⟩ => ⟨a, e, ⟨H.n, Nat.le_refl _, t⟩, k⟩
end
end
noncomputable section
set_option maxRecDepth 100000
section
variable {pr : Prims} {B : Bx} {Z : Nat → Prop} {m : Mo} {L : Lay} {s : St} {H : AHeap} {want : List Int}
structure Born (pr : Prims) (k : Nat) (mc : List AV) (H2 : AHeap) (keep : List Nat) (B : Bx) (Z : Nat → Prop) (m : Mo) (L : Lay) (s : St) (HN : AHeap) : Prop where
 new : VE pr k n20 [.agg mc, I 8] H2 = some (.tup [.ptr B.v 0, I 0], HN)
 m : M B Z m L s HN
 keep : ∀ b ∈ keep, HN.get b = H2.get b ∧ Z b
theorem pBox_cell (l : List AV) (c : Kv) : pBox (.agg l) H c = c (.ptr H.n 0) (H.add (cell l)) := rfl
theorem pNew_z7 (c : Kv) : pNew [.nilsl, .int .i64 (.ofNat 0), .int .i64 (.ofNat 0), .int .i64 (.ofNat 0), .int .i64 (.ofNat 0), .int .i64 (.ofNat 0), .nilsl] H c = c (.ptr H.n 0) (H.add (cell z7)) := rfl
theorem pNew_z6 (c : Kv) : pNew [.nilsl, .nilsl, .nilsl, .nilsl, .nilsl, .int .i64 (.ofNat 0)] H c = c (.ptr H.n 0) (H.add (cell z6)) := rfl
theorem pNew_z2 (c : Kv) : pNew [.int .i64 (.ofNat 0), .int .i64 (.ofNat 0)] H c = c (.ptr H.n 0) (H.add (cell z2)) := rfl
theorem run_Run (F : Free pr) (SP : Srt pr) (n : Nat) (hw : want.length ≤ 65536) (wf : WF H) {mc : List AV} (hmc : mc.length = 6) {lv : AV} {pk : List Nat} (hlv : SV H lv 1 (pk.map fun (p : Nat) => I (p : Int))) (hpk : ∀ p ∈ pk, p ≤ 1000000000) (hpl : pk.length ≤ 100000) (h0 : 0 < pk.length)
 {keep : List Nat} {HN : AHeap} (b : Born pr (n + 10) mc ((H.add (cell mc)).add (cell z7)) keep B Z m L s HN) (hr : Run m want s) (k1 : H.n + 1 ∈ keep) (k2 : sb lv ∈ keep) :
 W (VE pr (n + 11) n10 [.agg mc, I 8, lv] H) fun v H' => ∃ a, v = .tup [a, I 0] ∧ (∃ n0, H.n ≤ n0 ∧ Tale want n0 a H') ∧ WF H' ∧ H.n ≤ H'.n ∧ ∀ b ∈ keep, b < H.n → H'.get b = H.get b := by
 refine W_of (U10 pr (F _ (by decide)) (n + 10) _ _ _ _) ?_
 have w1 : WF (H.add (cell mc)) := wf.add _
 have c1 : Cs (H.add (cell mc)) H.n false 0 mc := Cs.new wf false 0 mc
 have c2 : Cs ((H.add (cell mc)).add (cell z7)) (H.n + 1) false 0 z7 := Cs.new w1 false 0 z7
 have w2 : WF ((H.add (cell mc)).add (cell z7)) := w1.add _
 have u2 : Nu H ((H.add (cell mc)).add (cell z7)) := (Nu.add wf _).trans (Nu.add w1 _)
 have c1' := c1.nu w1 (Nu.add w1 (cell z7))
 have r1 := c1'.rds 0 6 (by omega)
 have htk : (mc.drop 0).take 6 = mc := by rw [List.drop_zero, List.take_of_length_le (by omega)]
 rw [htk] at r1
 unfold S10_2
 simp -implicitDefEqProofs only [pBox_cell, pNew_z7, ldK_agg, r1, ob_some, pC, b.new, ob2_some]
 have nl := hlv.num
 simp at nl
 have hb := hlv.blk (by omega)
 have hbl := hlv.lt wf hb
 have hk := b.keep
 have hM := b.m
 have y1 := hk _ k1
 have y2 := hk _ k2
 have pv : PickV HN lv pk := fun j hj => ⟨fun c H0 => by
  have := hlv.ia (c := c) (k := .i64) (x := (j : Int)) (by omega) (by omega) H0
  simpa using this, by
  have e : HN.get (sb lv) = H.get (sb lv) := y2.1.trans (u2.old _ hbl)
  have := hlv.rd (j := j) (by simpa using hj)
  rw [← List.getElem?_map, ← this]
  unfold AHeap.rd
  rw [e]⟩
 simp -implicitDefEqProofs [hlv.len' HN, ← nl]
 refine (run_loop F SP n hw hpk hpl (pk.length) 0 1000000 0 0 L s HN rfl (by omega) (by omega) (Nat.le_refl _) hM hr (c2.same y1.1) (hM.zn _ y1.2) pv (hM.zn _ y2.2) (hM.zlt _ y2.2)).mono fun v H' ⟨a, e, ⟨n0, hn0, t⟩, q1, q2, q3⟩ => ?_
 have hHN : H.n + 1 < HN.n := hM.zlt _ y1.2
 refine ⟨a, e, ⟨n0, by omega, t⟩, q2, by omega, fun x hx hlt => ?_⟩
 have y := hk x hx
 rw [q3 x (hM.zlt x y.2) (hM.zn x y.2) (by omega), y.1, u2.old x hlt]
theorem Tale.scal {n0 : Nat} {a : AV} (h : Tale want n0 a H) : allScal a.cells = true ∧ a.cells.length = 7 := by
 obtain ⟨vo, va, en, trap, st, dn, fo, out, rfl, h1, _, h2, h3, _⟩ := h
 have := h1.scal
 simp [this.1, h2]
theorem Tale.mono {n0 n1 : Nat} {a : AV} {H' : AHeap} (h : Tale want n0 a H) (hn : n1 ≤ n0) (w : WF H) (k : ∀ b, n0 ≤ b → b < H.n → H'.get b = H.get b) : Tale want n1 a H' := by
 obtain ⟨vo, va, en, trap, st, dn, fo, out, rfl, h1, h4, h2⟩ := h
 exact ⟨vo, va, en, trap, st, dn, fo, out, rfl, h1.same fun b e => k b (h4 b e) (h1.lt w e), fun b e => Nat.le_trans hn (h4 b e), h2⟩
theorem Tale.agg {n0 : Nat} {a : AV} (h : Tale want n0 a H) : .agg a.cells = a := by
 obtain ⟨vo, va, en, trap, st, dn, fo, out, rfl, _⟩ := h; rfl
theorem done_ok (F : Free pr) (SP : Srt pr) (n : Nat) (hw : want.length ≤ 65536) (wf : WF H) {T : List UInt8} {N : Nat} (hN : N ≤ 100000) (hN0 : 0 < N) {mc : List AV} (hmc : mc.length = 6) (hms : allScal mc = true) {CH Ha Hc : AHeap} {keep : List Nat}
 (comp : VE pr (n + 11) n8 [.str T] (H.add (cell z7)) = some (.tup [.agg mc, .agg [I 0, I 0]], CH)) (wc : WF CH) (kc : ∀ b ∈ keep, b < H.n + 1 → CH.get b = (H.add (cell z7)).get b ∧ b < CH.n)
 (ha : ((CH.add (cell z6)).add (cell z2)).wrs CH.n 0 mc = some Ha) (hc : Ha.wrs (CH.n + 1) 0 [I 0, I 0] = some Hc) {x : Int} (hr : Run m want s) (k0 : H.n ∈ keep)
 (born : ∀ l' H', lcg N x .nilsl Hc = some (l', H') → H'.n + 1 ∈ keep ∧ sb l' ∈ keep ∧ ∃ HN, Born pr (n + 10) mc ((H'.add (cell mc)).add (cell z7)) keep B Z m L s HN) :
 W (VE pr (n + 12) n13 [.str T, I 8, .int .u32 x, I (N : Int)] H) fun v H' => ∃ a, v = .tup [a, .bool true] ∧ (∃ n0, H.n < n0 ∧ Tale want n0 a H') ∧ WF H' ∧ H.n ≤ H'.n ∧ ∀ b ∈ keep, b < H.n → H'.get b = H.get b := by
 refine W_of (U13 pr (F _ (by decide)) (n + 11) _ _ _ _ _) ?_
 have cz : Cs (H.add (cell z7)) H.n false 0 z7 := Cs.new wf false 0 z7
 have kH := kc _ k0 (by omega)
 have cz' : Cs CH H.n false 0 z7 := cz.same kH.1
 have w6 : WF (CH.add (cell z6)) := wc.add _
 have c6 : Cs (CH.add (cell z6)) CH.n false 0 z6 := Cs.new wc false 0 z6
 have c2 : Cs ((CH.add (cell z6)).add (cell z2)) (CH.n + 1) false 0 z2 := Cs.new w6 false 0 z2
 have c6' := c6.nu w6 (Nu.add w6 (cell z2))
 have u2 : Nu CH ((CH.add (cell z6)).add (cell z2)) := (Nu.add wc _).trans (Nu.add w6 _)
 obtain ⟨Ha', a1, a2, a3, a4, a5⟩ := c6'.wrs 0 mc (by rw [hmc]; decide)
 rw [ha] at a1; cases a1
 have e6 : z6.take 0 ++ (mc ++ z6.drop (0 + mc.length)) = mc := by rw [hmc]; simp [z6]
 rw [e6] at a2
 have c2' : Cs Ha (CH.n + 1) false 0 z2 := c2.same (a5 _ (by omega))
 obtain ⟨Hc', b1, b2, b3, b4, b5⟩ := c2'.wrs 0 [I 0, I 0] (by decide)
 rw [hc] at b1; cases b1
 have b2 : Cs Hc (CH.n + 1) false 0 [I 0, I 0] := b2
 have cm : Cs Hc CH.n false 0 mc := a2.same (b5 _ (by omega))
 have wHc : WF Hc := b4 (a4 (w6.add _))
 have nHc : Hc.n = CH.n + 2 := by rw [b3, a3]; rfl
 have oldc : ∀ b, b < CH.n → Hc.get b = CH.get b := fun b hb => by rw [b5 b (by omega), a5 b (by omega), u2.old b hb]
 unfold S13_2
 simp -implicitDefEqProofs only [pNew_z7, pC, comp, ob2_some, pExt_tup0, pExt_tup1]
 rw [pNew_z6, pNew_z2, stK_agg hms hmc, ha]
 simp only [ob_some]
 rw [add_n, stK_agg (n := 2) rfl rfl, hc]
 simp -implicitDefEqProofs [b2.rd]
 rw [done_loop (VE pr (n + 11)) N hN _ _ _ N 0 1000000 x 0 .nilsl Hc rfl (by omega) (by omega)]
 obtain ⟨l', H', e, o⟩ := lcg_facts N x .nilsl Hc [] (Own.nil wHc 1) (by simp; omega)
 rw [e]
 simp only [ob2_some, List.nil_append] at o ⊢
 obtain ⟨q1, q2, HN, bn⟩ := born l' H' e
 have cm' := cm.nu wHc o.nu
 have cz2 : Cs H' H.n false 0 z7 := (cz'.same (oldc _ kH.2)).nu wHc o.nu
 have rm := cm'.rds 0 6 (by omega)
 rw [show (mc.drop 0).take 6 = mc by rw [List.drop_zero, List.take_of_length_le (by omega)]] at rm
 unfold S13_0
 simp only [ldK_agg, rm, ob_some]
 have hHn : H.n < H'.n := cz2.lt o.nu.wf
 refine W_pC (run_Run F SP n hw o.nu.wf hmc o.sv (picks_le N x) (by rw [picks_len]; exact hN) (by rw [picks_len]; exact hN0) bn hr q1 q2) fun v H1 hx => ?_
 obtain ⟨a, rfl, ⟨n0, hn0, ht⟩, w1, n1, k1⟩ := hx
 have cz3 : Cs H1 H.n false 0 z7 := cz2.same (k1 _ k0 hHn)
 have hsc := ht.scal
 simp -implicitDefEqProofs only [pExt_tup0, pExt_tup1]
 refine W_var w1 (x := a) hsc.1 hsc.2 (by rfl) fun H2 u2' n2 c2 => ?_
 have r7 := c2.rds 0 7 (by rw [hsc.2]; omega)
 rw [show (a.cells.drop 0).take 7 = a.cells by rw [List.drop_zero, List.take_of_length_le (by rw [hsc.2]; omega)]] at r7
 have cz4 := cz3.nu w1 u2'
 have hHn1 : H.n < H1.n := cz3.lt w1
 simp -implicitDefEqProofs only [ldK_agg, r7, ob_some, pEql_int, ht.agg]
 refine W_st cz4 (x := a) hsc.1 hsc.2 (by simp [z7]) fun H3 t3 c3 => ?_
 have e7 : z7.take 0 ++ (a.cells ++ z7.drop (0 + 7)) = a.cells := by simp [z7]
 rw [e7] at c3
 have r8 := c3.rds 0 7 (by rw [hsc.2]; omega)
 rw [show (a.cells.drop 0).take 7 = a.cells by rw [List.drop_zero, List.take_of_length_le (by rw [hsc.2]; omega)]] at r8
 simp -implicitDefEqProofs [r8, resV, ht.agg]
 have hlow : H.n < n0 := Nat.lt_of_lt_of_le hHn hn0
 refine ⟨⟨n0, hlow, ht.mono (Nat.le_refl _) w1 fun b hb c => ?_⟩, t3.wf u2'.wf, by rw [t3.n]; have := u2'.n; omega, fun b hb hlt => ?_⟩
 · rw [t3.old b (by omega), u2'.old b c]
 · have kb := kc b hb (by omega)
   have hlt2 : b < H'.n := by have := o.nu.n; omega
   rw [t3.old b (by omega), u2'.old b (by omega), k1 b hb hlt2, o.nu.old b (by omega), oldc b kb.2, kb.1]
   exact (Nu.add wf (cell z7)).old b hlt
theorem says_ok (F : Free pr) (n : Nat) {want : List Int} (hw : want.length ≤ 65536) (wf : WF H) {T : List UInt8} {N : Nat} {x : Int} {wv : AV} (hwv : WantV H wv want) {keep : List Nat} (kw : ∀ b, wv.blk = some b → b ∈ keep)
 (done : W (VE pr (n + 12) n13 [.str T, I 8, .int .u32 x, I (N : Int)] H) fun v H' => ∃ a, v = .tup [a, .bool true] ∧ (∃ n0, H.n < n0 ∧ Tale want n0 a H') ∧ WF H' ∧ H.n ≤ H'.n ∧ ∀ b ∈ keep, b < H.n → H'.get b = H.get b) :
 W (VE pr (n + 13) n6 [.str T, I 8, .int .u32 x, I (N : Int), wv, I 1, I 0] H) fun v _ => v = .bool true := by
 refine W_of (U6 pr (F _ (by decide)) (n + 12) _ _ _ _ _ _ _ _) ?_
 unfold S6_2
 refine W_pC done fun v H1 hx => ?_
 obtain ⟨a, rfl, ⟨n0, hn0, ht⟩, w1, n1, k1⟩ := hx
 have hsc := ht.scal
 simp -implicitDefEqProofs only [pExt_tup0, pExt_tup1]
 refine W_var w1 (x := a) hsc.1 hsc.2 (by rfl) fun H2 u2 n2 c2 => ?_
 have hw1 : WantV H2 wv want := hwv.same fun b e => by
  have hl := hwv.sv.lt wf e
  rw [u2.old b (by omega), k1 b (kw b e) hl]
 obtain ⟨vo, va, en, trap, st, dn, fo, out, rfl, so, fo', s1, s2, ol, ee⟩ := ht
 have so2 := so.same (H' := H2) fun b e => u2.old b (so.lt w1 e)
 simp only [cells_agg] at c2
 rcases ee with ⟨rfl, hp⟩ | ⟨rfl, rfl, rfl⟩
 · simp -implicitDefEqProofs [c2.rd, pC, begins_ok (F _ (by decide)) (F _ (by decide)) (n + 10) so2.rv hw1 hp (by omega)]
 · simp -implicitDefEqProofs [S6_1, S6_0, c2.rd, pC, nums_eq (F _ (by decide)) (n + 11) so2.rv hw1.sv.rv (by omega)]
end
end
noncomputable section
set_option maxRecDepth 100000
def capC (pr : Prims) (k : Nat) (P : List AV → AHeap → R) : CallFn := fun f a H => cond (Nat.beq f n6) (P a H) (VE pr k f a H)
theorem capC_self (pr : Prims) (k : Nat) : capC pr k (VE pr k n6) = VE pr k := by
 funext f a H
 unfold capC
 cases h : Nat.beq f n6 with
 | true => rw [Nat.eq_of_beq_eq_true h]; rfl
 | false => rfl
def capt : List AV → AHeap → R := fun a H => some (.tup a, H)
def heapOf (r : R) : AHeap := Option.rec (motive := fun _ => AHeap) { n := 0, t := Tr.nil } (fun p => p.2) r
structure Cert where
 (T : List UInt8) (N : Nat) (wv : AV) (want : List Int) (keep zs : List Nat) (B : Bx) (m : Mo) (L : Lay) (s : St) (fs : List Fr) (qw qs : Nat)
def isI0 (v : AV) : Bool := AV.beq v (I 0)
def wantB (H : AHeap) (v : AV) (l : List Int) : Bool := match v with
 | .nilsl => (match l with | [] => true | _ => false)
 | .sl b o n q => and2 (Nat.beq o 0) (and2 (Nat.beq n l.length) (and2 (match q with | none => true | some c => Nat.beq c n) (csB H b 1 (l.map I))))
 | _ => false
theorem wantB_spec {H : AHeap} {v : AV} {l : List Int} (h : wantB H v l = true) : WantV H v l := by
 unfold wantB at h
 split at h
 · split at h
   · exact .inl ⟨rfl, rfl⟩
   · cases h
 · rename_i b o n q
   obtain ⟨h1, h⟩ := and2_eq h
   obtain ⟨h2, h⟩ := and2_eq h
   obtain ⟨h3, h4⟩ := and2_eq h
   obtain rfl := Nat.eq_of_beq_eq_true h1
   obtain rfl := Nat.eq_of_beq_eq_true h2
   refine .inr ⟨b, q, rfl, ?_, csB_spec h4⟩
   cases q with
   | none => exact .inl rfl
   | some c => exact .inr (by rw [Nat.eq_of_beq_eq_true h3])
 · cases h
def low (n : Nat) (keep : List Nat) : List Nat := List.rec (motive := fun _ => List Nat) [] (fun b _ r => cond (Nat.ble (Nat.succ b) n) (b :: r) r) keep
theorem low_mem {n b : Nat} : ∀ {keep : List Nat}, b ∈ keep → b < n → b ∈ low n keep
 | [], h, _ => by cases h
 | a :: l, h, hb => by
  show b ∈ cond (Nat.ble (Nat.succ a) n) (a :: low n l) (low n l)
  rw [ble_dec]
  rcases List.mem_cons.1 h with rfl | h
  · rw [decide_eq_true (by omega)]; exact List.mem_cons_self
  · have := low_mem h hb
    cases decide (Nat.succ a ≤ n) with
    | true => exact List.mem_cons_of_mem _ this
    | false => exact this
abbrev Res := Bool × List AObj × List AObj
def no : Res := (false, [], [])
def gets2 (H H' : AHeap) (keep : List Nat) : List AObj → List AObj → (List AObj → List AObj → Res) → Res :=
 List.rec (motive := fun _ => List AObj → List AObj → (List AObj → List AObj → Res) → Res) (fun a a' k => k a a')
  (fun b _ ih a a' k => Option.rec (motive := fun _ => Res) no (fun o => Option.rec (motive := fun _ => Res) no (fun o' => ih (o :: a) (o' :: a') k) (H'.get b)) (H.get b)) keep
theorem gets2_some {H H' : AHeap} : ∀ {keep : List Nat} {a a' : List AObj} {k : List AObj → List AObj → Res}, (gets2 H H' keep a a' k).1 = true →
 ∃ os os', os.length = os'.length ∧ (os = os' → ∀ b ∈ keep, H.get b = H'.get b) ∧ gets2 H H' keep a a' k = k (os ++ a) (os' ++ a')
 | [], a, a', k, h => ⟨[], [], rfl, fun _ b hb => (by cases hb), rfl⟩
 | b :: r, a, a', k, h => by
  have e : gets2 H H' (b :: r) a a' k = Option.rec (motive := fun _ => Res) no (fun o => Option.rec (motive := fun _ => Res) no (fun o' => gets2 H H' r (o :: a) (o' :: a') k) (H'.get b)) (H.get b) := rfl
  rw [e] at h ⊢
  cases h1 : H.get b with
  | none => rw [h1] at h; cases h
  | some o =>
   cases h2 : H'.get b with
   | none => rw [h1, h2] at h; cases h
   | some o' =>
    rw [h1, h2] at h
    obtain ⟨os, os', q1, q2, q3⟩ := gets2_some (keep := r) (a := o :: a) (a' := o' :: a') h
    refine ⟨os ++ [o], os' ++ [o'], by simp [q1], fun e b' hb => ?_, by simpa using q3⟩
    obtain ⟨e1, e2⟩ := List.append_inj e q1
    rcases List.mem_cons.1 hb with rfl | hb
    · rw [h1, h2]; simpa using e2
    · exact q2 e1 b' hb
def res (pr : Prims) (C : Cert) (x : Int) (HL : AHeap) : Res :=
 Option.rec (motive := fun _ => Res) no (fun p => match p with
  | (.tup [.agg mc, .agg fl], CH) => match ((CH.add (cell z6)).add (cell z2)).wrs CH.n 0 mc with
   | some Ha => match Ha.wrs (Nat.succ CH.n) 0 [I 0, I 0] with
    | some Hc => match lcg C.N x .nilsl Hc with
     | some (l', H') => match VE pr 996 n20 [.agg mc, I 8] ((H'.add (cell mc)).add (cell z7)) with
      | some (.tup [v, e], HN) =>
       gets2 CH (HL.add (cell z7)) (low (Nat.succ HL.n) C.keep) [] [] fun a a' => gets2 HN ((H'.add (cell mc)).add (cell z7)) C.keep a a' fun a a' =>
       (and2 (and2 (fullB2 HL.t HL.n) (and2 (wantB HL C.wv C.want) (and2 (inB C.keep C.wv) (memB HL.n C.keep))))
        (and2 (and2 (fullB2 CH.t CH.n) (and2 (Nat.ble (Nat.succ HL.n) CH.n) (and2 (Nat.beq mc.length 6) (and2 (allScal mc) (and2 (allB isI0 fl) (Nat.beq fl.length 2))))))
        (and2 (and2 (memB (Nat.succ H'.n) C.keep) (memB (sb l') C.keep)) (and2 (and2 (AV.beq v (.ptr C.B.v 0)) (isI0 e)) (and2 (allB (fun b => memB b C.zs) C.keep) (mB HN C.zs C.B C.m C.L C.s C.fs C.qw C.qs))))), a, a')
      | _ => no
     | none => no
    | none => no
   | none => no
  | _ => no) (VE pr 997 n8 [.str C.T] (HL.add (cell z7)))
theorem law_ok {pr : Prims} (F : Free pr) (SP : Srt pr) {C : Cert} {x : Int} {f : Nat} {args : List AV} {H0 : AHeap} {body : CallFn → R}
 (hb : VE pr 1000 f args H0 = body (VE pr 999))
 (hnat : ∀ P, body (capC pr 999 P) = ob2 (P [.str C.T, I 8, .int .u32 x, I (C.N : Int), C.wv, I 1, I 0] (heapOf (body (capC pr 999 capt)))) fun v H => some (v, H))
 (hq : res pr C x (heapOf (body (capC pr 999 capt))) = (true, (res pr C x (heapOf (body (capC pr 999 capt)))).2.1, (res pr C x (heapOf (body (capC pr 999 capt)))).2.1))
 (hw : C.want.length ≤ 65536) (hN : C.N ≤ 100000) (hN0 : 0 < C.N) (hgs : C.s.gs = some C.fs) (hbl : C.s.black = false) (run : Run C.m C.want C.s) :
 ∃ H', VE pr 1000 f args H0 = some (.bool true, H') := by
 generalize heapOf (body (capC pr 999 capt)) = HL at hnat hq
 have hr : (res pr C x HL).1 = true := by rw [hq]
 have hp : (res pr C x HL).2.2 = (res pr C x HL).2.1 := congrArg (fun p => p.2.2) hq
 clear hq
 have key : W (VE pr 999 n6 [.str C.T, I 8, .int .u32 x, I (C.N : Int), C.wv, I 1, I 0] HL) fun v _ => v = .bool true := by
  unfold res at hr hp
  cases hC : VE pr 997 n8 [.str C.T] (HL.add (cell z7)) with
  | none => rw [hC] at hr; cases hr
  | some p =>
   rw [hC] at hr hp
   obtain ⟨v0, CH⟩ := p
   dsimp only at hr hp
   split at hr
   · rename_i q mc fl CH' e0
     cases e0
     try simp only at hp
     cases ha : ((CH.add (cell z6)).add (cell z2)).wrs CH.n 0 mc with
     | none => rw [ha] at hr; cases hr
     | some Ha =>
      rw [ha] at hr hp
      simp only at hr hp
      cases hc : Ha.wrs (Nat.succ CH.n) 0 [I 0, I 0] with
      | none => rw [hc] at hr; cases hr
      | some Hc =>
       rw [hc] at hr hp
       try simp only at hr hp
       cases hl : lcg C.N x .nilsl Hc with
       | none => rw [hl] at hr; cases hr
       | some p2 =>
        obtain ⟨l', H'⟩ := p2
        rw [hl] at hr hp
        try simp only at hr hp
        cases hn : VE pr 996 n20 [.agg mc, I 8] ((H'.add (cell mc)).add (cell z7)) with
        | none => rw [hn] at hr; cases hr
        | some p3 =>
         obtain ⟨v3, HN⟩ := p3
         rw [hn] at hr hp
         try simp only at hr hp
         split at hr
         · rename_i q3 v e HN' e3
           cases e3
           try simp only at hp
           obtain ⟨os, os', l1, l2, l3⟩ := gets2_some hr
           rw [l3] at hr hp
           obtain ⟨ps, ps', m1, m2, m3⟩ := gets2_some hr
           rw [m3] at hr hp
           obtain ⟨⟨g1, g2⟩, h2⟩ := (and2_eq hr).imp_left and2_eq
           obtain ⟨g2, g3⟩ := and2_eq g2
           obtain ⟨g3, g4⟩ := and2_eq g3
           obtain ⟨k, h3⟩ := and2_eq h2
           obtain ⟨k1, k⟩ := and2_eq k
           obtain ⟨k2, k⟩ := and2_eq k
           obtain ⟨k3, k⟩ := and2_eq k
           obtain ⟨k4, k⟩ := and2_eq k
           obtain ⟨k5, k6⟩ := and2_eq k
           obtain ⟨n, h4⟩ := and2_eq h3
           obtain ⟨n1, n2⟩ := and2_eq n
           obtain ⟨n, h5⟩ := and2_eq h4
           obtain ⟨n3, n4⟩ := and2_eq n
           obtain ⟨n5, n6⟩ := and2_eq h5
           simp only [List.append_nil] at hp
           obtain ⟨e1, e2⟩ := List.append_inj hp m1.symm
           have wf : WF HL := fullB2_spec g1
           have wc : WF CH := fullB2_spec k1
           have hlt : HL.n < CH.n := by rw [ble_dec, decide_eq_true_eq] at k2; exact k2
           have hmc : mc.length = 6 := Nat.eq_of_beq_eq_true k3
           obtain rfl : fl = [I 0, I 0] := by
            have hl2 : fl.length = 2 := Nat.eq_of_beq_eq_true k6
            match fl, hl2 with
            | [u, u'], _ =>
             have q1 := AV.beq_eq (allB_spec k5 u (by simp))
             have q2 := AV.beq_eq (allB_spec k5 u' (by simp))
             rw [q1, q2]
           obtain rfl := AV.beq_eq n3
           obtain rfl := AV.beq_eq n4
           have hM := mB_spec n6 hgs hbl
           have hkz : ∀ b ∈ C.keep, b ∈ C.zs := fun b hb => memB_true (allB_spec n5 b hb)
           have hlow := l2 e2.symm
           have hhi := m2 e1.symm
           have born : Born pr 996 mc ((H'.add (cell mc)).add (cell z7)) C.keep C.B (· ∈ C.zs) C.m C.L C.s HN := ⟨hn, hM, fun b hb => ⟨hhi b hb, hkz b hb⟩⟩
           have kd := inB_spec g3
           refine says_ok F 986 hw wf (wantB_spec g2) kd ?_
           exact done_ok F SP 986 hw wf hN hN0 hmc k4 hC wc (fun b hb hlt' => ⟨hlow b (low_mem hb hlt'), by omega⟩) ha hc run (memB_true g4) fun l2 H2 e2 => by
            rw [hl] at e2; cases e2
            exact ⟨memB_true n1, memB_true n2, HN, born⟩
         · cases hr
   · cases hr
 obtain ⟨v, H', e, rfl⟩ := key
 refine ⟨H', ?_⟩
 rw [hb, ← capC_self pr 999, hnat, e]
 rfl
end
end Go.Proofs.YtlmcgeiacfbdnaaGreatDoor
