/- The machine: an instruction is done; a turn. -/
import Derived.Test.YtlmcgeiacfbdnaaGreatDoorM0
namespace Go.Proofs.YtlmcgeiacfbdnaaGreatDoor
open Go.Ab
noncomputable section
set_option maxRecDepth 100000
section
variable {H H' : AHeap} {c : Kv} {Q : AV → AHeap → Prop}
theorem W_mksl {n : Nat} (w : WF H) (hn : n ≤ 1000000) (k : ∀ H', Nu H H' → H'.n = H.n + 1 → Cs H' H.n false 1 (List.replicate n (I 0)) → W (c (.sl H.n 0 n (some n)) H') Q) : W (pN (aMksl 1 8 [I 0] (I (n : Int)) (I (n : Int))) H c) Q := by
 have e : aMksl 1 8 [I 0] (I (n : Int)) (I (n : Int)) = some (.cells false 1 (Nat.mul n 1) (zerosA n [I 0]), .sl n n) := by
  have h1 : (Nat.ble n n && (Nat.ble (Nat.mul 8 n) 281474976710656 && Nat.ble n 281474976710656)) = true := by
   simp only [ble_dec, Bool.and_eq_true, decide_eq_true_eq]
   refine ⟨Nat.le_refl _, ?_, ?_⟩
   · show 8 * n ≤ _; omega
   · omega
  show (cond (Nat.ble n n && (Nat.ble (Nat.mul 8 n) 281474976710656 && Nat.ble n 281474976710656)) _ _ : Option (AObj × Mk)) = _
  rw [h1]; rfl
 rw [e]
 refine k _ (Nu.add w _) rfl ⟨zerosA n [I 0], ?_, ?_, fun i => ?_⟩
 · rw [w.get, if_pos rfl, List.length_replicate, show Nat.mul n 1 = n from Nat.mul_one n]
 · have := zerosA_full n [I 0]
   simpa using this
 · rw [zerosA_get]; congr 1
   clear e k hn
   induction n with
   | zero => rfl
   | succ n ih => rw [List.replicate_succ, List.replicate_succ, List.flatten_cons, ih]; rfl
theorem W_copy {va : AV} {la lb : List AV} {b : Nat} {q : Option Nat} {n : Nat} (ha : SV H va 1 la) (hb : Cs H b false 1 lb) (hn : n = lb.length) (hle : la.length ≤ lb.length) (hs : allScal la = true)
 (K : ∀ H', H'.n = H.n → (WF H → WF H') → (∀ b', b' ≠ b → H'.get b' = H.get b') → Cs H' b false 1 (la ++ lb.drop la.length) → W (c (I la.length) H') Q) : W (pW (aCopy 1 H (.sl b 0 n q) va) c) Q := by
 subst hn
 have hsn := ha.num
 rcases ha with ⟨rfl, rfl⟩ | ⟨b1, o, n1, q1, cs, rfl, h2, h3, h4, h5, h6⟩
 · have m0 : Nat.min 0 lb.length = 0 := Nat.zero_min _
   have : aCopy 1 H (.sl b 0 lb.length q) .nilsl = some (I 0, H) := by
    simp -implicitDefEqProofs [aCopy, aSrc]
   rw [this]
   exact K H rfl id (fun _ _ => rfl) (by simpa using hb)
 · simp only [sn, Nat.mul_one] at hsn
   have hm : Nat.min n1 lb.length = n1 := Nat.min_eq_left (by omega)
   cases n1 with
   | zero =>
    have hl : la = [] := List.eq_nil_of_length_eq_zero (by omega)
    subst hl
    have : aCopy 1 H (.sl b 0 lb.length q) (.sl b1 o 0 q1) = some (I 0, H) := by
     simp -implicitDefEqProofs [aCopy, aSrc]
    rw [this]
    exact K H rfl id (fun _ _ => rfl) (by simpa using hb)
   | succ n1 =>
    obtain ⟨tb, b1', b2, b3⟩ := h3
    obtain ⟨t, t1, t2, t3⟩ := hb
    have hrd : tb.rdN o (Nat.mul (n1 + 1) 1) = some la := by
     have := rdN_of (t := tb) (l := la) (o := o) fun i hi => by rw [b3]; exact h6 i (by omega)
     rwa [h4] at this
    obtain ⟨t', e1, e2, e3⟩ := wrN_of (l := la) (o := 0) t2 (by omega)
    have hbq : Nat.beq (n1 + 1) 0 = false := rfl
    have : aCopy 1 H (.sl b 0 lb.length q) (.sl b1 o (n1 + 1) q1) = some (.int .i64 (.ofNat (n1 + 1)), H.put b (.cells false 1 lb.length t')) := by
     simp only [aCopy, aSrc, hm, b1', hrd, hbq, cond_false, t1, hs, cond_true, e1]
    rw [this]
    have hl : (la ++ lb.drop la.length).length = lb.length := by simp; omega
    have := K (H.put b (.cells false 1 lb.length t')) rfl (fun w => w.put _ _) (fun b' hb' => by rw [put_get t1, if_neg hb']) ⟨t', by rw [put_get t1, if_pos rfl, hl], by rw [hl]; exact e2, fun i => ?_⟩
    · rw [hsn] at this; exact this
    · rw [e3, Nat.zero_add]
      by_cases c1 : i < la.length
      · rw [if_pos ⟨Nat.zero_le _, c1⟩, List.getElem?_append_left c1]; rfl
      · rw [if_neg (fun h => c1 h.2), t3, List.getElem?_append_right (by omega), List.getElem?_drop]; congr 1; omega
end
section
variable {pr : Prims} {B : Bx} {Z : Nat → Prop} {m : Mo} {L L' : Lay} {s s' : St} {H H' : AHeap} {fs : List Fr} {k : Nat} {f : Fr} {v : AV} {d : Nat} {i : Ins} {u : Fu} {w : FV} {pc : Int}
def slotsOf (u : Fu) (args : List Int) : List Int := args ++ List.replicate (u.slots.toNat - args.length) 0
structure Fits (u : Fu) (n : Nat) : Prop where
 sum : u.params + u.caught = n
 le : (n : Int) ≤ u.slots
 most : u.slots ≤ 64
theorem frame_begin (F : Free pr) (n : Nat) (h : M B Z m L s H) {x : Int} {u : Fu} (h0 : 0 ≤ x) (e : m.funcs[x.toNat]? = some u) {args : List Int} {va : AV} (ha : SV H va 1 (args.map I)) (hl : Fits u args.length) :
 W (VE pr (n + 1) n157 [.agg B.md, I x, va] H) fun r H' => ∃ v', r = .tup [.agg [I x, I 0, v'], I 0] ∧ Nu H H' ∧ SV H' v' 1 ((slotsOf u args).map I) ∧ ∀ b, v'.blk = some b → H.n ≤ b := by
 refine W_of (U157 pr (F _ (by decide)) n _ _ _ _) ?_
 unfold S157_3
 refine W_box h.wf fun H1 u1 n1 c1 => ?_
 refine W_new u1.wf fun H2 u2 n2 c2 => ?_
 have c1' := c1.nu u1.wf u2
 have u12 := u1.trans u2
 have h2 := h.nu u12
 obtain ⟨w, q⟩ := h2.md.fn h0 e
 have ha2 := ha.same (H' := H2) fun b e => u12.old b (ha.lt h.wf e)
 have hsn := ha.num
 simp at hsn
 have g1 : ¬ (x < 0) := by omega
 have g2 : ¬ ((m.funcs.length : Int) ≤ x) := by have := q.lt; omega
 obtain ⟨hl1, hl2, hl3⟩ := hl
 simp -implicitDefEqProofs [S157_0, S157_1, S157_2, g1, g2, c1'.rd, Bx.md, h2.md.mf.1.len, q.n, q.ia, q.rs, -stK_int]
 refine W_var u12.wf (x := .agg [I u.params, I u.caught, I u.slots, I u.result, w.k, w.c, w.m]) ?_ (by rfl) (by rfl) fun H3 u3 n3 c3 => ?_
 · have a1 : isScal w.k = true := by rcases q.k with ⟨e, _⟩ | ⟨b, o, n, q, cs, e, _⟩ <;> rw [e] <;> rfl
   have a2 : isScal w.c = true := by rcases q.c with ⟨e, _⟩ | ⟨b, o, n, q, cs, e, _⟩ <;> rw [e] <;> rfl
   have a3 : isScal w.m = true := by rcases q.m with ⟨e, _⟩ | ⟨b, o, n, q, cs, e, _⟩ <;> rw [e] <;> rfl
   simp -implicitDefEqProofs [a1, a2, a3]
 have ha3 := ha2.same (H' := H3) fun b e => u3.old b (ha2.lt u12.wf e)
 have g3 : ¬ (u.slots < (args.length : Int)) := by omega
 have g4 : ¬ (64 < u.slots) := by omega
 obtain ⟨sl, hsl⟩ := Int.eq_ofNat_of_zero_le (show 0 ≤ u.slots by omega)
 simp only [cells_agg] at c3
 have hw : IntKind.i64.wrap (u.params + u.caught) = args.length := by rw [hl1]; exact wrap64 (by omega) (by omega)
 simp -implicitDefEqProofs [c3.rd, ha3.len, ← hsn, hw, g3, g4, -stK_int]
 rw [hsl]
 refine W_mksl u3.wf (by omega) fun H4 u4 n4 c4 => ?_
 have ha4 := ha3.same (H' := H4) fun b e => u4.old b (ha3.lt u3.wf e)
 refine W_copy ha4 c4 (by simp) (by simp; omega) (allScal_map _ (fun _ => rfl) _) fun H5 n5 w5 o5 c5 => ?_
 simp -implicitDefEqProofs [-stK_int]
 have c2' := (c2.nu u2.wf (u3.trans u4)).same (H' := H5) (o5 _ (by have := u3.n; omega))
 refine W_st c2' (x := .agg [I x, I 0, .sl H3.n 0 sl (some sl)]) rfl rfl (by simp) fun H6 t6 c6 => ?_
 simp at c6
 have := c6.rds 0 3 (by simp)
 simp -implicitDefEqProofs [this, resV]
 have hn3 : H.n ≤ H3.n := (u12.trans u3).n
 refine ⟨⟨by rw [t6.n, n5]; exact ((u12.trans u3).trans u4).n, t6.wf (w5 u4.wf), fun b hb => ?_⟩, SV.of (n := sl) (t6.cs ?_ (by have := u3.n; omega)) (by simp -implicitDefEqProofs [slotsOf]; omega) (fun c e => by cases e; omega), fun b e => by cases e; exact hn3⟩
 · rw [t6.old b (by omega), o5 b (by omega), u4.old b (by omega), u3.old b (by have := u12.n; omega), u12.old b hb]
 · have e2 : (slotsOf u args).map I = args.map I ++ (List.replicate sl (I 0)).drop (args.map I).length := by
    simp -implicitDefEqProofs [slotsOf, hsl]
   rw [e2]; exact c5
def St.push (s : St) (fs : List Fr) (f : Fr) : St := { s with gs := some (fs ++ [f]) }
theorem frame_Call (F : Free pr) (n : Nat) (h : M B Z m L s H) (hg : s.gs = some fs) (hk : fs.length < 256) {x : Int} {u : Fu} (h0 : 0 ≤ x) (e : m.funcs[x.toNat]? = some u) {args : List Int} {va : AV} (ha : SV H va 1 (args.map I)) (hl : Fits u args.length) :
 W (VE pr (n + 2) n374 [.ptr B.st 0, .agg B.md, I x, va] H) fun r H' => Ex B Z m L H (I 0) (s.push fs ⟨x, 0, slotsOf u args⟩) r H' := by
 refine W_of (U374 pr (F _ (by decide)) (n + 1) _ _ _ _ _) ?_
 unfold S374_0
 refine W_box h.wf fun H1 u1 n1 c1 => ?_
 have r1 := c1.rds 0 6 (by simp -implicitDefEqProofs [Bx.md])
 simp -implicitDefEqProofs [Bx.md] at r1
 simp -implicitDefEqProofs [r1, -stK_int]
 have h1 := h.nu u1
 have ha1 := ha.same (H' := H1) fun b e => u1.old b (ha.lt h.wf e)
 refine W_pC (frame_begin F n h1 h0 e ha1 hl) fun r H2 hx => ?_
 obtain ⟨v', rfl, u2, s2, f2⟩ := hx
 simp -implicitDefEqProofs [-stK_int]
 have hv' : isScal v' = true ∧ v'.cells = [v'] := by rcases s2 with ⟨rfl, _⟩ | ⟨b, o, n, q, cs, rfl, _⟩ <;> exact ⟨rfl, rfl⟩
 refine W_var u2.wf (x := .agg [I x, I 0, v']) (by simp -implicitDefEqProofs [hv'.1]) (by rfl) (by rfl) fun H3 u3 n3 c3 => ?_
 have u13 := (u1.trans u2).trans u3
 have h3 := h.nu u13
 obtain ⟨⟨a, ck, e1, e2⟩, k1, k2, k3, k4, k5⟩ := h3.fr hg
 have hlen := zipcells_len (f := frCells) (K := 3) (fun _ => rfl) k3
 have hsn := k2.num
 have hn : sn L.vf = fs.length := by rw [hlen] at hsn; omega
 have g1 : ¬ ((256 : Int) ≤ fs.length) := by omega
 simp only [cells_agg] at c3
 have r3 := c3.rds 0 3 (by simp)
 simp at r3
 simp -implicitDefEqProofs [k1.rd, k2.len, hn, g1, r3, -stK_int]
 refine W_bsl u13.wf (l := [I x, I 0, v']) (by simp) (by omega) (by simp) fun H4 u4 n4 c4 => ?_
 have k2' := k2.same (H' := H4) fun b e => u4.old b (k2.lt u13.wf e)
 refine SV.app u4.wf k2' c4 (by simp) (by omega) (by omega) (by simp -implicitDefEqProofs [hv'.1]) (by rw [hn]; omega) (by rw [hn]; omega) fun H5 w5 n5 c5 o5 => ?_
 have u14 := u13.trans u4
 have h4 := h.nu u14
 have hst : Cs H5 B.st false 0 [L.vf] := (k1.nu u13.wf u4).same (o5 _ (h4.lt .st _ rfl) fun e => h4.ne .st .vf (by decide) rfl e rfl)
 simp -implicitDefEqProofs [hn, -stK_sl]
 refine W_st hst rfl rfl (by simp) fun H6 t6 c6 => ?_
 simp at c6
 simp -implicitDefEqProofs
 have hB : B.st < H4.n := h4.lt .st _ rfl
 have old : ∀ b, b < H4.n → (∀ r, grp r = .gg → pl B L r ≠ some b) → H6.get b = H4.get b := fun b hb hr => by
  rw [t6.old b fun e => hr .st rfl (by rw [e]; rfl), o5 b hb fun e => hr .vf rfl e]
 have s4 : SV H4 v' 1 ((slotsOf u args).map I) := (s2.same (H' := H3) fun b e => u3.old b (s2.lt u2.wf e)).same fun b e => u4.old b (by
  have := s2.lt u2.wf e; have := u3.n; omega)
 have hvl : ∀ b, v'.blk = some b → H1.n ≤ b ∧ b < H2.n := fun b e => ⟨f2 b e, s2.lt u2.wf e⟩
 have unv : ∀ b, v'.blk = some b → Un B Z L b := fun b e => (h.nu u1).un (hvl b e).1
 let L2 : Lay := { L with vf := .sl H4.n 0 (fs.length + 1) none, sl := L.sl ++ [v'] }
 have hslk : ∀ j, (L2.sl[j]?).bind AV.blk = if j < L.sl.length then (L.sl[j]?).bind AV.blk else if j = L.sl.length then v'.blk else none := fun j => by
  show ((L.sl ++ [v'])[j]?).bind AV.blk = _
  by_cases c : j < L.sl.length
  · rw [List.getElem?_append_left c, if_pos c]
  · rw [if_neg c]
    by_cases c2 : j = L.sl.length
    · subst c2; simp
    · rw [if_neg c2, List.getElem?_eq_none (by simp; omega)]; rfl
 have hr2 : ∀ r b, pl B L2 r = some b → pl B L r = some b ∨ (r = .vf ∧ b = H4.n) ∨ (r = .sl L.sl.length ∧ v'.blk = some b) := fun r b e => by
  cases r <;> try exact .inl e
  · cases e; exact .inr (.inl ⟨rfl, rfl⟩)
  · rename_i j
    have e1 : (L2.sl[j]?).bind AV.blk = some b := e
    rw [hslk] at e1
    split at e1
    · exact .inl e1
    · split at e1
      · rename_i c; exact .inr (.inr ⟨by rw [c], e1⟩)
      · cases e1
 have hM : M B Z m L2 (s.push fs ⟨x, 0, slotsOf u args⟩) H6 := by
  refine h4.upd .gg (t6.wf w5) (by rw [t6.n, n5]; omega) old (fun r b e => ?_) (fun r r' b hu e e' => ?_) (fun g hg => ⟨by cases g <;> simp_all [agL, L2], by cases g <;> simp_all [agS, St.push]⟩) ?_
  · rcases hr2 r b e with k | ⟨_, rfl⟩ | ⟨_, k⟩
    · exact .inl k
    · exact .inr ⟨h4.un (Nat.le_refl _), by rw [t6.n, n5]; omega⟩
    · exact .inr ⟨unv b k, by rw [t6.n, n5]; have := (hvl b k).2; have := (u3.trans u4).n; omega⟩
  · have nb : ∀ b, v'.blk = some b → b ≠ H4.n := fun b e => by have := (hvl b e).2; have := (u3.trans u4).n; omega
    rcases hr2 r b e with k | ⟨rfl, rfl⟩ | ⟨rfl, k⟩
    · exact absurd k (hu.1 r)
    · rcases hr2 r' _ e' with k | ⟨rfl, _⟩ | ⟨rfl, k⟩
      · exact absurd k (hu.1 r')
      · rfl
      · exact absurd rfl (nb _ k)
    · rcases hr2 r' _ e' with k' | ⟨rfl, rfl⟩ | ⟨rfl, _⟩
      · exact absurd k' (hu.1 r')
      · exact absurd rfl (nb _ k)
      · rfl
  · have nst : ∀ r' b', r' ≠ .st → r' ≠ .vf → pl B L r' = some b' → H6.get b' = H4.get b' := fun r' b' n1 n2 e => by
     have hlt := h4.lt r' b' e
     rw [t6.old b' (h4.ne r' .st n1 e rfl), o5 b' hlt fun e2 => h4.ne r' .vf n2 e e2 rfl]
    refine ⟨(h4.g .gg).1.same (nst .sd _ (by decide) (by decide) rfl), ⟨a, ck, (nst .sm _ (by decide) (by decide) rfl).trans ((u4.old _ (h3.lt .sm _ rfl)).trans e1), e2⟩, c6, ?_, by simp -implicitDefEqProofs [L2, k3], fun j p hp => ?_, fun _ => ⟨_, _, _, rfl⟩⟩
    · have hz : (fs ++ [(⟨x, 0, slotsOf u args⟩ : Fr)]).zip L2.sl = fs.zip L.sl ++ [(⟨x, 0, slotsOf u args⟩, v')] := by
       show (fs ++ [_]).zip (L.sl ++ [v']) = _
       rw [List.zip_append (by omega)]; rfl
      rw [hz, List.flatMap_append]
      have c7 := t6.cs c5 (show H4.n ≠ B.st by omega)
      refine SV.of c7 ?_ (fun c e => by cases e)
      rw [List.length_append, hlen, Nat.add_mul]; rfl
    · have hz : (fs ++ [(⟨x, 0, slotsOf u args⟩ : Fr)]).zip L2.sl = fs.zip L.sl ++ [(⟨x, 0, slotsOf u args⟩, v')] := by
       show (fs ++ [_]).zip (L.sl ++ [v']) = _
       rw [List.zip_append (by omega)]; rfl
      rw [hz] at hp
      by_cases cj : j < (fs.zip L.sl).length
      · rw [List.getElem?_append_left cj] at hp
        have hp2 : L.sl[j]? = some p.2 := by rw [List.getElem?_zip_eq_some] at hp; exact hp.2
        exact ((k4 j p hp).same (H' := H4) fun b e => u4.old b ((k4 j p hp).lt u13.wf e)).same fun b e => nst (.sl j) b (by simp) (by simp) (by simp -implicitDefEqProofs [pl, hp2, e])
      · rw [List.getElem?_append_right (by omega)] at hp
        have : p = (⟨x, 0, slotsOf u args⟩, v') := by
         cases hj : j - (fs.zip L.sl).length with
         | zero => rw [hj] at hp; simpa using hp.symm
         | succ y => rw [hj] at hp; simp at hp
        subst this
        exact s4.same fun b e => by
         have hb := (hvl b e).2
         have : b < H4.n := by have := (u3.trans u4).n; omega
         exact old b this fun r _ => (unv b e).1 r
 refine ⟨rfl, L2, ⟨by rw [t6.n, n5]; have := u14.n; omega, fun b hb hr => ?_, fun r b e => ?_⟩, hM⟩
 · rw [old b (by have := u14.n; omega) fun r _ => hr r, u14.old b hb]
 · rcases hr2 r b e with k | ⟨_, rfl⟩ | ⟨_, k⟩
   · exact .inl ⟨r, k⟩
   · exact .inr u14.n
   · exact .inr (by have := (hvl b k).1; have := u1.n; omega)
end
end
noncomputable section
set_option maxRecDepth 100000
section
variable {pr : Prims} {B : Bx} {Z : Nat → Prop} {m : Mo} {L L' : Lay} {s s' : St} {H H' : AHeap} {fs : List Fr} {k : Nat} {f : Fr} {v : AV} {d : Nat} {i : Ins} {u : Fu} {w : FV} {pc : Int}
def Fr.run (f : Fr) (a : Int) (n : Nat) : List Int := (List.range n).map fun (j : Nat) => f.get (a + (j : Int))
theorem Fr.run_succ (f : Fr) (a : Int) (n : Nat) : f.run a (n + 1) = f.run a n ++ [f.get (a + n)] := by simp -implicitDefEqProofs [Fr.run, List.range_succ]
theorem Fr.run_len (f : Fr) (a : Int) (n : Nat) : (f.run a n).length = n := by simp -implicitDefEqProofs [Fr.run]
structure Own (H0 : AHeap) (H : AHeap) (v : AV) (e : Nat) (l : List AV) : Prop where
 nu : Nu H0 H
 sv : SV H v e l
 new : ∀ b, v.blk = some b → H0.n ≤ b
theorem Own.nil (w : WF H) (e : Nat) : Own H H .nilsl e [] := ⟨.refl w, .nil _ _, fun _ e => by cases e⟩
theorem Own.app {H0 : AHeap} {l news zs : List AV} {parts : List (Nat × Nat × AV)} {e bytes : Nat} {c : Kv} {Q : AV → AHeap → Prop} (o : Own H0 H v e l) (hf : aFill (List.replicate 1 zs).flatten parts = some news) (hn : news.length = e) (he : 0 < e) (he2 : e ≤ 1000)
 (hs : allScal news = true) (hb : (sn v + 1) * bytes ≤ 140737488355328) (hb2 : sn v + 1 ≤ 1152921504606846976) (K : ∀ v' H', Own H0 H' v' e (l ++ news) → W (c v' H') Q) :
 W (pN (aBsl e 1 zs parts) H fun t H => pW (aApp e bytes H v t) c) Q := by
 refine W_bsl o.nu.wf hf (by omega) (by omega) fun H1 u1 n1 c1 => ?_
 have s1 := o.sv.same (H' := H1) fun b e => u1.old b (o.sv.lt o.nu.wf e)
 refine SV.app u1.wf s1 c1 (by omega) (by omega) he hs hb hb2 fun H2 w2 n2 c2 o2 => ?_
 have hlen := o.sv.num
 refine K _ _ ⟨⟨by have := o.nu.n; omega, w2, fun b hb => ?_⟩, SV.of c2 (by rw [List.length_append, hlen, hn, Nat.add_mul]; omega) (fun c e => by cases e), fun b e => by cases e; exact Nat.le_trans o.nu.n u1.n⟩
 have := o.nu.n
 rw [o2 b (by omega) fun e => by have := o.new b e; omega, u1.old b (by omega), o.nu.old b hb]
theorem doing_run (F : Free pr) (n : Nat) (q : Dg B Z m L s H d i u w pc fs k f) (a : Int) (ha : -1000000 ≤ a ∧ a ≤ 1000000) (cnt : Nat) (hc : cnt ≤ 1000) :
 W (VE pr (n + 3) n263 [.ptr d 0, I a, I (cnt : Int)] H) fun r H' => Copied H 1 ((f.run a cnt).map I) r H' := by
 refine W_of (U263 pr (F _ (by decide)) (n + 2) _ _ _ _) ?_
 have key : ∀ (r j mm : Nat) (x : Int) (t7 : AV) (H1 : AHeap), x = (j : Int) → j + r = cnt → r < mm → Own H H1 t7 1 ((f.run a j).map I) →
  W (S263_0 (VE pr (n + 2)) mm (.ptr d 0) (I a) t7 (I (cnt : Int)) (I x) H1) fun r H' => Copied H 1 ((f.run a cnt).map I) r H' := by
  intro r
  induction r with
  | zero =>
   intro j mm x t7 H1 hx hj hm o
   obtain ⟨mm, rfl⟩ : ∃ k, mm = k + 1 := ⟨mm - 1, by omega⟩
   rw [L263_0]
   subst hx
   have : j = cnt := by omega
   subst this
   simp -implicitDefEqProofs
   exact ⟨o.nu, o.sv, o.new⟩
  | succ r ih =>
   intro j mm x t7 H1 hx hj hm o
   obtain ⟨mm, rfl⟩ : ∃ k, mm = k + 1 := ⟨mm - 1, by omega⟩
   rw [L263_0]
   subst hx
   have hlt : (j : Int) < (cnt : Int) := by omega
   have q1 := q.nu o.nu
   obtain ⟨v, t⟩ := q1.top
   have hsn := o.sv.num
   simp -implicitDefEqProofs [Fr.run_len] at hsn
   simp -implicitDefEqProofs [hlt, q1.c.rd, doCells, pC, wrap64 (n := a + j) (by omega) (by omega), frame_Get F n q1.h q1.hg t q1.hb]
   refine o.app (news := [I (f.get (a + j))]) (by simp) rfl (by omega) (by omega) rfl (by omega) (by omega) fun v' H2 o2 => ?_
   rw [show (f.run a j).map I ++ [I (f.get (a + j))] = (f.run a (j + 1)).map I by rw [Fr.run_succ]; simp] at o2
   exact ih (j + 1) mm _ v' H2 (by rw [wrap64 (by omega) (by omega)]; omega) (by omega) (by omega) o2
 exact key cnt 0 1000000 _ _ _ rfl (by omega) (by omega) (by simpa [Fr.run] using Own.nil q.h.wf 1)
theorem doing_call (F : Free pr) (n : Nat) (q : Dg B Z m L s H d i u w pc fs k f) (hk : k + 1 < 256) {x : Int} {u' : Fu} (h0 : 0 ≤ x) (e : m.funcs[x.toNat]? = some u') {args : List Int} {va : AV} (ha : SV H va 1 (args.map I)) (hl : Fits u' args.length) :
 W (VE pr (n + 3) n262 [.ptr d 0, I x, va] H) fun r H' => Ex B Z m L H (.tup []) (s.push fs ⟨x, 0, slotsOf u' args⟩) r H' := by
 refine W_of (U262 pr (F _ (by decide)) (n + 2) _ _ _ _) ?_
 have r6 := q.h.v.rds 0 6 (by simp)
 simp at r6
 simp -implicitDefEqProofs [S262_0, q.c.rd, doCells, r6]
 refine W_ob2i (frame_Call F n q.h q.hg (by rw [q.hk]; omega) h0 e ha hl) fun r H1 hx => ?_
 obtain ⟨rfl, hx⟩ := hx
 simp -implicitDefEqProofs
 exact ⟨rfl, hx⟩
end
end
noncomputable section
set_option maxRecDepth 100000
section
variable {pr : Prims} {B : Bx} {Z : Nat → Prop} {m : Mo} {L L' : Lay} {s s' : St} {H H' : AHeap} {fs : List Fr} {k : Nat} {f : Fr} {v : AV} {d : Nat} {i : Ins} {u : Fu} {w : FV} {pc : Int}
theorem doing_calls_call (F : Free pr) (n : Nat) (q : Dg B Z m L s H d i u w pc fs k f) (ho : i.op = 20) (hk : k + 1 < 256) {u' : Fu} (h0 : 0 ≤ i.b) (e : m.funcs[i.b.toNat]? = some u') (hc : -1000000 ≤ i.c ∧ i.c ≤ 1000000) {cnt : Nat} (hp : u'.params = cnt) (hl : Fits u' cnt) :
 W (VE pr (n + 4) n173 [.ptr d 0] H) fun r H' => Ex B Z m L H (.tup []) (s.push fs ⟨i.b, 0, slotsOf u' (f.run i.c cnt)⟩) r H' := by
 refine W_of (U173 pr (F _ (by decide)) (n + 3) _ _) ?_
 have r3 := q.c.rds 3 5 (by simp -implicitDefEqProofs [doCells])
 simp only [doCells, List.drop_succ_cons, List.drop_zero, List.take_succ_cons, List.take_zero] at r3
 simp -implicitDefEqProofs [S173_0, r3, -stK_int]
 refine W_var q.h.wf (x := .agg [I i.op, I i.a, I i.b, I i.c, I i.d]) (by rfl) (by rfl) (by rfl) fun H1 u1 n1 c1 => ?_
 have q1 := q.nu u1
 simp only [cells_agg] at c1
 obtain ⟨w', fa⟩ := q1.h.md.fn h0 e
 simp -implicitDefEqProofs [c1.rd, ho, q1.c.rd, doCells, q1.h.v.rd, fa.ia, fa.r0, hp]
 have hm := hl.most
 have hle := hl.le
 refine W_pC (doing_run F n q1 i.c hc cnt (by omega)) fun va H2 hx => ?_
 obtain ⟨u2, s2, f2⟩ := hx
 have q2 := q1.nu u2
 have c2 := c1.nu u1.wf u2
 simp -implicitDefEqProofs [c2.rd]
 refine W_pC (doing_call F n q2 hk h0 e s2 (by rw [Fr.run_len]; exact hl)) fun r H3 hx => ?_
 simp -implicitDefEqProofs
 exact ⟨rfl, (Ex.next (u1.trans u2).go hx).2⟩
end
end
noncomputable section
set_option maxRecDepth 100000
section
variable {pr : Prims} {B : Bx} {Z : Nat → Prop} {m : Mo} {L L' : Lay} {s s' : St} {H H' : AHeap} {fs : List Fr} {k : Nat} {f : Fr} {v : AV} {d : Nat} {i : Ins} {u : Fu} {w : FV} {pc : Int}
theorem zip_dropLast : ∀ {a : List Fr} {b : List AV}, a.length = b.length → a.dropLast.zip b.dropLast = (a.zip b).dropLast
 | [], [], _ => rfl
 | [], _ :: _, h => by cases h
 | _ :: _, [], h => by cases h
 | [x], [y], _ => rfl
 | [x], _ :: _ :: _, h => by simp at h
 | _ :: _ :: _, [y], h => by simp at h
 | x :: x2 :: a, y :: y2 :: b, h => by
  have := zip_dropLast (a := x2 :: a) (b := y2 :: b) (by simpa using h)
  simp only [List.dropLast_cons_cons, List.zip_cons_cons] at this ⊢
  rw [this]
def St.pop (s : St) (fs : List Fr) : St := { s with gs := some fs.dropLast }
theorem frame_Return (F : Free pr) (n : Nat) (h : M B Z m L s H) (hg : s.gs = some fs) (hk : fs.length = k + 2) (hb : k < 256) :
 W (VE pr (n + 1) n377 [.ptr B.st 0] H) fun r H' => Ex B Z m L H (.bool true) (s.pop fs) r H' := by
 refine W_of (U377 pr (F _ (by decide)) n _ _) ?_
 obtain ⟨⟨a, ck, e1, e2⟩, h1, h2, h3, h4, h5⟩ := h.fr hg
 obtain ⟨b, o, nn, hvf⟩ := h5 (by omega)
 have hlen := zipcells_len (f := frCells) (K := 3) (fun _ => rfl) h3
 have hsn := h2.num
 have hn : sn L.vf = k + 2 := by rw [hlen] at hsn; omega
 rcases h2 with ⟨e, _⟩ | ⟨b', o', n', q', cs, e, g1, g2, g3, g4, g5⟩
 · rw [hvf] at e; cases e
 rw [hvf] at e
 cases e
 rw [hvf] at hn
 simp only [sn] at hn
 subst hn
 obtain ⟨tc, y1, y2, y3⟩ := g2
 have hsl : aSlice 3 H L.vf .none (.some (I ((k : Int) + 1))) .none = some (.sl b o (k + 1) none) := by
  rw [hvf]
  show (cond (Nat.ble 0 (k + 1)) (match H.get b with
   | some (.cells _ e _ _) => cond (Nat.ble (k + 1) (k + 2) && Nat.beq e 3) (some (AV.sl b (Nat.add o (Nat.mul 0 3)) (Nat.sub (k + 1) 0) none)) none
   | _ => none) none : Option AV) = _
  rw [y1]
  simp [ble_dec]
 rw [hvf] at hsl
 simp -implicitDefEqProofs [S377_0, S377_1, h1.rd, hvf, wrap64 (n := (k : Int) + 1) (by omega) (by omega), show (0 : Int) < (k : Int) + 2 by omega, show ((k : Int) + 2 - 1) = (k : Int) + 1 by omega, hsl, -stK_sl]
 refine W_st h1 rfl rfl (by simp) fun H1 t1 c1 => ?_
 simp at c1
 simp -implicitDefEqProofs [c1.rd, show (0 : Int) < (k : Int) + 1 by omega]
 let L2 : Lay := { L with vf := .sl b o (k + 1) none, sl := L.sl.dropLast }
 have hr : ∀ r x, pl B L2 r = some x → pl B L r = some x := fun r x e => by
  cases r <;> try exact e
  · show L.vf.blk = _; rw [hvf]; exact e
  · rename_i j
    have e : (L.sl.dropLast[j]?).bind AV.blk = some x := e
    rw [List.getElem?_dropLast] at e
    split at e
    · exact e
    · cases e
 have hvb : pl B L .vf = some b := by show L.vf.blk = _; rw [hvf]; rfl
 have same : ∀ r x, r ≠ .st → pl B L r = some x → H1.get x = H.get x := fun r x hne e => t1.old x (h.ne r .st hne e rfl)
 have hz : fs.dropLast.zip L.sl.dropLast = (fs.zip L.sl).dropLast := by
  exact zip_dropLast h3.symm
 have hM : M B Z m L2 (s.pop fs) H1 := by
  refine h.upd .gg (t1.wf h.wf) (by rw [t1.n]; exact Nat.le_refl _) (fun x hx hn => t1.old x fun e => hn .st rfl (by rw [e]; rfl)) (fun r x e => .inl (hr r x e)) (fun r r' x hu e => absurd (hr r x e) (hu.1 r)) (fun g hg => ⟨by cases g <;> simp_all [agL, L2], by cases g <;> simp_all [agS, St.pop]⟩) ?_
  refine ⟨(h.g .gg).1.same (same .sd _ (by decide) rfl), ⟨a, ck, (same .sm _ (by decide) rfl).trans e1, e2⟩, c1, ?_, by simp -implicitDefEqProofs [L2, h3], fun j p hp => ?_, fun _ => ⟨_, _, _, rfl⟩⟩
  · rw [show (fs.dropLast.zip L2.sl) = _ from hz]
    have hl : ((fs.zip L.sl).dropLast.flatMap frCells) = ((fs.zip L.sl).flatMap frCells).take ((k + 1) * 3) := by
     have hzl : (fs.zip L.sl).length = k + 2 := by rw [List.length_zip, h3, Nat.min_self, hk]
     have hne : fs.zip L.sl ≠ [] := fun e => by rw [e] at hzl; cases hzl
     conv => rhs; rw [← List.dropLast_concat_getLast hne, List.flatMap_append]
     rw [List.take_append_of_le_length (by rw [flatK_len (k := 3) (fun _ => rfl), List.length_dropLast, hzl]; omega), List.take_of_length_le (by rw [flatK_len (k := 3) (fun _ => rfl), List.length_dropLast, hzl]; omega)]
    rw [hl]
    refine .inr ⟨b, o, k + 1, none, cs, rfl, (fun c e => nomatch e), ⟨tc, (same .vf b (by decide) hvb).trans y1, y2, y3⟩, ?_, by omega, fun x hx => ?_⟩
    · rw [List.length_take, hlen, hk]; omega
    · rw [List.getElem?_take, if_pos hx]; exact g5 x (by omega)
  · rw [show (fs.dropLast.zip L2.sl) = _ from hz, List.getElem?_dropLast] at hp
    split at hp
    · have hp2 : L.sl[j]? = some p.2 := by rw [List.getElem?_zip_eq_some] at hp; exact hp.2
      exact (h4 j p hp).same fun x e => same (.sl j) x (by simp) (by simp -implicitDefEqProofs [pl, hp2, e])
    · cases hp
 exact ⟨rfl, L2, ⟨by rw [t1.n]; exact Nat.le_refl _, fun x hx hn => t1.old x fun e => hn .st (by rw [e]; rfl), fun r x e => .inl ⟨r, hr r x e⟩⟩, hM⟩
theorem frame_Return0 (F : Free pr) (n : Nat) (h : M B Z m L s H) (hg : s.gs = some fs) (hk : fs.length = 1) :
 W (VE pr (n + 1) n377 [.ptr B.st 0] H) fun r H' => r = .bool false ∧ Tu B.st H H' := by
 refine W_of (U377 pr (F _ (by decide)) n _ _) ?_
 obtain ⟨⟨a, ck, e1, e2⟩, h1, h2, h3, h4, h5⟩ := h.fr hg
 have hlen := zipcells_len (f := frCells) (K := 3) (fun _ => rfl) h3
 have hsn := h2.num
 have hn : sn L.vf = 1 := by rw [hlen] at hsn; omega
 rcases h2 with ⟨e, _⟩ | ⟨b, o, n', q, cs, e, g1, g2, g3, g4, g5⟩
 · rw [e] at hn; cases hn
 rw [e] at hn
 simp only [sn] at hn
 subst hn
 obtain ⟨tc, y1, y2, y3⟩ := g2
 have hsl : ∃ o' q', aSlice 3 H (.sl b o 1 q) .none (.some (I 0)) .none = some (.sl b o' 0 q') := by
  cases q with
  | none => exact ⟨_, _, by simp -implicitDefEqProofs [aSlice, aOpt, aNat, y1, ble_dec]; exact ⟨rfl, rfl⟩⟩
  | some c => exact ⟨_, _, by simp -implicitDefEqProofs [aSlice, aOpt, aNat, ble_dec]; exact ⟨rfl, rfl⟩⟩
 obtain ⟨o', q', hsl⟩ := hsl
 simp -implicitDefEqProofs [S377_0, S377_1, h1.rd, e, wrap64 (n := 0) (by omega) (by omega), hsl, -stK_sl]
 refine W_st h1 rfl rfl (by simp) fun H1 t1 c1 => ?_
 simp at c1
 simp -implicitDefEqProofs [c1.rd]
 exact t1
theorem M.printed (h : M B Z m L s H) {x : Int} {H5 H6 : AHeap} (w5 : WF H5) (n5 : H5.n = H.n + 1) (c5 : Cs H5 H.n false 1 (s.out.map I ++ [I x])) (o5 : ∀ b, b < H.n → L.vo.blk ≠ some b → H5.get b = H.get b) (t6 : Tu B.v H5 H6)
 (c6 : Cs H6 B.v false 0 [B.ms, B.mg, B.mc, B.mcs, B.mf, I B.main, .ptr B.h 0, .ptr B.sd 0, B.vg, .sl H.n 0 (s.out.length + 1) none, L.va, I s.en, I s.trap]) :
 M B Z m { L with vo := .sl H.n 0 (s.out.length + 1) none } { s with out := s.out ++ [x] } H6 ∧ Go B L H { L with vo := .sl H.n 0 (s.out.length + 1) none } H6 := by
 have hr : ∀ r b, pl B { L with vo := .sl H.n 0 (s.out.length + 1) none } r = some b → pl B L r = some b ∨ (r = .vo ∧ b = H.n) := fun r b e => by
  cases r <;> try exact .inl e
  cases e; exact .inr ⟨rfl, rfl⟩
 have same : ∀ r b, r ≠ .v → r ≠ .vo → pl B L r = some b → H6.get b = H.get b := fun r b n1 n2 e => by
  rw [t6.old b (h.ne r .v n1 e rfl), o5 b (h.lt r b e) fun e2 => h.ne r .vo n2 e e2 rfl]
 have old : ∀ b, b < H.n → pl B L .v ≠ some b → pl B L .vo ≠ some b → H6.get b = H.get b := fun b hb n1 n2 => by
  rw [t6.old b fun e => n1 (by rw [e]; rfl), o5 b hb n2]
 refine ⟨h.upd .v (t6.wf w5) (by rw [t6.n, n5]; omega) (fun b hb hn => old b hb (hn .v rfl) (hn .vo rfl)) (fun r b e => ?_) (fun r r' b hu e e' => ?_) (fun g hg => ⟨by cases g <;> simp_all [agL], by cases g <;> simp_all [agS]⟩) ?_, ?_⟩
 · rcases hr r b e with k | ⟨rfl, rfl⟩
   · exact .inl k
   · exact .inr ⟨h.un (Nat.le_refl _), by rw [t6.n, n5]; omega⟩
 · rcases hr r b e with k | ⟨rfl, rfl⟩
   · exact absurd k (hu.1 r)
   · rcases hr r' _ e' with k | ⟨rfl, _⟩
     · exact absurd k (hu.1 r')
     · rfl
 · refine ⟨c6, h.vg.same fun b e => same .vg b (by decide) (by decide) e, ?_, h.va.same fun b e => same .va b (by decide) (by decide) e⟩
   have hne : H.n ≠ B.v := by have := h.lt .v _ rfl; omega
   have c7 := t6.cs c5 hne
   rw [List.map_append]
   exact SV.of c7 (by simp) (fun c e => by cases e)
 · exact ⟨by rw [t6.n, n5]; omega, fun b hb hn => old b hb (hn .v) (hn .vo), fun r b e => by
    rcases hr r b e with k | ⟨rfl, rfl⟩
    · exact .inl ⟨r, k⟩
    · exact .inr (Nat.le_refl _)⟩
theorem M.acted (h : M B Z m L s H) {x : Act} {H5 H6 : AHeap} (w5 : WF H5) (n5 : H5.n = H.n + 1) (c5 : Cs H5 H.n false 7 (s.acts.flatMap Act.cells ++ x.cells)) (o5 : ∀ b, b < H.n → L.va.blk ≠ some b → H5.get b = H.get b) (t6 : Tu B.v H5 H6)
 (c6 : Cs H6 B.v false 0 [B.ms, B.mg, B.mc, B.mcs, B.mf, I B.main, .ptr B.h 0, .ptr B.sd 0, B.vg, L.vo, .sl H.n 0 (s.acts.length + 1) none, I s.en, I s.trap]) :
 M B Z m { L with va := .sl H.n 0 (s.acts.length + 1) none } { s with acts := s.acts ++ [x] } H6 ∧ Go B L H { L with va := .sl H.n 0 (s.acts.length + 1) none } H6 := by
 have hr : ∀ r b, pl B { L with va := .sl H.n 0 (s.acts.length + 1) none } r = some b → pl B L r = some b ∨ (r = .va ∧ b = H.n) := fun r b e => by
  cases r <;> try exact .inl e
  cases e; exact .inr ⟨rfl, rfl⟩
 have same : ∀ r b, r ≠ .v → r ≠ .va → pl B L r = some b → H6.get b = H.get b := fun r b n1 n2 e => by
  rw [t6.old b (h.ne r .v n1 e rfl), o5 b (h.lt r b e) fun e2 => h.ne r .va n2 e e2 rfl]
 have old : ∀ b, b < H.n → pl B L .v ≠ some b → pl B L .va ≠ some b → H6.get b = H.get b := fun b hb n1 n2 => by
  rw [t6.old b fun e => n1 (by rw [e]; rfl), o5 b hb n2]
 refine ⟨h.upd .v (t6.wf w5) (by rw [t6.n, n5]; omega) (fun b hb hn => old b hb (hn .v rfl) (hn .va rfl)) (fun r b e => ?_) (fun r r' b hu e e' => ?_) (fun g hg => ⟨by cases g <;> simp_all [agL], by cases g <;> simp_all [agS]⟩) ?_, ?_⟩
 · rcases hr r b e with k | ⟨rfl, rfl⟩
   · exact .inl k
   · exact .inr ⟨h.un (Nat.le_refl _), by rw [t6.n, n5]; omega⟩
 · rcases hr r b e with k | ⟨rfl, rfl⟩
   · exact absurd k (hu.1 r)
   · rcases hr r' _ e' with k | ⟨rfl, _⟩
     · exact absurd k (hu.1 r')
     · rfl
 · refine ⟨c6, h.vg.same fun b e => same .vg b (by decide) (by decide) e, h.vo.same fun b e => same .vo b (by decide) (by decide) e, ?_⟩
   have hne : H.n ≠ B.v := by have := h.lt .v _ rfl; omega
   have c7 := t6.cs c5 hne
   rw [List.flatMap_append]
   simp only [List.flatMap_cons, List.flatMap_nil, List.append_nil]
   refine SV.of c7 ?_ (fun c e => by cases e)
   rw [List.length_append, flatK_len (k := 7) (fun _ => rfl), Nat.add_mul]; rfl
 · exact ⟨by rw [t6.n, n5]; omega, fun b hb hn => old b hb (hn .v) (hn .va), fun r b e => by
    rcases hr r b e with k | ⟨rfl, rfl⟩
    · exact .inl ⟨r, k⟩
    · exact .inr (Nat.le_refl _)⟩
end
end
noncomputable section
set_option maxRecDepth 100000
section
variable {pr : Prims} {B : Bx} {Z : Nat → Prop} {m : Mo} {L L' : Lay} {s s' : St} {H H' : AHeap} {fs : List Fr} {k : Nat} {f : Fr} {v : AV} {d : Nat} {i : Ins} {u : Fu} {w : FV} {pc : Int}
def backTo (f2 : Fr) (i2 : Ins) (a x : Int) : Fr := (if a ≠ -1 ∧ i2.a ≠ -1 then f2.set i2.a x else f2).to (f2.pc + 1)
theorem doing_back (F : Free pr) (n : Nat) {j : Nat} {f2 : Fr} {i2 : Ins} (q : Dg B Z m L s H d i u w pc fs (j + 1) f) (hf2 : fs[j]? = some f2) (hi : m.ins f2 = some i2) (hp : f2.pc ≤ 1000000) (hsl : f2.slots.length ≤ 1000) :
 W (VE pr (n + 4) n266 [.ptr d 0] H) fun r H' => Ex B Z m L H (.tup []) ((s.pop fs).top fs.dropLast j (backTo f2 i2 i.a (f.get i.a))) r H' := by
 refine W_of (U266 pr (F _ (by decide)) (n + 3) _ _) ?_
 obtain ⟨v, t⟩ := q.top
 obtain ⟨hf0, hp0, _⟩ := Mo.ins_of hi
 simp -implicitDefEqProofs [S266_1, S266_2, q.c.rd, doCells, pC, frame_Get F (n + 1) q.h q.hg t q.hb, -stK_int]
 refine W_ob2i (frame_Return F (n + 2) q.h q.hg q.hk (by have := q.hb; omega)) fun r H1 hx => ?_
 obtain ⟨rfl, L1, g1, h1⟩ := hx
 have hk1 : fs.dropLast.length = j + 1 := by rw [List.length_dropLast, q.hk]; rfl
 have hf1 : fs.dropLast[j]? = some f2 := by rw [List.getElem?_dropLast, if_pos (by rw [q.hk]; omega)]; exact hf2
 have q1 : Dg B Z m L1 (s.pop fs) H1 d i u w pc fs.dropLast j f2 :=
  let ⟨a, b, c⟩ := g1.keep q.dl q.dn
  ⟨h1, rfl, hk1, hf1, by have := q.hb; omega, q.c.same a, b, c⟩
 simp -implicitDefEqProofs [q1.c.rd, doCells, -stK_int]
 refine W_ob2i (frame_Top F n h1 rfl hk1 hf1 q1.hb (by omega)) fun r H2 hx => ?_
 obtain ⟨v', rfl, u2, s2, f2'⟩ := hx
 have q2 := q1.nu u2
 have hv' : isScal v' = true := by rcases s2 with ⟨rfl, _⟩ | ⟨b, o, n, q, cs, rfl, _⟩ <;> rfl
 simp -implicitDefEqProofs [-stK_int]
 refine W_var u2.wf (x := .agg [I f2.fn, I f2.pc, v']) (by simp -implicitDefEqProofs [hv']) (by rfl) (by rfl) fun H3 u3 n3 c3 => ?_
 have q3 := q2.nu u3
 have r6 := q3.h.v.rds 0 6 (by simp)
 simp at r6
 simp only [cells_agg] at c3
 simp -implicitDefEqProofs [q3.c.rd, doCells, r6, -stK_int]
 refine W_new u3.wf fun H4 u4 n4 c4 => ?_
 have q4 := q3.nu u4
 refine W_pC (frame_At F (n + 1) q4.h rfl hk1 hf1 q4.hb hi) fun r H5 hx => ?_
 obtain ⟨rfl, u5⟩ := hx
 simp -implicitDefEqProofs [-stK_int]
 refine W_st (c4.nu u4.wf u5) (x := .agg i2.cells) rfl rfl (by simp) fun H6 t6 c6 => ?_
 have u6 := (u4.trans u5).tu t6 (by omega)
 have q6 := q3.nu u6
 have c3' := c3.nu u3.wf u6
 simp -implicitDefEqProofs [Ins.cells] at c6
 obtain ⟨v6, t6'⟩ := q6.top
 have gF := (g1.trans u2.go).trans (u3.trans u6).go
 have hw : IntKind.i64.wrap (f2.pc + 1) = f2.pc + 1 := wrap64 (by omega) (by omega)
 have fin : ∀ {L7 : Lay} {H7 : AHeap} {fx : Fr}, Dg B Z m L7 ((s.pop fs).top fs.dropLast j fx) H7 d i u w pc (fs.dropLast.set j fx) j fx → Go B L H L7 H7 → H7.rd H2.n 1 = some (I f2.pc) → fx.to (f2.pc + 1) = backTo f2 i2 i.a (f.get i.a) →
  W (S266_0 (VE pr (n + 3)) (.ptr d 0) (.ptr H2.n 0) H7) fun r H' => Ex B Z m L H (.tup []) ((s.pop fs).top fs.dropLast j (backTo f2 i2 i.a (f.get i.a))) r H' := fun {L7 H7 fx} q7 g7 r7 e7 => by
  obtain ⟨v7, t7⟩ := q7.top
  simp -implicitDefEqProofs [S266_0, q7.c.rd, doCells, r7, hw]
  refine W_pC (frame_Jump F (n + 1) q7.h q7.hg t7 q7.hb (f2.pc + 1)) fun r H8 hx => ?_
  rw [St.top_top] at hx
  obtain ⟨_, hx⟩ := Ex.next g7 hx
  simp -implicitDefEqProofs
  rw [← e7]
  exact ⟨rfl, hx⟩
 have tsame : (s.pop fs).top fs.dropLast j f2 = s.pop fs := by
  have : fs.dropLast.set j f2 = fs.dropLast := set_same hf1
  simp -implicitDefEqProofs [St.top, St.pop, this]
 have fin0 : ¬ (i.a ≠ -1 ∧ i2.a ≠ -1) → W (S266_0 (VE pr (n + 3)) (.ptr d 0) (.ptr H2.n 0) H6) fun r H' => Ex B Z m L H (.tup []) ((s.pop fs).top fs.dropLast j (backTo f2 i2 i.a (f.get i.a))) r H' := fun hn => by
  have hset : fs.dropLast.set j f2 = fs.dropLast := set_same hf1
  refine fin (fx := f2) (by rw [tsame, hset]; exact q6) gF (by rw [c3'.rd]; rfl) (by simp only [backTo, if_neg hn])
 obtain ⟨fb, hfb⟩ : ∃ fb, fb = backTo f2 i2 i.a (f.get i.a) := ⟨_, rfl⟩
 rw [← hfb] at fin0 ⊢
 simp only [← hfb] at fin
 by_cases a1 : i.a = -1
 · simp -implicitDefEqProofs [q6.c.rd, doCells, a1]
   exact fin0 (by simp -implicitDefEqProofs [a1])
 · by_cases a2 : i2.a = -1
   · simp -implicitDefEqProofs [q6.c.rd, doCells, a1, c6.rd, a2]
     exact fin0 (by simp -implicitDefEqProofs [a2])
   · simp -implicitDefEqProofs [q6.c.rd, doCells, a1, c6.rd, a2]
     refine W_pC (frame_Set F (n + 1) q6.h q6.hg t6' q6.hb i2.a (f.get i.a)) fun r H7 hx => ?_
     obtain ⟨rfl, L7, g7, h7⟩ := hx
     refine fin (q6.turned g7 h7) (gF.trans g7) ?_ (by rw [hfb]; simp only [backTo, if_pos (show i.a ≠ -1 ∧ i2.a ≠ -1 from ⟨a1, a2⟩)])
     have hu : Un B Z L1 H2.n := (h1.nu u2).un (Nat.le_refl _)
     have := (g7.keep (b := H2.n) (by have := u6.n; omega) hu.1).1
     exact (c3'.same this).rd 1
theorem _root_.Go.Ab.AHeap.put_tu {b : Nat} {o o' : AObj} (e : H.get b = some o) : Tu b H (H.put b o') := ⟨rfl, fun w => w.put _ _, fun b' hb => by rw [put_get e, if_neg hb]⟩
theorem sched_Drop (F : Free pr) (n : Nat) {a ck : Nat} (c : Cs H B.sd false 0 [B.ms, B.mg, B.mc, B.mcs, B.mf, I B.main, .map B.sm, I 1]) (e : H.get B.sm = some (.map [(I 1, .ptr B.st 0, a)] ck)) :
 W (VE pr (n + 1) n378 [.ptr B.sd 0, I 1] H) fun r H' => r = .tup [] ∧ Tu B.sm H H' ∧ H'.get B.sm = some (.map [] ck) := by
 refine W_of (U378 pr (F _ (by decide)) n _ _ _) ?_
 have : aDelete .int H (.map B.sm) (I 1) = some (H.put B.sm (.map [] ck)) := by
  simp -implicitDefEqProofs [aDelete, keyOk, e, aFind, eqv, eqv1, kindEq, ieq_eq, dropAt]
 simp -implicitDefEqProofs [S378_0, c.rd, this, unitW]
 exact ⟨AHeap.put_tu e, by rw [put_get e, if_pos rfl]⟩
theorem cycle_Dies (F : Free pr) (n : Nat) (h : M B Z m L s H) : W (VE pr (n + 1) n379 [.ptr B.c 0, I 1] H) fun r H' => Ex B Z m L H (.tup []) { s with black := false } r H' := by
 refine W_of (U379 pr (F _ (by decide)) n _ _ _) ?_
 obtain ⟨es, ck, e1, e2⟩ := h.bl
 have : aDelete .int H (.map B.bl) (I 1) = some (H.put B.bl (.map [] ck)) := by
  cases hb : s.black with
  | false =>
   rw [hb] at e2
   obtain rfl := (e2 : es = [])
   simp -implicitDefEqProofs [aDelete, keyOk, e1, aFind]
  | true =>
   rw [hb] at e2
   obtain ⟨a, rfl⟩ := (e2 : ∃ k, es = _)
   simp -implicitDefEqProofs [aDelete, keyOk, e1, aFind, eqv, eqv1, kindEq, ieq_eq, dropAt]
 simp -implicitDefEqProofs [S379_0, h.c.rd, this, unitW]
 have t := AHeap.put_tu (o' := .map [] ck) e1
 refine ⟨rfl, L, t.go .bl rfl, h.turn .bl rfl t (fun g hg => by cases g <;> simp_all [agS, grp]) ⟨h.cs .bl .c (by decide) rfl rfl t h.c, [], ck, by rw [put_get e1, if_pos rfl], rfl⟩⟩
theorem heap_Cycle (F : Free pr) (n : Nat) (h : M B Z m L s H) : VE pr (n + 1) n59 [.ptr B.h 0] H = some (.ptr B.c 0, H) := by
 refine (U59 pr (F _ (by decide)) n _ _).trans ?_
 simp -implicitDefEqProofs [S59_0, h.h.rd]
def St.exit (s : St) : St := { s with gs := none, en := 1, black := false }
theorem doing_exit (F : Free pr) (n : Nat) (q : Dg B Z m L s H d i u w pc fs 0 f) :
 W (VE pr (n + 4) n266 [.ptr d 0] H) fun r H' => Ex B Z m L H (.tup []) s.exit r H' := by
 refine W_of (U266 pr (F _ (by decide)) (n + 3) _ _) ?_
 obtain ⟨v, t⟩ := q.top
 simp -implicitDefEqProofs [S266_0, S266_1, S266_2, q.c.rd, doCells, pC, frame_Get F (n + 1) q.h q.hg t q.hb, -stK_int]
 refine W_ob2i (frame_Return0 F (n + 2) q.h q.hg q.hk) fun r H1 hx => ?_
 obtain ⟨rfl, t1⟩ := hx
 obtain ⟨⟨a, ck, e1, e2⟩, _⟩ := q.h.fr q.hg
 have hd1 : Cs H1 d false 0 (doCells B i u w pc) := t1.cs q.c fun e => q.dn .st (by rw [e]; rfl)
 have hv1 := q.h.cs .st .v (by decide) rfl rfl t1 q.h.v
 have hs1 := q.h.cs .st .sd (by decide) rfl rfl t1 q.h.sd
 have e1' := (q.h.get .st .sm (by decide) rfl rfl t1).trans e1
 simp -implicitDefEqProofs [hd1.rd, doCells, hv1.rd, -stK_int]
 refine W_ob2i (sched_Drop F (n + 2) hs1 e1') fun r H2 hx => ?_
 obtain ⟨rfl, t2, e3⟩ := hx
 have m2 : M B Z m L { s with gs := none } H2 := by
  refine q.h.upd0 .gg (t2.wf (t1.wf q.h.wf)) (by rw [t2.n, t1.n]; exact Nat.le_refl _) (fun b hb hn => ?_) (fun g hg => by cases g <;> simp_all [agS]) ⟨?_, ck, e3⟩
  · rw [t2.old b fun e => hn .sm rfl (by rw [e]; rfl), t1.old b fun e => hn .st rfl (by rw [e]; rfl)]
  · exact t2.cs hs1 (q.h.ne .sd .sm (by decide) rfl rfl)
 have g2 : Go B L H L H2 := (t1.go .st rfl).trans (t2.go .sm rfl)
 have q2c : Cs H2 d false 0 (doCells B i u w pc) := q.c.same (g2.keep q.dl q.dn).1
 simp -implicitDefEqProofs [q2c.rd, doCells, m2.v.rd, heap_Cycle F (n + 2) m2, -stK_int]
 refine W_ob2i (cycle_Dies F (n + 2) m2) fun r H3 hx => ?_
 obtain ⟨rfl, L3, g3, m3⟩ := hx
 have g13 := g2.trans g3
 have q3c : Cs H3 d false 0 (doCells B i u w pc) := q.c.same (g13.keep q.dl q.dn).1
 simp -implicitDefEqProofs [q3c.rd, doCells, -stK_int]
 refine W_st m3.v (x := I 1) rfl rfl (by simp) fun H4 t4 c4 => ?_
 simp at c4
 simp -implicitDefEqProofs
 refine ⟨rfl, L3, g13.trans (t4.go .v rfl), m3.turn .v rfl t4 (fun g hg => by cases g <;> simp_all [agS, grp, St.exit]) ⟨c4, m3.sv .v .vg (by decide) rfl rfl t4 m3.vg, m3.sv .v .vo (by decide) rfl rfl t4 m3.vo, m3.sv .v .va (by decide) rfl rfl t4 m3.va⟩⟩
theorem doing_print (F : Free pr) (n : Nat) (q : Dg B Z m L s H d i u w pc fs k f) (ho : i.op = 42) (hp : 0 ≤ pc) (hp2 : pc ≤ 1000000) (hl : s.out.length < 65536) :
 W (VE pr (n + 6) n113 [.ptr d 0] H) fun r H' => Ex B Z m L H (.tup []) (({ s with out := s.out ++ [f.get i.a] } : St).top fs k (f.to (pc + 1))) r H' := by
 refine W_of (U113 pr (F _ (by decide)) (n + 5) _ _) ?_
 obtain ⟨v, t⟩ := q.top
 have hsn := q.h.vo.num
 simp at hsn
 have hl2 : (s.out.length : Int) < 65536 := by omega
 simp -implicitDefEqProofs [S113_0, S113_1, S113_2, S113_3, S113_4, S113_5, q.c.rd, doCells, ho, q.h.v.rd, q.h.vo.len, q.h.vo.beq, ← hsn, hl2, pC, frame_Get F (n + 3) q.h q.hg t q.hb, -stK_sl]
 refine W_bsl q.h.wf (l := [I (f.get i.a)]) (by simp) (by omega) (by simp) fun H1 u1 n1 c1 => ?_
 have q1 := q.nu u1
 refine SV.app u1.wf q1.h.vo c1 (by simp) (by omega) (by omega) rfl (by omega) (by omega) fun H2 w2 n2 c2 o2 => ?_
 have c3 : Cs H2 d false 0 (doCells B i u w pc) := q1.c.same (o2 d q1.dl fun e => q1.dn .vo e)
 have c4 : Cs H2 B.v false 0 _ := q1.h.v.same (o2 _ (q1.h.lt .v _ rfl) fun e => q1.h.ne .v .vo (by decide) rfl e rfl)
 simp -implicitDefEqProofs [c3.rd, doCells, -stK_sl]
 refine W_st c4 rfl rfl (by simp) fun H3 t3 c5 => ?_
 simp -implicitDefEqProofs [← hsn] at c5
 obtain ⟨m3, g3⟩ := q1.h.printed w2 n2 c2 o2 t3 c5
 have q3 := q1.go g3 m3 q.hg q.hk q.hf
 refine W_pC (doing_on F (n + 2) q3 hp hp2) fun r H4 hx => ?_
 simp -implicitDefEqProofs
 exact ⟨rfl, (Ex.next (u1.go.trans g3) hx).2⟩
end
end
noncomputable section
set_option maxRecDepth 100000
section
variable {pr : Prims} {B : Bx} {Z : Nat → Prop} {m : Mo} {L L' : Lay} {s s' : St} {H H' : AHeap} {fs : List Fr} {k : Nat} {f : Fr} {v : AV} {d : Nat} {i : Ins} {u : Fu} {w : FV} {pc : Int}
structure Rdy (m : Mo) (s : St) (fs : List Fr) (k : Nat) (f : Fr) (i : Ins) : Prop where
 hg : s.gs = some fs
 hk : fs.length = k + 1
 hb : k < 256
 hf : fs[k]? = some f
 hi : m.ins f = some i
 o38 : i.op ≠ 38
 o39 : i.op ≠ 39
 o41 : i.op ≠ 41
 sl : f.slots.length ≤ 1000
 en : s.en = 0
def Way1 (H : AHeap) (r : AV) (H' : AHeap) : Prop := ∃ b, r = .sl b 0 1 (some 1) ∧ H.n ≤ b ∧ b < H'.n ∧ Nu H H' ∧ Cs H' b false 3 [I (-1), I 0, I (-1)]
theorem look_sm {a ck : Nat} (e : H.get B.sm = some (.map [(I 1, .ptr B.st 0, a)] ck)) : aLook .int .nilp false H (.map B.sm) (I 1) = some (.ptr B.st 0) := by
 simp -implicitDefEqProofs [aLook, keyOk, e, aFind, eqv, eqv1, kindEq, ieq_eq]
theorem sched_Ways (F : Free pr) (n : Nat) (h : M B Z m L s H) (y : Rdy m s fs k f i) : W (VE pr (n + 3) n161 [.ptr B.sd 0, .ptr B.h 0, I 1] H) fun r H' => Way1 H r H' := by
 refine W_of (U161 pr (F _ (by decide)) (n + 2) _ _ _ _) ?_
 obtain ⟨⟨a, ck, e1, e2⟩, _⟩ := h.fr y.hg
 have r6 := h.sd.rds 0 6 (by simp)
 simp at r6
 simp -implicitDefEqProofs [S161_3, S161_4, S161_5, h.sd.rd, look_sm e1, r6, -stK_int]
 refine W_ob2i (frame_At F n h y.hg y.hk y.hf y.hb y.hi) fun r H1 hx => ?_
 obtain ⟨rfl, u1⟩ := hx
 simp -implicitDefEqProofs [-stK_int]
 refine W_var u1.wf (x := .agg i.cells) (by rfl) (by rfl) (by rfl) fun H2 u2 n2 c2 => ?_
 simp -implicitDefEqProofs [Ins.cells] at c2
 simp -implicitDefEqProofs [c2.rd, y.o38, y.o39, y.o41]
 refine W_bsl u2.wf (l := [I (-1), I 0, I (-1)]) (by simp) (by omega) (by simp) fun H3 u3 n3 c3 => ?_
 simp -implicitDefEqProofs
 exact ⟨H2.n, rfl, (u1.trans u2).n, by omega, (u1.trans u2).trans u3, c3⟩
theorem sched_Enabled (F : Free pr) (SP : Srt pr) (n : Nat) (h : M B Z m L s H) (y : Rdy m s fs k f i) : W (VE pr (n + 7) n104 [.ptr B.sd 0, .ptr B.h 0] H) fun r H' => New1 H 1 r H' := by
 refine W_of (U104 pr (F _ (by decide)) (n + 6) _ _ _) ?_
 unfold S104_0
 refine W_box h.wf fun H1 u1 n1 c1 => ?_
 refine W_box u1.wf fun H2 u2 n2 c2 => ?_
 have c1' := c1.nu u1.wf u2
 have u12 := u1.trans u2
 simp -implicitDefEqProofs [c1'.rd]
 refine W_ob2i (sched_IDs F SP (n + 4) (h.nu u12) y.hg) fun r H3 hx => ?_
 obtain ⟨b, rfl, b1, b2, u3, c3⟩ := hx
 have u13 := u12.trans u3
 refine W_pC (delete_none F (n + 4) u13.wf c3 none fun c Q hc => ?_) fun r H4 hx => ?_
 · show W (pC (VE pr (n + 4)) n160 [I 1, .ptr H.n 0, .ptr H1.n 0] H3 c) Q
   refine W_pC (Q0 := fun r H4 => r = .bool false ∧ Nu H3 H4) (W_of (U160 pr (F _ (by decide)) (n + 3) _ _ _ _) ?_) ?_
   · simp -implicitDefEqProofs [S160_0, (c1'.nu u12.wf u3).rd, (c2.nu u12.wf u3).rd]
     refine W_ob2i (sched_Ways F n (h.nu u13) y) fun r H4 hx => ?_
     obtain ⟨b', rfl, _, _, u4, _⟩ := hx
     simp -implicitDefEqProofs
     exact u4
   · rintro _ H4 ⟨rfl, u4⟩
     exact hc H4 u4
 · obtain ⟨rfl, u4⟩ := hx
   simp -implicitDefEqProofs
   exact ⟨b, rfl, by have := u12.n; omega, Nat.lt_of_lt_of_le b2 u4.n, u13.trans u4, c3.nu u13.wf u4⟩
theorem vm_Enabled (F : Free pr) (SP : Srt pr) (n : Nat) (h : M B Z m L s H) (y : Rdy m s fs k f i) : W (VE pr (n + 8) n53 [.ptr B.v 0] H) fun r H' => New1 H 1 r H' := by
 refine W_of (U53 pr (F _ (by decide)) (n + 7) _ _) ?_
 simp -implicitDefEqProofs [S53_0, h.v.rd, y.en]
 refine W_ob2i (sched_Enabled F SP n h y) fun r H1 hx => ?_
 simpa using hx
theorem vm_WaysOf (F : Free pr) (n : Nat) (h : M B Z m L s H) (y : Rdy m s fs k f i) : W (VE pr (n + 4) n107 [.ptr B.v 0, I 1] H) fun r H' => Way1 H r H' := by
 refine W_of (U107 pr (F _ (by decide)) (n + 3) _ _ _) ?_
 simp -implicitDefEqProofs [S107_0, h.v.rd, y.en]
 refine W_ob2i (sched_Ways F n h y) fun r H1 hx => ?_
 simpa using hx
theorem vm_Ways (F : Free pr) (n : Nat) (h : M B Z m L s H) (y : Rdy m s fs k f i) : W (VE pr (n + 5) n56 [.ptr B.v 0, I 1] H) fun r H' => r = I 1 ∧ Nu H H' := by
 refine W_of (U56 pr (F _ (by decide)) (n + 4) _ _ _) ?_
 unfold S56_0
 refine W_pC (vm_WaysOf F n h y) fun r H1 hx => ?_
 obtain ⟨b, rfl, _, _, u, _⟩ := hx
 simp -implicitDefEqProofs
 exact u
theorem vm_settle (F : Free pr) (SP : Srt pr) (n : Nat) (h : M B Z m L s H) (y : s.en ≠ 0 ∨ ∃ fs k f i, Rdy m s fs k f i) : W (VE pr (n + 8) n51 [.ptr B.v 0] H) fun r H' => r = .tup [] ∧ Nu H H' := by
 refine W_of (U51 pr (F _ (by decide)) (n + 7) _ _) ?_
 by_cases e : s.en = 0
 · obtain ⟨fs, k, f, i, y⟩ := y.resolve_left (fun h => h e)
   simp -implicitDefEqProofs [S51_0, S51_1, S51_2, S51_3, S51_4, S51_5, S51_6, S51_7, S51_8, S51_9, S51_10, S51_11, h.v.rd, e]
   refine W_ob2i (sched_Enabled F SP n h y) fun r H1 hx => ?_
   obtain ⟨b, rfl, _, _, u, _⟩ := hx
   simp -implicitDefEqProofs
   exact u
 · simp -implicitDefEqProofs [S51_0, S51_1, S51_2, S51_3, S51_4, S51_5, S51_6, S51_7, S51_8, S51_9, S51_10, S51_11, h.v.rd, e]
   exact .refl h.wf
def doTo (m : Mo) (s : St) (fs : List Fr) (k : Nat) (f : Fr) (i : Ins) : Option St :=
 if i.op ≤ 19 ∨ i.op = 43 then (plainTo m i f f.pc).map fun f' => s.top fs k f'
 else if i.op = 20 then
  if 0 ≤ i.b ∧ k + 1 < 256 ∧ -1000000 ≤ i.c ∧ i.c ≤ 1000000 then
   match m.funcs[i.b.toNat]? with
   | some u => if 0 ≤ u.params ∧ u.caught = 0 ∧ u.params ≤ u.slots ∧ u.slots ≤ 64 then some (s.push fs ⟨i.b, 0, slotsOf u (f.run i.c u.params.toNat)⟩) else none
   | none => none
  else none
 else if i.op = 22 then
  match k with
  | 0 => some s.exit
  | j + 1 => match fs[j]? with
   | some f2 => match m.ins f2 with
    | some i2 => if f2.pc ≤ 1000000 ∧ f2.slots.length ≤ 1000 then some ((s.pop fs).top fs.dropLast j (backTo f2 i2 i.a (f.get i.a))) else none
    | none => none
   | none => none
 else if i.op = 42 then if s.out.length < 65536 then some (({ s with out := s.out ++ [f.get i.a] } : St).top fs k (f.to (f.pc + 1))) else none
 else none
theorem doing_do (F : Free pr) (n : Nat) (q : Dg B Z m L s H d i u w f.pc fs k f) (hp : 0 ≤ f.pc) (hp2 : f.pc ≤ 1000000) {s1 : St} (e : doTo m s fs k f i = some s1) :
 W (VE pr (n + 6) n113 [.ptr d 0] H) fun r H' => Ex B Z m L H (.tup []) s1 r H' := by
 unfold doTo at e
 by_cases o1 : i.op ≤ 19 ∨ i.op = 43
 · rw [if_pos o1] at e
   cases e1 : plainTo m i f f.pc with
   | none => rw [e1] at e; cases e
   | some f' =>
    rw [e1] at e
    simp at e
    subst e
    refine W_of (U113 pr (F _ (by decide)) (n + 5) _ _) ?_
    have hpl := doing_plain F n q hp hp2 e1
    by_cases o2 : i.op ≤ 19
    · simp -implicitDefEqProofs [S113_4, S113_5, q.c.rd, doCells, o2]
      refine W_ob2i hpl fun r H1 hx => ?_
      simp -implicitDefEqProofs; exact ⟨rfl, hx.2⟩
    · have o3 := o1.resolve_left o2
      simp -implicitDefEqProofs [S113_4, S113_5, q.c.rd, doCells, o3]
      refine W_ob2i hpl fun r H1 hx => ?_
      simp -implicitDefEqProofs; exact ⟨rfl, hx.2⟩
 · rw [if_neg o1] at e
   have n1 : ¬ (i.op ≤ 19) := fun h => o1 (.inl h)
   have n2 : ¬ (i.op = 43) := fun h => o1 (.inr h)
   by_cases o20 : i.op = 20
   · rw [if_pos o20] at e
     split at e
     · rename_i c1
       split at e
       · rename_i u' hu
         split at e
         · rename_i c2
           cases e
           obtain ⟨cnt, hc⟩ := Int.eq_ofNat_of_zero_le c2.1
           have hct : u'.params.toNat = cnt := by omega
           rw [hct]
           refine W_of (U113 pr (F _ (by decide)) (n + 5) _ _) ?_
           simp -implicitDefEqProofs [S113_4, S113_5, q.c.rd, doCells, o20]
           refine W_ob2i (doing_calls_call F (n + 1) q o20 c1.2.1 c1.1 hu c1.2.2 hc ⟨by rw [hc, c2.2.1]; omega, by omega, c2.2.2.2⟩) fun r H1 hx => ?_
           simp -implicitDefEqProofs; exact ⟨rfl, hx.2⟩
         · cases e
       · cases e
     · cases e
   · rw [if_neg o20] at e
     by_cases o22 : i.op = 22
     · rw [if_pos o22] at e
       have key : (∀ H1, Nu H H1 → W (VE pr (n + 4) n266 [.ptr d 0] H1) fun r H' => Ex B Z m L H1 (.tup []) s1 r H') → W (VE pr (n + 6) n113 [.ptr d 0] H) fun r H' => Ex B Z m L H (.tup []) s1 r H' := fun hbk => by
        refine W_of (U113 pr (F _ (by decide)) (n + 5) _ _) ?_
        simp -implicitDefEqProofs [S113_4, S113_5, q.c.rd, doCells, o22]
        refine W_ob2i (Q0 := fun r H' => Ex B Z m L H (.tup []) s1 r H') (W_of (U173 pr (F _ (by decide)) (n + 4) _ _) ?_) fun r H1 hx => ?_
        · have r3 := q.c.rds 3 5 (by simp -implicitDefEqProofs [doCells])
          simp only [doCells, List.drop_succ_cons, List.drop_zero, List.take_succ_cons, List.take_zero] at r3
          simp -implicitDefEqProofs [S173_0, r3, -stK_int]
          refine W_var q.h.wf (x := .agg [I i.op, I i.a, I i.b, I i.c, I i.d]) (by rfl) (by rfl) (by rfl) fun H1 u1 n1 c1 => ?_
          simp only [cells_agg] at c1
          simp -implicitDefEqProofs [c1.rd, o22]
          refine W_pC (hbk H1 u1) fun r H2 hx => ?_
          simp -implicitDefEqProofs; exact ⟨rfl, (Ex.next u1.go hx).2⟩
        · simp -implicitDefEqProofs; exact ⟨rfl, hx.2⟩
       cases k with
       | zero =>
        simp only at e
        cases e
        exact key fun H1 u1 => doing_exit F n (q.nu u1)
       | succ j =>
        simp only at e
        split at e
        · rename_i f2 hf2
          split at e
          · rename_i i2 hi2
            split at e
            · rename_i c4
              cases e
              exact key fun H1 u1 => doing_back F n (q.nu u1) hf2 hi2 c4.1 c4.2
            · cases e
          · cases e
        · cases e
     · rw [if_neg o22] at e
       split at e
       · rename_i o42
         split at e
         · rename_i hl
           cases e
           exact doing_print F n q o42 hp hp2 hl
         · cases e
       · cases e
end
end
noncomputable section
set_option maxRecDepth 100000
section
variable {pr : Prims} {B : Bx} {Z : Nat → Prop} {m : Mo} {L L' : Lay} {s s' : St} {H H' : AHeap} {fs : List Fr} {k : Nat} {f : Fr} {v : AV} {d : Nat} {i : Ins} {u : Fu} {w : FV} {pc : Int}
structure Dull (m : Mo) (s : St) : Prop where
 maps : ∀ u ∈ m.funcs, ∀ x ∈ u.maps, x = 0
 globals : s.globals = []
 spans : ∀ p ∈ s.ar.spans, p = ⟨-1, 0, 0⟩
 few : s.ar.spans.length ≤ 512
 uns : ∀ b ∈ s.uns, b = false
 q : s.q = []
theorem met_Globals : metK Tryz.prog y66 "Globals" = some n510 := by kernel_rfl
theorem met_Stacks : metK Tryz.prog y66 "Stacks" = some n512 := by kernel_rfl
theorem met_Stack : metK Tryz.prog y66 "Stack" = some n511 := by kernel_rfl
theorem vm_Globals (F : Free pr) (n : Nat) (h : M B Z m L s H) (y : Dull m s) : VE pr (n + 1) n510 [.ptr B.v 0] H = some (.nilsl, H) := by
 refine (U510 pr (F _ (by decide)) n _ _).trans ?_
 have hsn := h.vg.num
 simp -implicitDefEqProofs [y.globals] at hsn
 generalize e : (1000000 : Nat) = mm
 obtain ⟨mm, rfl⟩ : ∃ k, mm = k + 1 := ⟨mm - 1, by omega⟩
 simp -implicitDefEqProofs [S510_3, h.v.rd, h.vg.len, ← hsn]
 rw [L510_0]
 simp -implicitDefEqProofs
theorem vm_Stacks (F : Free pr) (SP : Srt pr) (n : Nat) (h : M B Z m L s H) (hg : s.gs = some fs) : W (VE pr (n + 3) n512 [.ptr B.v 0] H) fun r H' => New1 H 1 r H' := by
 refine W_of (U512 pr (F _ (by decide)) (n + 2) _ _) ?_
 simp -implicitDefEqProofs [S512_0, h.v.rd]
 refine W_ob2i (sched_IDs F SP n h hg) fun r H1 hx => ?_
 simpa using hx
theorem cycle_Black (F : Free pr) (n : Nat) (h : M B Z m L s H) : VE pr (n + 1) n247 [.ptr B.c 0, I 1] H = some (.bool s.black, H) := by
 refine (U247 pr (F _ (by decide)) n _ _ _).trans ?_
 obtain ⟨es, ck, e1, e2⟩ := h.bl
 have : aLook .int (.bool false) false H (.map B.bl) (I 1) = some (.bool s.black) := by
  cases hb : s.black with
  | false =>
   rw [hb] at e2
   obtain rfl := (e2 : es = [])
   simp -implicitDefEqProofs [aLook, keyOk, e1, aFind]
  | true =>
   rw [hb] at e2
   obtain ⟨a, rfl⟩ := (e2 : ∃ k, es = _)
   simp -implicitDefEqProofs [aLook, keyOk, e1, aFind, eqv, eqv1, kindEq, ieq_eq]
 simp -implicitDefEqProofs [S247_0, h.c.rd, this]
theorem cycle_shades (F : Free pr) (n : Nat) (h : M B Z m L s H) : VE pr (n + 1) n249 [.ptr B.c 0] H = some (.bool (decide (s.phase = 1) || decide (s.phase = 2)), H) := by
 refine (U249 pr (F _ (by decide)) n _ _).trans ?_
 by_cases a : s.phase = 1
 · simp -implicitDefEqProofs [S249_0, S249_1, h.c.rd, a]
 · by_cases b : s.phase = 2 <;> simp -implicitDefEqProofs [S249_0, S249_1, h.c.rd, a, b]
theorem cycle_shade0 (F : Free pr) (n : Nat) (H : AHeap) (c : Nat) : VE pr (n + 1) n169 [.ptr c 0, .nilsl] H = some (.tup [], H) := by
 refine (U169 pr (F _ (by decide)) n _ _ _).trans ?_
 generalize e : (1000000 : Nat) = mm
 obtain ⟨mm, rfl⟩ : ∃ k, mm = k + 1 := ⟨mm - 1, by omega⟩
 simp -implicitDefEqProofs [S169_1]
 rw [L169_0]
 simp -implicitDefEqProofs
theorem cycle_next (F : Free pr) (SP : Srt pr) (n : Nat) (h : M B Z m L s H) (hg : s.gs = some fs) :
 W (VE pr (n + 5) n162 [.ptr B.c 0, .iface y66 (.ptr B.v 0)] H) fun r H' => r = .tup (if s.black then [I 0, .bool false] else [I 1, .bool true]) ∧ Nu H H' := by
 refine W_of (U162 pr (F _ (by decide)) (n + 4) _ _ _) ?_
 simp only [S162_0, pI, met_Stacks]
 refine W_pC (vm_Stacks F SP (n + 1) h hg) fun r H1 hx => ?_
 obtain ⟨b, rfl, b1, b2, u1, c1⟩ := hx
 refine W_pC (clone_int1 F (n + 3) u1.wf c1 (fun c e => by cases e)) fun r H2 hx => ?_
 obtain ⟨b', rfl, b3, b4, u2, c2⟩ := hx
 have u12 := u1.trans u2
 have h2 := h.nu u12
 have hB : ∀ (c : Kv) (Q : AV → AHeap → Prop), (∀ H3, Nu H2 H3 → W (c (.bool s.black) H3) Q) → W (pV (VE pr (n + 2)) (.fn n247 [.ptr B.c 0] []) [I 1] H2 c) Q := fun c Q hc => by
  show W (pC (VE pr (n + 2)) n247 [.ptr B.c 0, I 1] H2 c) Q
  simp only [pC, cycle_Black F (n + 1) h2, ob2_some]
  exact hc H2 (.refl u12.wf)
 cases hb : s.black with
 | true =>
  rw [hb] at hB
  refine W_pC (delete_one F (n + 2) u12.wf c2 hB) fun r H3 hx => ?_
  obtain ⟨rfl, H4, u4, t4⟩ := hx
  simp -implicitDefEqProofs
  exact (u12.trans u4).tu t4 (by have := u1.n; omega)
 | false =>
  rw [hb] at hB
  refine W_pC (delete_none F (n + 2) u12.wf c2 none hB) fun r H3 hx => ?_
  obtain ⟨rfl, u3⟩ := hx
  have c3 := c2.nu u12.wf u3
  simp -implicitDefEqProofs
  refine W_pC (Q0 := fun r H' => r = I 1 ∧ H' = H3) (W_of (U248 pr (F _ (by decide)) (n + 3) _ _) ?_) ?_
  · generalize e : (1000000 : Nat) = mm
    obtain ⟨mm, rfl⟩ : ∃ k, mm = k + 1 := ⟨mm - 1, by omega⟩
    have h0 : ∀ c : Kv, pIa 1 (.sl b' 0 1 none) (.int .i64 (0 : Int)) H3 c = c (.ptr b' 0) H3 := fun c => pIa_at (n := 0) (by omega)
    simp -implicitDefEqProofs [S248_1, S248_2, h0, c3.rd]
    rw [L248_0]
    simp -implicitDefEqProofs
  · rintro _ _ ⟨rfl, rfl⟩
    simp -implicitDefEqProofs
    exact u12.trans u3
theorem shr_zero (_x : Int) (n : Nat) : aBin .shr (.int .u64 0) (.int .u64 (n : Int)) = some (.int .u64 0) := by
 rw [aBin_shr]; simp
theorem roots_in (call : CallFn) (q0 : AV → AV → AV → AV → AV → AHeap → R) {t3 t5 t14 t15 t16 : AV} {a0 : Nat} {vm vs : AV} {l : List Int} {ms : List Nat} {pc : Int} {Q : AV → AHeap → Prop}
 (hm : SV H vm 1 (ms.map mapV)) (h0 : 0 ≤ pc) (hp : pc < ms.length) (hz : ∀ x ∈ ms, x = 0) (hs : SV H vs 1 (l.map I)) (hl : l.length ≤ 1000) (hc : H.rd a0 1 = some (I pc))
 (k : W (S513_1 call q0 t3 t5 t14 t15 t16 H) Q) :
 ∀ (r j mm : Nat) (x : Int), x = (j : Int) → j + r = l.length → r < mm → W (S513_2 call q0 mm t3 t5 (.ptr a0 0) vm t14 t15 t16 vs (I (l.length : Int)) (I x) H) Q := by
 intro r
 have hms := hm.num
 have hss := hs.num
 simp at hms hss
 induction r with
 | zero =>
  intro j mm x hx hj hm
  obtain ⟨mm, rfl⟩ : ∃ k, mm = k + 1 := ⟨mm - 1, by omega⟩
  subst hx
  rw [L513_2]
  have : j = l.length := by omega
  simp -implicitDefEqProofs [this, k]
 | succ r ih =>
  intro j mm x hx hj hmm
  obtain ⟨mm, rfl⟩ : ∃ k, mm = k + 1 := ⟨mm - 1, by omega⟩
  subst hx
  rw [L513_2]
  have h1 : (j : Int) < (l.length : Int) := by omega
  have r1 := hs.rd (j := j) (by simp; omega)
  have r2 := hm.rd (j := pc.toNat) (by simp; omega)
  have hj2 : j < l.length := by omega
  have hp2 : pc.toNat < ms.length := by omega
  have hv : ms[pc.toNat] = 0 := hz _ (List.getElem_mem hp2)
  simp -implicitDefEqProofs [hj2] at r1
  simp -implicitDefEqProofs [hp2, hv, mapV] at r2
  have hsh := shr_zero 0 j
  simp -implicitDefEqProofs [h1, hs.ia (k := .i64) (x := (j : Int)) (by omega) (by omega), r1, hc, hm.ia (k := .i64) (x := pc) h0 (by omega), r2, wrapU (n := (j : Int)) (by omega) (by omega), hsh, S513_4, S513_3]
  exact ih (j + 1) mm _ (by rw [wrap64 (by omega) (by omega)]; omega) (by omega) (by omega)
theorem frame_Roots (F : Free pr) (n : Nat) (h : M B Z m L s H) (y : Dull m s) (hg : s.gs = some fs) (hk : fs.length ≤ 256) (hok : ∀ f ∈ fs, (∃ u, m.funcs[f.fn.toNat]? = some u ∧ 0 ≤ f.fn ∧ 0 ≤ f.pc ∧ f.pc < u.maps.length) ∧ f.slots.length ≤ 1000) :
 W (VE pr (n + 1) n513 [.ptr B.st 0, .agg B.md] H) fun r H' => r = .nilsl ∧ Nu H H' := by
 refine W_of (U513 pr (F _ (by decide)) n _ _ _) ?_
 unfold S513_6
 refine W_box h.wf fun H1 u1 n1 c1 => ?_
 have h1 := h.nu u1
 obtain ⟨_, k1, k2, k3, k4, _⟩ := h1.fr hg
 have hlen := zipcells_len (f := frCells) (K := 3) (fun _ => rfl) k3
 have hsn := k2.num
 have hn : sn L.vf = fs.length := by rw [hlen] at hsn; omega
 simp -implicitDefEqProofs [k1.rd, k2.len, hn]
 have key : ∀ (r j mm : Nat) (x : Int) (H2 : AHeap), x = (j : Int) → j + r = fs.length → r < mm → Nu H1 H2 →
  W (S513_0 (VE pr n) mm (.ptr H.n 0) .nilsl L.vf (I (fs.length : Int)) (I x) H2) fun r H' => r = .nilsl ∧ Nu H H' := by
  intro r
  induction r with
  | zero =>
   intro j mm x H2 hx hj hm u2
   obtain ⟨mm, rfl⟩ : ∃ k, mm = k + 1 := ⟨mm - 1, by omega⟩
   subst hx
   rw [L513_0]
   have : j = fs.length := by omega
   simp -implicitDefEqProofs [this]
   exact u1.trans u2
  | succ r ih =>
   intro j mm x H2 hx hj hm u2
   obtain ⟨mm, rfl⟩ : ∃ k, mm = k + 1 := ⟨mm - 1, by omega⟩
   subst hx
   rw [L513_0]
   have hj1 : (j : Int) < (fs.length : Int) := by omega
   have hj2 : j < fs.length := by omega
   have hj3 : j < L.sl.length := by omega
   have h2 := h1.nu u2
   obtain ⟨_, _, k2, k3, k4, _⟩ := h2.fr hg
   have hz : (fs.zip L.sl)[j]? = some (fs[j], L.sl[j]) := by rw [List.getElem?_zip_eq_some]; exact ⟨List.getElem?_eq_getElem hj2, List.getElem?_eq_getElem hj3⟩
   have hrs : H2.rds (sb L.vf) (so L.vf + j * 3) 3 = some (frCells (fs[j], L.sl[j])) := by
    rw [k2.rds (by rw [hlen]; omega) (by omega), flatK_cut (f := frCells) (k := 3) (fun _ => rfl) _ _ _ hz]
   obtain ⟨⟨fu, e1, e2, e3, e4⟩, e5⟩ := hok fs[j] (List.getElem_mem hj2)
   have hs4 := k4 j _ hz
   have hvsc : isScal L.sl[j] = true := by rcases hs4 with ⟨e, _⟩ | ⟨b, o, n, q, cs, e, _⟩ <;> rw [show L.sl[j] = _ from e] <;> rfl
   simp -implicitDefEqProofs [hj1, k2.ia (k := .i64) (x := (j : Int)) (by omega) (by omega), hrs, -stK_int]
   refine W_var u2.wf (x := .agg (frCells (fs[j], L.sl[j]))) (by simp -implicitDefEqProofs [frCells, hvsc]) (by rfl) (by rfl) fun H3 u3 n3 c3 => ?_
   have h3 := h2.nu u3
   have c1' := (c1.nu u1.wf (u2.trans u3))
   obtain ⟨w, q⟩ := h3.md.fn e2 e1
   simp -implicitDefEqProofs [frCells] at c3
   have g2 : ¬ ((m.funcs.length : Int) ≤ fs[j].fn) := by have := q.lt; omega
   have g3 : ¬ (fs[j].pc < 0) := by omega
   have g4 : ¬ ((fu.maps.length : Int) ≤ fs[j].pc) := by omega
   have hs5 : SV H3 L.sl[j] 1 (fs[j].slots.map I) := hs4.same fun b e => u3.old b (hs4.lt u2.wf e)
   have hs6 := hs5.num
   simp at hs6
   simp -implicitDefEqProofs [c3.rd, c1'.rd, Bx.md, h3.md.mf.1.len, q.n, g2, q.ia, q.r6, g3, q.m.len, q.mn, g4, S513_5, hs5.len, ← hs6]
   refine roots_in (VE pr n) _ q.m e3 e4 (y.maps fu (List.mem_of_getElem? e1)) hs5 e5 (by rw [c3.rd]; rfl) ?_ fs[j].slots.length 0 1000000 0 rfl (by omega) (by omega)
   simp -implicitDefEqProofs [S513_1]
   exact ih (j + 1) mm _ H3 (by rw [wrap64 (by omega) (by omega)]; omega) (by omega) (by omega) (u2.trans u3)
 exact key fs.length 0 1000000 0 H1 rfl (by omega) (by omega) (.refl u1.wf)
end
end
noncomputable section
set_option maxRecDepth 100000
section
variable {pr : Prims} {B : Bx} {Z : Nat → Prop} {m : Mo} {L L' : Lay} {s s' : St} {H H' : AHeap} {fs : List Fr} {k : Nat} {f : Fr} {v : AV} {d : Nat} {i : Ins} {u : Fu} {w : FV} {pc : Int}
def MapOK (m : Mo) (fs : List Fr) : Prop := ∀ f ∈ fs, (∃ u, m.funcs[f.fn.toNat]? = some u ∧ 0 ≤ f.fn ∧ 0 ≤ f.pc ∧ f.pc < u.maps.length) ∧ f.slots.length ≤ 1000
theorem vm_Stack (F : Free pr) (n : Nat) (h : M B Z m L s H) (y : Dull m s) (hg : s.gs = some fs) (hk : fs.length ≤ 256) (hok : MapOK m fs) :
 W (VE pr (n + 2) n511 [.ptr B.v 0, I 1] H) fun r H' => r = .nilsl ∧ Nu H H' := by
 refine W_of (U511 pr (F _ (by decide)) (n + 1) _ _ _) ?_
 obtain ⟨⟨a, ck, e1, e2⟩, _⟩ := h.fr hg
 have hst : VE pr (n + 1) n108 [.ptr B.sd 0, I 1] H = some (.ptr B.st 0, H) := by
  refine (U108 pr (F _ (by decide)) n _ _ _).trans ?_
  simp -implicitDefEqProofs [S108_0, h.sd.rd, look_sm e1]
 have r6 := h.v.rds 0 6 (by simp)
 simp at r6
 simp -implicitDefEqProofs [S511_0, h.v.rd, pC, hst, r6]
 refine W_ob2i (frame_Roots F n h y hg hk hok) fun r H1 hx => ?_
 simpa using hx
theorem slices_Contains1 (F : Free pr) (n : Nat) {b : Nat} {q : Option Nat} (c : Cs H b false 1 [I 1]) : VE pr (n + 2) n117 [.sl b 0 1 q, I 1] H = some (.bool true, H) := by
 refine (U117 pr (F _ (by decide)) (n + 1) _ _ _).trans ?_
 have : VE pr (n + 1) n185 [.sl b 0 1 q, I 1] H = some (I 0, H) := by
  refine (U185 pr (F _ (by decide)) n _ _ _).trans ?_
  generalize e : (1000000 : Nat) = mm
  obtain ⟨mm, rfl⟩ : ∃ k, mm = k + 1 := ⟨mm - 1, by omega⟩
  have h0 : ∀ c : Kv, pIa 1 (.sl b 0 1 q) (.int .i64 (0 : Int)) H c = c (.ptr b 0) H := fun c => pIa_at (n := 0) (by omega)
  simp -implicitDefEqProofs [S185_1]
  rw [L185_0]
  simp -implicitDefEqProofs [h0, c.rd]
 simp -implicitDefEqProofs [S117_0, pC, this]
theorem cycle_Scan (F : Free pr) (SP : Srt pr) (n : Nat) (h : M B Z m L s H) (y : Dull m s) (hg : s.gs = some fs) (hk : fs.length ≤ 256) (hok : MapOK m fs) (hp : s.phase = 1) (hb : s.black = false) :
 W (VE pr (n + 4) n163 [.ptr B.c 0, .iface y66 (.ptr B.v 0), I 1] H) fun r H' => Ex B Z m L H (.bool true) { s with black := true } r H' := by
 refine W_of (U163 pr (F _ (by decide)) (n + 3) _ _ _ _) ?_
 obtain ⟨s', hs'⟩ : ∃ s', s' = ({ s with black := true } : St) := ⟨_, rfl⟩
 rw [← hs']
 obtain ⟨es, ck, e1, e2⟩ := h.bl
 rw [hb] at e2
 obtain rfl := (e2 : es = [])
 have e3 : aLook .int (.bool false) false H (.map B.bl) (I 1) = some (.bool false) := by simp -implicitDefEqProofs [aLook, keyOk, e1, aFind]
 simp -implicitDefEqProofs [S163_0, S163_1, S163_2, pC, cycle_shades F (n + 2) h, hp, h.c.rd, e3, pI, met_Stacks, met_Stack]
 refine W_ob2i (vm_Stacks F SP n h hg) fun r H1 hx => ?_
 obtain ⟨b, rfl, b1, b2, u1, c1⟩ := hx
 have h1 := h.nu u1
 simp -implicitDefEqProofs [slices_Contains1 F (n + 1) c1]
 refine W_ob2i (vm_Stack F (n + 1) h1 y hg hk hok) fun r H2 hx => ?_
 obtain ⟨rfl, u2⟩ := hx
 have h2 := h1.nu u2
 obtain ⟨es, ck2, e4, e5⟩ := h2.bl
 rw [hb] at e5
 obtain rfl := (e5 : es = [])
 have e6 : aMapUp .int H2 (.map B.bl) (I 1) (.bool true) = some (H2.put B.bl (.map [(I 1, .bool true, ck2)] (Nat.succ ck2))) := by simp -implicitDefEqProofs [aMapUp, keyOk, e4, aFind]
 simp -implicitDefEqProofs [cycle_shade0 F (n + 2), h2.c.rd, e6, unitW]
 have t := AHeap.put_tu (o' := .map [(I 1, .bool true, ck2)] (Nat.succ ck2)) e4
 subst hs'
 exact ⟨rfl, L, (u1.trans u2).go.trans (t.go .bl rfl), h2.turn .bl rfl t (fun g hg => by cases g <;> simp_all [agS, grp]) ⟨h2.cs .bl .c (by decide) rfl rfl t h2.c, _, _, by rw [put_get e4, if_pos rfl], ⟨_, rfl⟩⟩⟩
theorem mark_Step0 (F : Free pr) (n : Nat) (h : M B Z m L s H) (y : Dull m s) : VE pr (n + 2) n164 [.ptr B.mr 0] H = some (.bool false, H) := by
 refine (U164 pr (F _ (by decide)) (n + 1) _ _).trans ?_
 have hsn := h.vq.num
 simp -implicitDefEqProofs [y.q] at hsn
 have : VE pr (n + 1) n250 [.ptr B.q 0] H = some (.tup [I 0, .bool false], H) := by
  refine (U250 pr (F _ (by decide)) n _ _).trans ?_
  simp -implicitDefEqProofs [S250_0, h.q.rd, h.vq.len, ← hsn]
 simp -implicitDefEqProofs [S164_1, h.mr.rd, pC, this]
theorem Dull.cls (y : Dull m s) (x : Int) : s.ar.cls x = -1 := by
 unfold Arn.cls Arn.at
 split
 · rename_i p e
   split at e
   · rw [y.spans p (List.mem_of_getElem? e)]
   · cases e
 · rfl
theorem M.same (h : M B Z m L s H) (_T : Tu B.a H H) : M B Z m L s H := h
theorem alloc_SweepOne0 (F : Free pr) (n : Nat) (h : M B Z m L s H) (y : Dull m s) : VE pr (n + 1) n166 [.ptr B.l 0] H = some (.bool false, H) := by
 refine (U166 pr (F _ (by decide)) n _ _).trans ?_
 have hsn := h.vu.num
 simp at hsn
 have hul := h.ul
 have hfew := y.few
 simp -implicitDefEqProofs [S166_1, h.l.rd, h.vu.len, ← hsn]
 have key : ∀ (r j mm : Nat) (x : Int), x = (j : Int) → j + r = s.uns.length → r < mm → S166_0 (VE pr n) mm (.ptr B.l 0) B.vu (I (s.uns.length : Int)) (I x) H = some (.bool false, H) := by
  intro r
  induction r with
  | zero =>
   intro j mm x hx hj hm
   obtain ⟨mm, rfl⟩ : ∃ k, mm = k + 1 := ⟨mm - 1, by omega⟩
   subst hx
   rw [L166_0]
   have : j = s.uns.length := by omega
   simp -implicitDefEqProofs [this]
  | succ r ih =>
   intro j mm x hx hj hm
   obtain ⟨mm, rfl⟩ : ∃ k, mm = k + 1 := ⟨mm - 1, by omega⟩
   subst hx
   rw [L166_0]
   have h1 : (j : Int) < (s.uns.length : Int) := by omega
   have hj2 : j < s.uns.length := by omega
   have r1 := h.vu.rd (j := j) (by simp; omega)
   have hv : s.uns[j] = false := y.uns _ (List.getElem_mem hj2)
   simp -implicitDefEqProofs [hj2, hv] at r1
   simp -implicitDefEqProofs [h1, h.vu.ia (k := .i64) (x := (j : Int)) (by omega) (by omega), r1]
   exact ih (j + 1) mm _ (by rw [wrap64 (by omega) (by omega)]; omega) (by omega) (by omega)
 exact key s.uns.length 0 1000000 0 rfl (by omega) (by omega)
theorem bits_Ones0 (F : Free pr) (n : Nat) (H : AHeap) : VE pr (n + 2) n255 [.int .u64 0] H = some (I 0, H) := by
 refine (U255 pr (F _ (by decide)) (n + 1) _ _).trans ?_
 have : VE pr (n + 1) n365 [.int .u64 0] H = some (I 0, H) :=
  (U365 pr (F _ (by decide)) n _ _).trans (by kernel_rfl)
 simp -implicitDefEqProofs [S255_0, pC, this]
theorem alloc_Used0 (F : Free pr) (n : Nat) (h : M B Z m L s H) (y : Dull m s) : VE pr (n + 4) n167 [.ptr B.l 0] H = some (I 0, H) := by
 refine (U167 pr (F _ (by decide)) (n + 3) _ _).trans ?_
 have hsn := h.vu.num
 simp at hsn
 have hul := h.ul
 have hfew := y.few
 have ht : ∀ x, VE pr (n + 3) n256 [.ptr B.a 0, I x] H = some (.int .u64 0, H) := fun x => by
  rw [arena_Taken F n h.ar]
  cases e : s.ar.at x with
  | none => rfl
  | some p =>
   unfold Arn.at at e
   split at e
   · rw [y.spans p (List.mem_of_getElem? e)]; rfl
   · cases e
 have hw : VE pr (n + 3) n257 [I (-1)] H = some (I 0, H) := by
  rw [geom_Words F (n + 2)]; rfl
 simp -implicitDefEqProofs [S167_1, h.l.rd, h.vu.len, ← hsn]
 have key : ∀ (r j mm : Nat) (x : Int), x = (j : Int) → j + r = s.uns.length → r < mm → S167_0 (VE pr (n + 3)) mm (.ptr B.l 0) (I 0) (I (s.uns.length : Int)) (I x) H = some (I 0, H) := by
  intro r
  induction r with
  | zero =>
   intro j mm x hx hj hm
   obtain ⟨mm, rfl⟩ : ∃ k, mm = k + 1 := ⟨mm - 1, by omega⟩
   subst hx
   rw [L167_0]
   have : j = s.uns.length := by omega
   simp -implicitDefEqProofs [this]
  | succ r ih =>
   intro j mm x hx hj hm
   obtain ⟨mm, rfl⟩ : ∃ k, mm = k + 1 := ⟨mm - 1, by omega⟩
   subst hx
   rw [L167_0]
   have h1 : (j : Int) < (s.uns.length : Int) := by omega
   simp -implicitDefEqProofs [h1, h.l.rd, pC, ht, bits_Ones0 F (n + 1), arena_Class F (n + 1) h.ar, y.cls, hw, wrap64 (n := 0) (by omega) (by omega)]
   exact ih (j + 1) mm _ (by rw [wrap64 (by omega) (by omega)]; omega) (by omega) (by omega)
 exact key s.uns.length 0 1000000 0 rfl (by omega) (by omega)
theorem alloc_Stale0 (F : Free pr) (n : Nat) (h : M B Z m L s H) (y : Dull m s) : W (VE pr (n + 3) n165 [.ptr B.l 0] H) fun r H' => Ex B Z m L H (.tup []) s r H' := by
 refine W_of (U165 pr (F _ (by decide)) (n + 2) _ _) ?_
 have hsn := h.vu.num
 simp at hsn
 have hul := h.ul
 have hfew := y.few
 simp -implicitDefEqProofs [S165_1, h.l.rd, h.vu.len, ← hsn]
 have key : ∀ (r j mm : Nat) (x : Int) (H1 : AHeap), x = (j : Int) → j + r = s.uns.length → r < mm → M B Z m L s H1 → Go B L H L H1 → W (S165_0 (VE pr (n + 2)) mm (.ptr B.l 0) (I (s.uns.length : Int)) (I x) H1) fun r H' => Ex B Z m L H (.tup []) s r H' := by
  intro r
  induction r with
  | zero =>
   intro j mm x H1 hx hj hm h1 g1
   obtain ⟨mm, rfl⟩ : ∃ k, mm = k + 1 := ⟨mm - 1, by omega⟩
   subst hx
   rw [L165_0]
   have : j = s.uns.length := by omega
   simp -implicitDefEqProofs [this]
   exact ⟨rfl, L, g1, h1⟩
  | succ r ih =>
   intro j mm x H1 hx hj hm h1 g1
   obtain ⟨mm, rfl⟩ : ∃ k, mm = k + 1 := ⟨mm - 1, by omega⟩
   subst hx
   rw [L165_0]
   have hj1 : (j : Int) < (s.uns.length : Int) := by omega
   have hj2 : j < s.uns.length := by omega
   have hv : s.uns[j] = false := y.uns _ (List.getElem_mem hj2)
   simp -implicitDefEqProofs [hj1, h1.l.rd, pC, arena_Class F n h1.ar, y.cls, h.vu.beq, h1.vu.ia (k := .i64) (x := (j : Int)) (by omega) (by omega), -stK_bool]
   refine h1.vu.st (x := .bool false) (sz := 1) rfl rfl (by simp; omega) (by omega) fun H2 t2 c2 => ?_
   have hb : pl B L .vu = some (sb B.vu) := h1.vu.blk (by omega)
   have e : (s.uns.map AV.bool).take j ++ ((AV.bool false).cells ++ (s.uns.map AV.bool).drop (j + 1)) = s.uns.map .bool := by
    show (s.uns.map AV.bool).take j ++ ([AV.bool false] ++ (s.uns.map AV.bool).drop (j + 1)) = _
    rw [set_cut (by simpa using hj2)]
    exact set_same (by simp -implicitDefEqProofs [hj2, hv])
   rw [e] at c2
   have h2 : M B Z m L s H2 := h1.turn .vu hb t2 (fun g hg => by cases g <;> simp -implicitDefEqProofs [agS]) ⟨h1.cs .vu .l (by decide) hb rfl t2 h1.l, c2, h1.ul⟩
   exact ih (j + 1) mm _ H2 (by rw [wrap64 (by omega) (by omega)]; omega) (by omega) (by omega) h2 (g1.trans (t2.go .vu hb))
 exact key s.uns.length 0 1000000 0 H rfl (by omega) (by omega) h .refl
theorem arena_Clear0 (F : Free pr) (n : Nat) (h : M B Z m L s H) (y : Dull m s) : W (VE pr (n + 1) n168 [.ptr B.a 0] H) fun r H' => Ex B Z m L H (.tup []) s r H' := by
 refine W_of (U168 pr (F _ (by decide)) n _ _) ?_
 have hfew := y.few
 obtain ⟨q, h1⟩ := h.ar.r1
 simp -implicitDefEqProofs [S168_1, h1]
 have key : ∀ (r j mm : Nat) (x : Int) (H1 : AHeap), x = (j : Int) → j + r = s.ar.spans.length → r < mm → M B Z m L s H1 → Go B L H L H1 → W (S168_0 (VE pr n) mm (.ptr B.a 0) (I (s.ar.spans.length : Int)) (I x) H1) fun r H' => Ex B Z m L H (.tup []) s r H' := by
  intro r
  induction r with
  | zero =>
   intro j mm x H1 hx hj hm h1 g1
   obtain ⟨mm, rfl⟩ : ∃ k, mm = k + 1 := ⟨mm - 1, by omega⟩
   subst hx
   rw [L168_0]
   have : j = s.ar.spans.length := by omega
   simp -implicitDefEqProofs [this]
   exact ⟨rfl, L, g1, h1⟩
  | succ r ih =>
   intro j mm x H1 hx hj hm h1 g1
   obtain ⟨mm, rfl⟩ : ∃ k, mm = k + 1 := ⟨mm - 1, by omega⟩
   subst hx
   rw [L168_0]
   have hj1 : (j : Int) < (s.ar.spans.length : Int) := by omega
   have hj2 : j < s.ar.spans.length := by omega
   obtain ⟨q, hr1⟩ := h1.ar.r1
   have hg : s.ar.spans[j]? = some s.ar.spans[j] := List.getElem?_eq_getElem hj2
   have hv : s.ar.spans[j] = ⟨-1, 0, 0⟩ := y.spans _ (List.getElem_mem hj2)
   simp -implicitDefEqProofs [hj1, hr1, pIa_at hj2, -stK_int]
   refine W_st (x := .int .u64 0) h1.ar.spans rfl rfl (by rw [flatK_len Span.len]; omega) fun H2 t2 c2 => ?_
   have hn := h1.ar.turn (p' := s.ar.spans[j]) hg (show 2 < 3 by omega) (by rw [hv]; rfl) (h1.ar.ok _ (List.getElem_mem hj2)) t2 c2
   have e : ({ s.ar with spans := s.ar.spans.set j s.ar.spans[j] } : Arn) = s.ar := by
    rw [List.set_getElem_self]
   rw [e] at hn
   have h2 : M B Z m L s H2 := h1.turn .s rfl t2 (fun g hg => by cases g <;> simp -implicitDefEqProofs [agS]) hn
   exact ih (j + 1) mm _ H2 (by rw [wrap64 (by omega) (by omega)]; omega) (by omega) (by omega) h2 (g1.trans (t2.go .s rfl))
 exact key s.ar.spans.length 0 1000000 0 H rfl (by omega) (by omega) h .refl
def gcTo (s : St) : St :=
 if s.phase = 1 then (if s.black then { s with phase := 2 } else { s with black := true })
 else if s.phase = 2 then (if s.black then { s with phase := 3 } else { s with phase := 1 })
 else if s.phase = 3 then { s with phase := 0, done := IntKind.i64.wrap (s.done + 1), used := 64 }
 else { s with phase := 1, black := false }
theorem M.setC (h : M B Z m L s H) {s' : St} (t : Tu B.c H H') (c : Cs H' B.c false 0 [.ptr B.a 0, .ptr B.t 0, .ptr B.l 0, .ptr B.mr 0, I s'.phase, .map B.bl, I s'.done, I s'.used])
 (ag : ∀ g, g ≠ .c → agS s s' g) (hb : s'.black = s.black) : M B Z m L s' H' :=
 h.turn .c rfl t ag (by
  obtain ⟨es, ck, e1, e2⟩ := h.bl
  exact ⟨c, es, ck, (h.get .c .bl (by decide) rfl rfl t).trans e1, by rw [hb]; exact e2⟩)
theorem cycle_Step (F : Free pr) (SP : Srt pr) (n : Nat) (h : M B Z m L s H) (y : Dull m s) (hg : s.gs = some fs) (hk : fs.length ≤ 256) (hok : MapOK m fs) (hp : s.phase = 1 ∨ s.phase = 2 ∨ s.phase = 3) :
 W (VE pr (n + 6) n105 [.ptr B.c 0, .iface y66 (.ptr B.v 0)] H) fun r H' => Ex B Z m L H (.bool true) (gcTo s) r H' := by
 refine W_of (U105 pr (F _ (by decide)) (n + 5) _ _ _) ?_
 rcases hp with hp | hp | hp
 · simp -implicitDefEqProofs [S105_0, h.c.rd, hp, -stK_int]
   refine W_pC (cycle_next F SP n h hg) fun r H1 hx => ?_
   obtain ⟨rfl, u1⟩ := hx
   have h1 := h.nu u1
   cases hb : s.black with
   | false =>
    simp -implicitDefEqProofs
    refine W_pC (cycle_Scan F SP (n + 1) h1 y hg hk hok hp hb) fun r H2 hx => ?_
    simp -implicitDefEqProofs
    have := (Ex.next u1.go hx).2
    exact ⟨rfl, by simpa [gcTo, hp, hb] using this⟩
   | true =>
    simp -implicitDefEqProofs [-stK_int]
    refine W_st h1.c (x := I 2) rfl rfl (by simp) fun H2 t2 c2 => ?_
    simp at c2
    simp -implicitDefEqProofs
    exact ⟨rfl, L, u1.go.trans (t2.go .c rfl), h1.setC t2 (by simpa [gcTo, hp, hb] using c2) (fun g hg => by cases g <;> simp_all [agS, gcTo]) (by simp -implicitDefEqProofs [gcTo, hp, hb])⟩
 · simp -implicitDefEqProofs [S105_0, h.c.rd, hp, pC, mark_Step0 F (n + 3) h y, -stK_int]
   refine W_ob2i (cycle_next F SP n h hg) fun r H1 hx => ?_
   obtain ⟨rfl, u1⟩ := hx
   have h1 := h.nu u1
   cases hb : s.black with
   | false =>
    simp -implicitDefEqProofs [-stK_int]
    refine W_st h1.c (x := I 1) rfl rfl (by simp) fun H2 t2 c2 => ?_
    simp at c2
    simp -implicitDefEqProofs
    exact ⟨rfl, L, u1.go.trans (t2.go .c rfl), h1.setC t2 (by simpa [gcTo, hp, hb] using c2) (fun g hg => by cases g <;> simp_all [agS, gcTo]) (by simp -implicitDefEqProofs [gcTo, hp, hb])⟩
   | true =>
    simp -implicitDefEqProofs [-stK_int]
    refine W_st h1.c (x := I 3) rfl rfl (by simp) fun H2 t2 c2 => ?_
    simp at c2
    have h2 : M B Z m L (gcTo s) H2 := h1.setC t2 (by simpa [gcTo, hp, hb] using c2) (fun g hg => by cases g <;> simp_all [agS, gcTo]) (by simp -implicitDefEqProofs [gcTo, hp, hb])
    have y2 : Dull m (gcTo s) := by
     have : gcTo s = { s with phase := 3 } := by simp -implicitDefEqProofs [gcTo, hp, hb]
     rw [this]; exact ⟨y.maps, y.globals, y.spans, y.few, y.uns, y.q⟩
    simp -implicitDefEqProofs [h2.c.rd]
    refine W_ob2i (alloc_Stale0 F (n + 2) h2 y2) fun r H3 hx => ?_
    simp -implicitDefEqProofs
    exact ⟨rfl, (Ex.next (u1.go.trans (t2.go .c rfl)) hx).2⟩
 · simp -implicitDefEqProofs [S105_0, h.c.rd, hp, pC, alloc_SweepOne0 F (n + 4) h y, -stK_int]
   refine W_st h.c (x := I 0) rfl rfl (by simp) fun H2 t2 c2 => ?_
   simp at c2
   simp -implicitDefEqProofs [c2.rd, -stK_int]
   refine W_st c2 (x := I _) rfl rfl (by simp) fun H3 t3 c3 => ?_
   simp at c3
   have h3 : M B Z m L { s with phase := 0, done := IntKind.i64.wrap (s.done + 1) } H3 := by
    have h2 : M B Z m L { s with phase := 0 } H2 := h.setC t2 c2 (fun g hg => by cases g <;> simp_all [agS]) rfl
    exact h2.setC t3 c3 (fun g hg => by cases g <;> simp_all [agS]) rfl
   simp -implicitDefEqProofs [c3.rd, alloc_Used0 F (n + 1) h3 ⟨y.maps, y.globals, y.spans, y.few, y.uns, y.q⟩]
   have hmx : aMinMax true (I 0) (I 64) = some (I 64) := rfl
   simp -implicitDefEqProofs [hmx, -stK_int]
   refine W_st c3 (x := I 64) rfl rfl (by simp) fun H4 t4 c4 => ?_
   simp at c4
   simp -implicitDefEqProofs
   refine ⟨rfl, L, ((t2.go .c rfl).trans (t3.go .c rfl)).trans (t4.go .c rfl), ?_⟩
   have : gcTo s = { s with phase := 0, done := IntKind.i64.wrap (s.done + 1), used := 64 } := by simp -implicitDefEqProofs [gcTo, hp]
   rw [this]
   exact h3.setC t4 c4 (fun g hg => by cases g <;> simp_all [agS]) rfl
theorem cycle_Start (F : Free pr) (n : Nat) (h : M B Z m L s H) (y : Dull m s) (hp : s.phase = 0) :
 W (VE pr (n + 2) n106 [.ptr B.c 0, .iface y66 (.ptr B.v 0)] H) fun r H' => Ex B Z m L H (.bool true) (gcTo s) r H' := by
 refine W_of (U106 pr (F _ (by decide)) (n + 1) _ _ _) ?_
 simp -implicitDefEqProofs [S106_0, h.c.rd, hp, pI, met_Globals, -stK_int]
 refine W_pC (arena_Clear0 F n h y) fun r H1 hx => ?_
 obtain ⟨rfl, L1, g1, h1⟩ := hx
 refine W_st h1.c (x := I 1) rfl rfl (by simp) fun H2 t2 c2 => ?_
 simp at c2
 have h2 : M B Z m L1 { s with phase := 1 } H2 := h1.setC t2 c2 (fun g hg => by cases g <;> simp_all [agS]) rfl
 obtain ⟨es, ck, e1, e2⟩ := h2.bl
 have e3 : aClearM H2 (.map B.bl) = some (H2.put B.bl (.map [] ck)) := by simp -implicitDefEqProofs [aClearM, e1]
 have t3 := AHeap.put_tu (o' := .map [] ck) e1
 have hs : gcTo s = { s with phase := 1, black := false } := by simp -implicitDefEqProofs [gcTo, hp]
 have h3 : M B Z m L1 (gcTo s) (H2.put B.bl (.map [] ck)) := by
  rw [hs]
  exact h2.turn .bl rfl t3 (fun g hg => by cases g <;> simp_all [agS, grp]) ⟨h2.cs .bl .c (by decide) rfl rfl t3 h2.c, [], ck, by rw [put_get e1, if_pos rfl], rfl⟩
 have y3 : Dull m (gcTo s) := by rw [hs]; exact ⟨y.maps, y.globals, y.spans, y.few, y.uns, y.q⟩
 simp -implicitDefEqProofs [c2.rd, e3, unitW, pC, vm_Globals F n h3 y3, cycle_shade0 F n]
 exact ⟨rfl, L1, (g1.trans (t2.go .c rfl)).trans (t3.go .bl rfl), h3⟩
theorem vm_Collect (F : Free pr) (SP : Srt pr) (n : Nat) (h : M B Z m L s H) (y : Dull m s) (hg : s.gs = some fs) (hk : fs.length ≤ 256) (hok : MapOK m fs) (he : s.en = 0) (hp : s.phase = 0 ∨ s.phase = 1 ∨ s.phase = 2 ∨ s.phase = 3) :
 W (VE pr (n + 7) n54 [.ptr B.v 0] H) fun r H' => Ex B Z m L H (.bool true) (gcTo s) r H' := by
 refine W_of (U54 pr (F _ (by decide)) (n + 6) _ _) ?_
 simp -implicitDefEqProofs [S54_0, h.v.rd, he, pC, heap_Cycle F (n + 5) h]
 rcases hp with hp | hp
 · have : VE pr (n + 6) n105 [.ptr B.c 0, .iface y66 (.ptr B.v 0)] H = some (.bool false, H) := by
    refine (U105 pr (F _ (by decide)) (n + 5) _ _ _).trans ?_
    simp -implicitDefEqProofs [S105_0, h.c.rd, hp]
   simp -implicitDefEqProofs [this]
   refine W_ob2i (cycle_Start F (n + 4) h y hp) fun r H1 hx => ?_
   simp -implicitDefEqProofs
   exact ⟨rfl, hx.2⟩
 · refine W_ob2i (cycle_Step F SP n h y hg hk hok hp) fun r H1 hx => ?_
   obtain ⟨rfl, hx⟩ := hx
   simp -implicitDefEqProofs
   exact ⟨rfl, hx⟩
end
end
noncomputable section
set_option maxRecDepth 100000
section
variable {pr : Prims} {B : Bx} {Z : Nat → Prop} {m : Mo} {L L' : Lay} {s s' s1 : St} {H H' : AHeap} {fs : List Fr} {k : Nat} {f : Fr} {v : AV} {d : Nat} {i : Ins} {u : Fu} {w : FV} {pc : Int}
def actTo (s1 : St) (k : Nat) (f : Fr) (i : Ins) : St :=
 if isAct i.op ((k : Int) + 1) = true ∧ s1.en ≠ 2 ∧ s1.en ≠ 4 then { s1 with acts := s1.acts ++ [⟨1, i.op, f.fn, f.pc, -1, 0, -1⟩] } else s1
theorem vm_Do (F : Free pr) (SP : Srt pr) (n : Nat) (h : M B Z m L s H) (y : Rdy m s fs k f i) (hp2 : f.pc ≤ 1000000) (e : doTo m s fs k f i = some s1) (ha : s1.acts.length ≤ 100000)
 (nx : (actTo s1 k f i).en ≠ 0 ∨ ∃ fs' k' f' i', Rdy m (actTo s1 k f i) fs' k' f' i') :
 W (VE pr (n + 9) n55 [.ptr B.v 0, I 1, I 0] H) fun r H' => Ex B Z m L H (.bool true) (actTo s1 k f i) r H' := by
 refine W_of (U55 pr (F _ (by decide)) (n + 8) _ _ _ _) ?_
 obtain ⟨hf0, hp0, fu, e1, e2⟩ := Mo.ins_of y.hi
 simp only [S55_0, S55_1, S55_2, S55_3, S55_4]
 refine W_pC (vm_WaysOf F (n + 4) h y) fun r H1 hx => ?_
 obtain ⟨bw, rfl, bw1, bw2, u1, cw⟩ := hx
 have h1 := h.nu u1
 obtain ⟨⟨a, ck, s1', s2'⟩, _⟩ := h1.fr y.hg
 have hst : VE pr (n + 8) n108 [.ptr B.sd 0, I 1] H1 = some (.ptr B.st 0, H1) := by
  refine (U108 pr (F _ (by decide)) (n + 7) _ _ _).trans ?_
  simp -implicitDefEqProofs [S108_0, h1.sd.rd, look_sm s1']
 have r6 := h1.v.rds 0 6 (by simp)
 simp at r6
 simp -implicitDefEqProofs [h1.v.rd, pC, hst, r6, -stK_int]
 refine W_ob2i (frame_At F (n + 6) h1 y.hg y.hk y.hf y.hb y.hi) fun r H2 hx => ?_
 obtain ⟨rfl, u2⟩ := hx
 simp -implicitDefEqProofs [-stK_int]
 refine W_var u2.wf (x := .agg i.cells) (by rfl) (by rfl) (by rfl) fun H3 u3 n3 c3 => ?_
 have u13 := u2.trans u3
 have h3 := h1.nu u13
 refine W_pC (frame_Top F (n + 5) h3 y.hg y.hk y.hf y.hb (by have := y.sl; omega)) fun r H4 hx => ?_
 obtain ⟨v', rfl, u4, sv, fv⟩ := hx
 have hv' : isScal v' = true := by rcases sv with ⟨rfl, _⟩ | ⟨b, o, n, q, cs, rfl, _⟩ <;> rfl
 simp -implicitDefEqProofs [-stK_int]
 refine W_var u4.wf (x := .agg [I f.fn, I f.pc, v']) (by simp -implicitDefEqProofs [hv']) (by rfl) (by rfl) fun H5 u5 n5 c5 => ?_
 have u15 := u13.trans (u4.trans u5)
 have h5 := h1.nu u15
 have c3' := c3.nu u3.wf (u4.trans u5)
 have cw' := cw.nu u1.wf u15
 obtain ⟨w, q⟩ := h5.md.fn hf0 e1
 have rw0 := cw'.rds 0 3 (by simp)
 simp at rw0
 have ri := c3'.rds 0 5 (by simp -implicitDefEqProofs [Ins.cells])
 simp -implicitDefEqProofs [Ins.cells] at ri
 simp -implicitDefEqProofs [Ins.cells] at c3'
 simp only [cells_agg] at c5
 have hkl : (fs.length : Int) = (k : Int) + 1 := by rw [y.hk]; rfl
 have hib : ∀ (c : Kv) (H0 : AHeap), pIa 3 (.sl bw 0 1 (some 1)) (I 0) H0 c = c (.ptr bw 0) H0 := fun c H0 => pIa_at (n := 0) (by omega)
 simp -implicitDefEqProofs [c3'.rd, frame_Depth F (n + 7) h5 y.hg, hkl, vm_isAct F (n + 7), ri, h5.v.rd, c5.rd, q.ia, q.rs, hib, rw0]
 refine W_box u15.wf fun H6 u6 n6 c6 => ?_
 have u16 := u15.trans u6
 have h6 := h1.nu u16
 simp only [cells_agg] at c6
 have hdu : Un B Z L H5.n := h5.un (Nat.le_refl _)
 have q6 : Dg B Z m L s H6 H5.n i fu w f.pc fs k f := ⟨h6, y.hg, y.hk, y.hf, y.hb, c6, by omega, hdu.1⟩
 refine W_pC (doing_do F (n + 2) q6 hp0 hp2 e) fun r H7 hx => ?_
 obtain ⟨rfl, L7, g7, h7⟩ := hx
 have g17 : Go B L H L7 H7 := (u1.trans u16).go.trans g7
 have fin : ∀ {L8 : Lay} {H8 : AHeap} {s8 : St}, Go B L H L8 H8 → M B Z m L8 s8 H8 → s8 = actTo s1 k f i → W (S55_0 (VE pr (n + 8)) (.ptr B.v 0) H8) fun r H' => Ex B Z m L H (.bool true) (actTo s1 k f i) r H' := fun {L8 H8 s8} g8 h8 e8 => by
  subst e8
  unfold S55_0
  refine W_pC (vm_settle F SP n h8 nx) fun r H9 hx => ?_
  simp -implicitDefEqProofs
  exact ⟨rfl, L8, g8.trans hx.2.go, h8.nu hx.2⟩
 unfold S55_0 at fin
 by_cases c : isAct i.op ((k : Int) + 1) = true ∧ s1.en ≠ 2 ∧ s1.en ≠ 4
 · obtain ⟨ca, cb, cc⟩ := c
   have hact : actTo s1 k f i = { s1 with acts := s1.acts ++ [⟨1, i.op, f.fn, f.pc, -1, 0, -1⟩] } := if_pos ⟨ca, cb, cc⟩
   have un : ∀ b, H.n ≤ b → b < H6.n → b ≠ H5.n → H7.get b = H6.get b := fun b h0 hb _ => (g7.keep hb ((h.un h0).1)).1
   have k3 : Cs H7 H2.n false 0 _ := (c3'.nu u15.wf u6).same (un _ (by have := u1.n; have := u2.n; omega) (by have := u3.n; have := u4.n; have := u5.n; omega) (by have := u4.n; have := u5.n; omega))
   have k5 : Cs H7 H4.n false 0 _ := (c5.nu u5.wf u6).same (un _ (by have := u1.n; have := u2.n; have := u3.n; have := u4.n; omega) (by omega) (by omega))
   have kw : Cs H7 bw false 3 _ := (cw'.nu u15.wf u6).same (un _ bw1 (by have := u16.n; omega) (by have := u15.n; omega))
   have rw7 := kw.rds 0 3 (by simp)
   simp at rw7
   have hsn := h7.va.num
   rw [flatK_len (k := 7) (fun _ => rfl)] at hsn
   have hsn2 : sn L7.va = s1.acts.length := by omega
   simp -implicitDefEqProofs [ca, h7.v.rd, cb, cc, k3.rd, k5.rd, rw7, -stK_sl]
   refine W_bsl h7.wf (l := (⟨1, i.op, f.fn, f.pc, -1, 0, -1⟩ : Act).cells) (by simp -implicitDefEqProofs [Act.cells]) (by omega) (by simp -implicitDefEqProofs [Act.cells]) fun H8 u8 n8 c8 => ?_
   have h8 := h7.nu u8
   refine SV.app u8.wf h8.va c8 (by simp -implicitDefEqProofs [Act.cells]) (by omega) (by omega) rfl (by rw [hsn2]; omega) (by rw [hsn2]; omega) fun H9 w9 n9 c9 o9 => ?_
   have cv : Cs H9 B.v false 0 _ := h8.v.same (o9 _ (h8.lt .v _ rfl) fun e => h8.ne .v .va (by decide) rfl e rfl)
   refine W_st cv rfl rfl (by simp) fun H10 t10 c10 => ?_
   simp -implicitDefEqProofs [hsn2] at c10
   obtain ⟨m10, g10⟩ := h8.acted (x := ⟨1, i.op, f.fn, f.pc, -1, 0, -1⟩) w9 n9 c9 o9 t10 c10
   exact fin ((g17.trans u8.go).trans g10) m10 hact.symm
 · have hact : actTo s1 k f i = s1 := if_neg c
   have : W (S55_0 (VE pr (n + 8)) (.ptr B.v 0) H7) fun r H' => Ex B Z m L H (.bool true) (actTo s1 k f i) r H' := fin g17 h7 hact.symm
   unfold S55_0 pC at this
   cases ca : isAct i.op ((k : Int) + 1) with
   | false => simpa [ca] using this
   | true =>
    by_cases cb : s1.en = 2
    · simpa [ca, h7.v.rd, cb] using this
    · have cc : s1.en = 4 := Decidable.byContradiction fun cc => c ⟨ca, cb, cc⟩
      simpa [ca, h7.v.rd, cc] using this
theorem run_One_do (F : Free pr) (SP : Srt pr) (n : Nat) (h : M B Z m L s H) (y : Rdy m s fs k f i) (hp2 : f.pc ≤ 1000000) (e : doTo m s fs k f i = some s1) (ha : s1.acts.length ≤ 100000)
 (nx : (actTo s1 k f i).en ≠ 0 ∨ ∃ fs' k' f' i', Rdy m (actTo s1 k f i) fs' k' f' i') {p : Nat} (hp : p % 2 = 0) (hpb : p ≤ 1000000000) :
 W (VE pr (n + 10) n21 [.ptr B.v 0, I (p : Int)] H) fun r H' => Ex B Z m L H (.bool true) (actTo s1 k f i) r H' := by
 refine W_of (U21 pr (F _ (by decide)) (n + 9) _ _ _) ?_
 simp -implicitDefEqProofs [S21_0, S21_1, pC, vm_End F (n + 8) h, y.en, show ¬ ((p : Int) = -9223372036854775808) by omega, show ¬ ((p : Int) < 0) by omega]
 refine W_ob2i (vm_Enabled F SP (n + 1) h y) fun r H1 hx => ?_
 obtain ⟨b, rfl, b1, b2, u1, c1⟩ := hx
 have h1 := h.nu u1
 have hr : aBin .rem (I (p : Int)) (I 2) = some (I 0) := by
  rw [aBin_rem _ _ _ (by decide)]
  have : (p : Int).tmod 2 = 0 := by rw [Int.tmod_eq_emod_of_nonneg (by omega)]; omega
  rw [this]
 have hq : ∃ z, aBin .quo (I (p : Int)) (I 2) = some (I z) := ⟨_, aBin_quo _ _ _ (by decide)⟩
 obtain ⟨z, hq⟩ := hq
 have hib : ∀ (c : Kv) (H0 : AHeap), pIa 1 (.sl b 0 1 none) (I 0) H0 c = c (.ptr b 0) H0 := fun c H0 => pIa_at (n := 0) (by omega)
 simp -implicitDefEqProofs [wrap64 (n := 2) (by omega) (by omega), hr, hib, c1.rd, hq]
 refine W_ob2i (vm_Ways F (n + 4) h1 y) fun r H2 hx => ?_
 obtain ⟨rfl, u2⟩ := hx
 have h2 := h1.nu u2
 have c2 := c1.nu u1.wf u2
 have hr1 : aBin .rem (I z) (I 1) = some (I 0) := by
  rw [aBin_rem _ _ _ (by decide), Int.tmod_one]
 simp -implicitDefEqProofs [c2.rd, hr1]
 refine W_ob2i (vm_Do F SP n h2 y hp2 e ha nx) fun r H3 hx => ?_
 obtain ⟨rfl, hx⟩ := hx
 simp -implicitDefEqProofs
 exact ⟨rfl, (Ex.next (v := .bool true) (r := .bool true) (u1.trans u2).go ⟨rfl, hx⟩).2⟩
theorem run_One_gc (F : Free pr) (SP : Srt pr) (n : Nat) (h : M B Z m L s H) (y : Rdy m s fs k f i) (yd : Dull m s) (hok : MapOK m fs) (hph : s.phase = 0 ∨ s.phase = 1 ∨ s.phase = 2 ∨ s.phase = 3) {p : Nat} (hp : p % 2 = 1) (hpb : p ≤ 1000000000) :
 W (VE pr (n + 9) n21 [.ptr B.v 0, I (p : Int)] H) fun r H' => Ex B Z m L H (.bool true) (gcTo s) r H' := by
 refine W_of (U21 pr (F _ (by decide)) (n + 8) _ _ _) ?_
 simp -implicitDefEqProofs [S21_0, S21_1, pC, vm_End F (n + 7) h, y.en, show ¬ ((p : Int) = -9223372036854775808) by omega, show ¬ ((p : Int) < 0) by omega]
 refine W_ob2i (vm_Enabled F SP n h y) fun r H1 hx => ?_
 obtain ⟨b, rfl, b1, b2, u1, c1⟩ := hx
 have h1 := h.nu u1
 have hr : aBin .rem (I (p : Int)) (I 2) = some (I 1) := by
  rw [aBin_rem _ _ _ (by decide)]
  have : (p : Int).tmod 2 = 1 := by rw [Int.tmod_eq_emod_of_nonneg (by omega)]; omega
  rw [this]
 simp -implicitDefEqProofs [wrap64 (n := 2) (by omega) (by omega), hr]
 refine W_ob2i (vm_Collect F SP (n + 1) h1 yd y.hg (by have := y.hk; have := y.hb; omega) hok y.en hph) fun r H2 hx => ?_
 obtain ⟨rfl, hx⟩ := hx
 simp -implicitDefEqProofs
 exact ⟨rfl, (Ex.next (v := .bool true) (r := .bool true) u1.go ⟨rfl, hx⟩).2⟩
end
end
end Go.Proofs.YtlmcgeiacfbdnaaGreatDoor
