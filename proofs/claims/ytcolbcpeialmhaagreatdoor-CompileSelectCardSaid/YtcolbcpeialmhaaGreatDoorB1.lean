/- The three primitives are right. -/
import Derived.Test.YtcolbcpeialmhaaGreatDoorB0
import Derived.Test.YtcolbcpeialmhaaGreatDoorA2
namespace Go.Proofs.YtcolbcpeialmhaaGreatDoor
open Go Go.Proofs Go.RowKit Go.Ab
section
variable {base : Nat} {G : List Nat}
def K9 (f : Nat) (d : Nat) (R : (Nat → Nat) → (Nat → Nat → VarV) → ByteArray → Nat → Nat → Prop) : Prop :=
 ∀ (bc oc : Nat) (name : ByteArray) (sa : Option Addr) (len cap : Nat) (ad : Nat → Option Addr) (ln cp : Nat → Nat) (vs : Nat → Nat → VarV), len ≤ 1000000 → (∀ x, ln x ≤ 1000000) →
  ∀ w : World, bc < w.heap.size → w.cell? ⟨bc, oc + d, none⟩ = some (.slice sa len cap) → Rows w.heap.size w (.slice sa len cap) len ad ln cp → (∀ x, VRows w.heap.size w (.slice (ad x) (ln x) (cp x)) (ln x) (vs x)) →
  Calls Tryz.prog f #[.pointer (some ⟨bc, oc, none⟩), .string name] w fun e W' =>
   ((∃ x k, x < len ∧ k < ln x ∧ (vs x k).nm.toList = name.toList ∧ R ln vs name x k ∧ (∀ x', x < x' → x' < len → ∀ k', k' < ln x' → (vs x' k').nm.toList ≠ name.toList) ∧ e = .returned (.tuple #[.agg (vs x k).cells, .bool true]))
    ∨ ((∀ x, x < len → ∀ k, k < ln x → (vs x k).nm.toList ≠ name.toList) ∧ e = .returned (.tuple #[.agg zeroVar, .bool false])))
   ∧ Below w.heap.size w W'
theorem xp : K9 327 6 (fun _ vs name x k => ∀ k', k' < k → (vs x k').nm.toList ≠ name.toList) := fun bc oc name sa len cap ad ln cp vs h1 h2 w h3 h4 h5 h6 => by
 refine callsIn_wide.1 ((Mw Fence.wide 3 trivial trivial trivial rfl (by omega) bc oc name sa len cap ad ln cp vs h1 w h3 h4 h5 (fun x => ⟨fun hne => ?_, h2 x⟩)).mono fun e W' h => h)
 rcases h6 x with ⟨e1, e2⟩ | ⟨b, off, cap', e1, e2, e3⟩
 · exact absurd e2 hne
 · injection e1 with e4 e5 e6
   exact ⟨b, off, e4, e2, e3⟩
theorem nh : K9 338 1 (fun ln vs name x k => ∀ k', k < k' → k' < ln x → (vs x k').nm.toList ≠ name.toList) := fun bc oc name sa len cap ad ln cp vs h1 h2 w h3 h4 h5 h6 =>
 callsIn_wide.1 ((vd Fence.wide 6 trivial trivial trivial trivial trivial rfl (by omega) bc oc name sa len cap ad ln cp vs h1 h2 w h3 h4 h5 h6).mono fun e W' h => h)
theorem lh {f d : Nat} {R : (Nat → Nat) → (Nat → Nat → VarV) → ByteArray → Nat → Nat → Prop} {first : Bool} (hL : K9 f d R) (hcb : bC Tryz.prog f)
 (hh : ∀ (ρ : Ren) (nm : List UInt8) (ln : Nat → Nat) (vs : Nat → Nat → VarV) (name : ByteArray), name.toList = nm → ∀ {x : Nat} {l : List eC}, LkV ρ (vs x) l (ln x) → (∃ c j, (cond first (qY nm) (qZ nm)) l = some c ∧ j < ln x ∧ (vs x j).nm.toList = nm ∧ R ln vs name x j ∧ VRs ρ c (vs x j).cells.toList) ∨ ((cond first (qY nm) (qZ nm)) l = none ∧ ∀ j, j < ln x → (vs x j).nm.toList ≠ nm))
 (hu : ∀ ln vs name x j j', R ln vs name x j → R ln vs name x j' → j < ln x → j' < ln x → (vs x j).nm.toList = name.toList → (vs x j').nm.toList = name.toList → j = j')
 {args : List AV} {H H' : AHeap} {v : AV} (h : fk first d args H = some (v, H')) :
 bC Tryz.prog f ∧ ∀ ρ w args', HR base ρ H w → Gl G ρ → VRs ρ args args' → Calls Tryz.prog f (List.toArray args') w fun e w' => ∃ ρ' v', e = .returned v' ∧ VR ρ' v v' ∧ HR base ρ' H' w' ∧ Ext ρ H w ρ' H' w' := by
 refine ⟨hcb, fun ρ w args' hr hG ha => ?_⟩
 unfold fk at h
 split at h <;> try (cases h; done)
 rename_i b o nm
 obtain ⟨p, r, rfl, ⟨L, hLb, rfl⟩, p2, r2, rfl, hp2, hr2⟩ := ha
 have hr2 : r2 = [] := hr2
 have hp2 : p2 = .string ⟨nm.toArray⟩ := hp2
 subst hr2 hp2
 have hdom := (hr.dom b L hLb).2
 cases hb : H.get b with
 | none => rw [hb] at h; cases h
 | some ob =>
  rw [hb] at h
  cases ob <;> simp only at h <;> (try cases h; done)
  rename_i ro esz nb t
  have hcell := iY hr hLb hb
  have zero : VR ρ (H9 none) (.tuple #[.agg zeroVar, .bool false]) := ⟨[.agg zeroVar, .bool false], rfl, _, _, rfl, ⟨zeroVar.toList, rfl, _, _, rfl, rfl, _, _, rfl, rfl, _, _, rfl, rfl, _, _, rfl, rfl, _, _, rfl, rfl, _, _, rfl, rfl, rfl⟩, _, _, rfl, rfl, rfl⟩
  cases hs : t.get? (o + d) with
  | none => rw [hs] at h; cases h
  | some sv =>
   rw [hs] at h
   obtain ⟨y, y1, y2⟩ := hcell _ _ hs
   rw [← Nat.add_assoc] at y1
   cases sv <;> simp only at h <;> (try cases h; done)
   · cases h
     have y2 : y = .slice none 0 0 := y2
     subst y2
     refine (hL L.blk (L.off + o) _ none 0 0 (fun _ => none) (fun _ => 0) (fun _ => 0) (fun _ _ => default) (by omega) (fun _ => by omega) w hdom y1 (.inl ⟨rfl, rfl⟩) (fun _ => .inl ⟨rfl, rfl⟩)).mono ?_
     rintro e W' ⟨⟨x, k, hx, _⟩ | ⟨_, rfl⟩, hbl⟩
     · omega
     · obtain ⟨f1, f2⟩ := hr.below hbl
       exact ⟨ρ, _, rfl, zero, f1, f2⟩
   · rename_i b' o' len cap
     cases hlen : Nat.ble len 1000000 with
     | false => rw [hlen] at h; cases h
     | true =>
      rw [hlen] at h
      simp only [cond_true] at h
      have hlen := Nat.le_of_ble_eq_true hlen
      cases hb' : H.get b' with
      | none => rw [hb'] at h; cases h
      | some ob' =>
       rw [hb'] at h
       cases ob' <;> simp only at h <;> (try cases h; done)
       rename_i ro' esz' nb' t'
       cases hll : du H t' o' len with
       | none => rw [hll] at h; cases h
       | some ll =>
        rw [hll] at h
        cases h
        obtain ⟨L', c, o'', hL', rfl, hlc, ho, _⟩ := y2
        obtain ⟨ad, ln, cp, vs, q1, q2, q3, q4⟩ := gh hr (cell := fun i => w.cell? ⟨L'.blk, L'.off + i, none⟩) (iY hr hL' hb') hll
        have hnm : (⟨nm.toArray⟩ : ByteArray).toList = nm := fb nm
        refine (hL L.blk (L.off + o) _ _ len c ad ln cp vs hlen q2 w hdom y1 (.inr ⟨L'.blk, o'', c, rfl, (hr.dom b' L' hL').2, fun j hj => ?_⟩) q3).mono ?_
        · have := q1 j hj
          rw [ho (by omega), ← this]
          congr 2
          omega
        · rintro e W' ⟨hres, hbl⟩
          obtain ⟨f1, f2⟩ := hr.below hbl
          rw [hnm] at hres
          rcases qf (hh ρ nm ln vs _ hnm) q4 with ⟨cc, x, j, g1, g2, g3, g4, g5, g6, g7⟩ | ⟨g1, g2⟩
          · rcases hres with ⟨x', k', m1, m2, m3, m4, m5, rfl⟩ | ⟨m1, rfl⟩
            · have ex : x = x' := by
               rcases Nat.lt_trichotomy x x' with c | c | c
               · exact absurd m3 (g6 x' c m1 k' m2)
               · exact c
               · exact absurd g4 (m5 x c g2 j g3)
              subst ex
              obtain rfl := hu ln vs _ x j k' g5 m4 g3 m2 (by rw [hnm]; exact g4) (by rw [hnm]; exact m3)
              rw [g1]
              exact ⟨ρ, _, rfl, ⟨[.agg (vs x j).cells, .bool true], rfl, _, _, rfl, ⟨(vs x j).cells.toList, rfl, g7⟩, _, _, rfl, rfl, rfl⟩, f1, f2⟩
            · exact absurd g4 (m1 x g2 j g3)
          · rcases hres with ⟨x', k', m1, m2, m3, m4, m5, rfl⟩ | ⟨m1, rfl⟩
            · exact absurd m3 (g2 x' m1 k' m2)
            · rw [g1]
              exact ⟨ρ, _, rfl, zero, f1, f2⟩
theorem vk {args : List AV} {H H' : AHeap} {v : AV} (h : fk true 6 args H = some (v, H')) :
 bC Tryz.prog 327 ∧ ∀ ρ w args', HR base ρ H w → Gl G ρ → VRs ρ args args' → Calls Tryz.prog 327 (List.toArray args') w fun e w' => ∃ ρ' v', e = .returned v' ∧ VR ρ' v v' ∧ HR base ρ' H' w' ∧ Ext ρ H w ρ' H' w' :=
 lh (first := true) xp ⟨Tryz.f327, Tryz.func327, by kernel_rfl, by kernel_rfl⟩
  (fun ρ nm ln vs name hn x l hl => by subst hn; exact ql hl)
  (fun ln vs name x j j' h1 h2 h3 h4 h5 h6 => by
   rcases Nat.lt_trichotomy j j' with c | c | c
   · exact absurd h5 (h2 j c)
   · exact c
   · exact absurd h6 (h1 j' c)) h
theorem wW {args : List AV} {H H' : AHeap} {v : AV} (h : fk false 1 args H = some (v, H')) :
 bC Tryz.prog 338 ∧ ∀ ρ w args', HR base ρ H w → Gl G ρ → VRs ρ args args' → Calls Tryz.prog 338 (List.toArray args') w fun e w' => ∃ ρ' v', e = .returned v' ∧ VR ρ' v v' ∧ HR base ρ' H' w' ∧ Ext ρ H w ρ' H' w' :=
 lh (first := false) nh ⟨Tryz.f338, Tryz.func338, by kernel_rfl, by kernel_rfl⟩
  (fun ρ nm ln vs name hn x l hl => by subst hn; exact qm hl)
  (fun ln vs name x j j' h1 h2 h3 h4 h5 h6 => by
   rcases Nat.lt_trichotomy j j' with c | c | c
   · exact absurd h6 (h1 j' c h4)
   · exact c
   · exact absurd h5 (h2 j c h3)) h
noncomputable def wX (s g f d : Nat) : di := fun k => cond (Nat.beq k s) (some (iG g)) (cond (Nat.beq k f) (some (fk true 6)) (cond (Nat.beq k d) (some (fk false 1)) none))
theorem EU {s g k e : Nat} (h1 : SortsKeys Tryz.prog s g k e) : pg Tryz.prog base G (wX s g 327 338) := by
 intro f args H v H' h
 unfold wX at h
 dsimp only at h
 cases c1 : Nat.beq f s with
 | true =>
  rw [c1] at h
  obtain rfl := Nat.eq_of_beq_eq_true c1
  exact pj h1 h
 | false =>
  rw [c1] at h
  cases c2 : Nat.beq f 327 with
  | true =>
   rw [c2] at h
   obtain rfl := Nat.eq_of_beq_eq_true c2
   exact vk h
  | false =>
   rw [c2] at h
   cases c3 : Nat.beq f 338 with
   | true =>
    rw [c3] at h
    obtain rfl := Nat.eq_of_beq_eq_true c3
    exact wW h
   | false => rw [c3] at h; cases h
end
end Go.Proofs.YtcolbcpeialmhaaGreatDoor
