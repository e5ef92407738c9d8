/- Calls on a part of a heap; templates. -/
import Derived.Test.YtcolbcpeialmhaaGreatDoorA3
namespace Go.Ab
noncomputable section
mutual
def rnV (ι : Nat → Nat) : AV → AV
 | .ptr b o => .ptr (ι b) o
 | .sl b o l c => .sl (ι b) o l c
 | .map b => .map (ι b)
 | .fn f a b => .fn f (br ι a) (br ι b)
 | .iface t x => .iface t (rnV ι x)
 | .agg l => .agg (br ι l)
 | .tup l => .tup (br ι l)
 | .bool b => .bool b
 | .int k n => .int k n
 | .str l => .str l
 | .nilp => .nilp
 | .nilsl => .nilsl
 | .nilmap => .nilmap
 | .nilfn => .nilfn
 | .nilif => .nilif
def br (ι : Nat → Nat) : List AV → List AV
 | [] => []
 | x :: r => rnV ι x :: br ι r
end
mutual
def inV (n : Nat) : AV → Prop
 | .ptr b _ => b < n
 | .sl b _ _ _ => b < n
 | .map b => b < n
 | .fn _ a b => dz n a ∧ dz n b
 | .iface _ x => inV n x
 | .agg l => dz n l
 | .tup l => dz n l
 | _ => True
def dz (n : Nat) : List AV → Prop
 | [] => True
 | x :: r => inV n x ∧ dz n r
end
section
variable {ρ ρ' : Ren} {ι : Nat → Nat} {n : Nat}
mutual
theorem qz (h : ∀ b L, ρ b = some L → ρ' (ι b) = some L) : ∀ {v : AV} {x : Value}, VR ρ v x → VR ρ' (rnV ι v) x
 | .ptr b _o, _x, ⟨L, hL, hx⟩ => ⟨L, h b L hL, hx⟩
 | .sl b _o _l _c, _x, ⟨L, c', o', hL, hx⟩ => ⟨L, c', o', h b L hL, hx⟩
 | .map b, _x, ⟨L, hL, hx⟩ => ⟨L, h b L hL, hx⟩
 | .fn _f _a _b, _x, ⟨a', b', hx, h1, h2⟩ => ⟨a', b', hx, nY h h1, nY h h2⟩
 | .iface _t _y, _x, ⟨y', hx, h1⟩ => ⟨y', hx, qz h h1⟩
 | .agg _l, _x, ⟨l', hx, h1⟩ => ⟨l', hx, nY h h1⟩
 | .tup _l, _x, ⟨l', hx, h1⟩ => ⟨l', hx, nY h h1⟩
 | .bool _b, _x, hx => hx
 | .int _k _n, _x, hx => hx
 | .str _l, _x, hx => hx
 | .nilp, _x, hx => hx
 | .nilsl, _x, hx => hx
 | .nilmap, _x, hx => hx
 | .nilfn, _x, hx => hx
 | .nilif, _x, hx => hx
theorem nY (h : ∀ b L, ρ b = some L → ρ' (ι b) = some L) : ∀ {v : List AV} {x : List Value}, VRs ρ v x → VRs ρ' (br ι v) x
 | [], _x, hx => hx
 | _ :: _, _x, ⟨y, s, e, h1, h2⟩ => ⟨y, s, e, qz h h1, nY h h2⟩
end
mutual
theorem wC (h : ∀ b L, b < n → ρ' (ι b) = some L → ρ b = some L) : ∀ {v : AV} {x : Value}, inV n v → VR ρ' (rnV ι v) x → VR ρ v x
 | .ptr b _o, _x, hb, ⟨L, hL, hx⟩ => ⟨L, h b L hb hL, hx⟩
 | .sl b _o _l _c, _x, hb, ⟨L, c', o', hL, hx⟩ => ⟨L, c', o', h b L hb hL, hx⟩
 | .map b, _x, hb, ⟨L, hL, hx⟩ => ⟨L, h b L hb hL, hx⟩
 | .fn _f _a _b, _x, ⟨g1, g2⟩, ⟨a', b', hx, h1, h2⟩ => ⟨a', b', hx, j1 h g1 h1, j1 h g2 h2⟩
 | .iface _t _y, _x, g, ⟨y', hx, h1⟩ => ⟨y', hx, wC h g h1⟩
 | .agg _l, _x, g, ⟨l', hx, h1⟩ => ⟨l', hx, j1 h g h1⟩
 | .tup _l, _x, g, ⟨l', hx, h1⟩ => ⟨l', hx, j1 h g h1⟩
 | .bool _b, _x, _, hx => hx
 | .int _k _n, _x, _, hx => hx
 | .str _l, _x, _, hx => hx
 | .nilp, _x, _, hx => hx
 | .nilsl, _x, _, hx => hx
 | .nilmap, _x, _, hx => hx
 | .nilfn, _x, _, hx => hx
 | .nilif, _x, _, hx => hx
theorem j1 (h : ∀ b L, b < n → ρ' (ι b) = some L → ρ b = some L) : ∀ {v : List AV} {x : List Value}, dz n v → VRs ρ' (br ι v) x → VRs ρ v x
 | [], _x, _, hx => hx
 | _ :: _, _x, ⟨g1, g2⟩, ⟨y, s, e, h1, h2⟩ => ⟨y, s, e, wC h g1 h1, j1 h g2 h2⟩
end
mutual
theorem fj {ι' : Nat → Nat} (h : ∀ b, b < n → ι b = ι' b) : ∀ {v : AV}, inV n v → rnV ι v = rnV ι' v
 | .ptr b o, hb => by simp only [rnV, h b hb]
 | .sl b o l c, hb => by simp only [rnV, h b hb]
 | .map b, hb => by simp only [rnV, h b hb]
 | .fn f a b, ⟨g1, g2⟩ => by simp only [rnV, eg h g1, eg h g2]
 | .iface t y, g => by simp only [rnV, fj h (v := y) g]
 | .agg l, g => by simp only [rnV, eg h (v := l) g]
 | .tup l, g => by simp only [rnV, eg h (v := l) g]
 | .bool b, _ => rfl
 | .int k n, _ => rfl
 | .str l, _ => rfl
 | .nilp, _ => rfl
 | .nilsl, _ => rfl
 | .nilmap, _ => rfl
 | .nilfn, _ => rfl
 | .nilif, _ => rfl
theorem eg {ι' : Nat → Nat} (h : ∀ b, b < n → ι b = ι' b) : ∀ {v : List AV}, dz n v → br ι v = br ι' v
 | [], _ => rfl
 | x :: r, ⟨g1, g2⟩ => by simp only [br, fj h g1, eg h g2]
end
def rnE (ι : Nat → Nat) (es : List (AV × AV × Nat)) : List (AV × AV × Nat) := es.map fun p => (rnV ι p.1, rnV ι p.2.1, p.2.2)
theorem Rm (h : ∀ b L, ρ b = some L → ρ' (ι b) = some L) : ∀ {es : List (AV × AV × Nat)} {l : List MapEntry}, ER ρ es l → ER ρ' (rnE ι es) l
 | [], _, hl => hl
 | (_, _, _) :: _, _, ⟨e, m, h1, h2, h3, h4, h5⟩ => ⟨e, m, h1, qz h h2, qz h h3, h4, Rm h h5⟩
theorem Rl (h : ∀ b L, b < n → ρ' (ι b) = some L → ρ b = some L) : ∀ {es : List (AV × AV × Nat)} {l : List MapEntry}, (∀ p ∈ es, inV n p.1 ∧ inV n p.2.1) → ER ρ' (rnE ι es) l → ER ρ es l
 | [], _, _, hl => hl
 | (_, _, _) :: _, _, g, ⟨e, m, h1, h2, h3, h4, h5⟩ => ⟨e, m, h1, wC h (g _ List.mem_cons_self).1 h2, wC h (g _ List.mem_cons_self).2 h3, h4, Rl h (fun p hp => g p (List.mem_cons_of_mem _ hp)) h5⟩
def Tb.map {α β : Type} (f : α → β) (t : Tb α) : Tb β := Tb.rec (motive := fun _ => Tb β) .nil (fun x _ _ l r => .node (f x) l r) t
theorem Tb.get?_map {α β : Type} (f : α → β) (t : Tb α) : ∀ n, (t.map f).get? n = (t.get? n).map f := by
 induction t with
 | nil => intro n; rfl
 | node x l r ihl ihr =>
  intro n
  show (Tb.node (f x) (l.map f) (r.map f)).get? n = _
  cases n with
  | zero => rfl
  | succ m =>
   rw [Tb.get?_succ, Tb.get?_succ]
   cases Nat.beq (Nat.mod m 2) 0 with
   | true => exact ihl _
   | false => exact ihr _
def Tr.map {α β : Type} (f : α → β) : Tr α → Tr β
 | .t1 a => .t1 (N16.tab fun i => (N16.gd i a).map f)
 | .t2 a => .t2 (N16.tab fun i => N16.tab fun j => (N16.gd j (N16.gd i a)).map f)
 | .t3 a b => .t3 (N16.tab fun i => N16.tab fun j => N16.tab fun k => (N16.gd k (N16.gd j (N16.gd i a))).map f) (b.map f)
theorem Tr.get?_map {α β : Type} (f : α → β) (t : Tr α) (i : Nat) : (t.map f).get? i = (t.get? i).map f := by
 cases t with
 | t1 a =>
  show (Tr.t1 _).get? i = _
  rw [iP, iP]
  by_cases c : i < 16
  · rw [if_pos c, if_pos c, N16.gd_tab _ i c]
  · rw [if_neg c, if_neg c]; rfl
 | t2 a =>
  show (Tr.t2 _).get? i = _
  rw [jy, jy]
  by_cases c : i < 256
  · rw [if_pos c, if_pos c]
    show N16.gd (i % 16) (N16.gd (i / 16) _) = (N16.gd (i % 16) (N16.gd (i / 16) a)).map f
    rw [N16.gd_tab _ _ (by omega), N16.gd_tab _ _ (by omega)]
  · rw [if_neg c, if_neg c]; rfl
 | t3 a b =>
  show (Tr.t3 _ _).get? i = _
  rw [ij, ij]
  by_cases c : i < 4096
  · rw [if_pos c, if_pos c]
    show N16.gd (i % 16) (N16.gd (i / 16 % 16) (N16.gd (i / 256) _)) = (N16.gd (i % 16) (N16.gd (i / 16 % 16) (N16.gd (i / 256) a))).map f
    rw [N16.gd_tab _ _ (by omega), N16.gd_tab _ _ (by omega), N16.gd_tab _ _ (by omega)]
  · rw [if_neg c, if_neg c]; exact Tb.get?_map f b _
theorem Hu {α β : Type} {f : α → β} {t : Tr α} {t' : Tr β} (h : ∀ i, t'.get? i = (t.get? i).map f) (n : Nat) : t'.Full n ↔ t.Full n := by
 have e : ∀ i, (t'.get? i).isSome = (t.get? i).isSome := fun i => by rw [h]; cases t.get? i <;> rfl
 constructor
 · intro hf i; rw [← e]; exact hf i
 · intro hf i; rw [e]; exact hf i
def RnO (ι : Nat → Nat) : AObj → AObj → Prop
 | .cells ro e n t, .cells ro' e' n' t' => ro = ro' ∧ e = e' ∧ n = n' ∧ ∀ i v, t.get? i = some v → t'.get? i = some (rnV ι v)
 | .map es c, .map es' c' => es' = rnE ι es ∧ c = c'
 | .dead, .dead => True
 | _, _ => False
def inO (n : Nat) : AObj → Prop
 | .cells _ _ _ t => ∀ i v, t.get? i = some v → inV n v
 | .map es _ => ∀ p ∈ es, inV n p.1 ∧ inV n p.2.1
 | _ => True
theorem RnO.own {o o' : AObj} (h : RnO ι o o') : o'.own = o.own ∧ o'.live = o.live := by
 cases o <;> cases o' <;> first
  | exact h.elim
  | exact ⟨rfl, rfl⟩
  | (obtain ⟨rfl, _⟩ := h; exact ⟨rfl, rfl⟩)
def fullO : AObj → Prop
 | .cells _ _ k t => t.Full k
 | _ => True
theorem OR.fullO {base : Nat} {L : Loc} {w : World} {o : AObj} (h : OR base ρ L o w) : fullO o := by
 cases o <;> first
  | exact trivial
  | exact h.2.1
theorem a6v {base : Nat} {L : Loc} {w : World} (h : ∀ b L, ρ b = some L → ρ' (ι b) = some L) {o o' : AObj} (r : RnO ι o o') (hf : fullO o') (hO : OR base ρ L o w) : OR base ρ' L o' w := by
 cases o <;> cases o' <;> first
  | exact r.elim
  | exact trivial
  | skip
 · obtain ⟨rfl, rfl, rfl, hg⟩ := r
   obtain ⟨o1, o2, o3, o4, c, el, fr, o5, o6, o7, o8⟩ := hO
   refine ⟨o1, hf, o3, o4, c, el, fr, o5, o6, o7, fun i v hv => ?_⟩
   have hi := (hf i).1 (by rw [hv]; rfl)
   obtain ⟨v0, e0⟩ := Option.isSome_iff_exists.1 ((o2 i).2 hi)
   rw [hg i v0 e0] at hv
   obtain rfl := Option.some.inj hv
   obtain ⟨v', q1, q2⟩ := o8 i v0 e0
   exact ⟨v', q1, qz h q2⟩
 · obtain ⟨rfl, rfl⟩ := r
   obtain ⟨o1, o2, es', o3, o4⟩ := hO
   exact ⟨o1, o2, es', o3, Rm h o4⟩
theorem a6u {base : Nat} {L : Loc} {w : World} (h : ∀ b L, b < n → ρ' (ι b) = some L → ρ b = some L) {o o' : AObj} (r : RnO ι o o') (hi : inO n o) (hfull : fullO o) (hO : OR base ρ' L o' w) : OR base ρ L o w := by
 cases o <;> cases o' <;> first
  | exact r.elim
  | exact trivial
  | skip
 · obtain ⟨rfl, rfl, rfl, hg⟩ := r
   obtain ⟨o1, o2, o3, o4, c, el, fr, o5, o6, o7, o8⟩ := hO
   refine ⟨o1, hfull, o3, o4, c, el, fr, o5, o6, o7, fun i v hv => ?_⟩
   obtain ⟨v', q1, q2⟩ := o8 i (rnV ι v) (hg i v hv)
   exact ⟨v', q1, wC h (hi i v hv) q2⟩
 · obtain ⟨rfl, rfl⟩ := r
   obtain ⟨o1, o2, es', o3, o4⟩ := hO
   exact ⟨o1, o2, es', o3, Rl h hi o4⟩
end
end
noncomputable section
structure Part (ι : Nat → Nat) (h H : AHeap) : Prop where
 full : h.t.Full h.n
 lt : ∀ b, b < h.n → ι b < H.n
 inj : ∀ b b', b < h.n → b' < h.n → ι b = ι b' → b = b'
 obj : ∀ b o, h.get b = some o → ∃ o', H.get (ι b) = some o' ∧ RnO ι o o'
 inn : ∀ b o, h.get b = some o → inO h.n o
 cf : ∀ b o, h.get b = some o → fullO o
def ρp (ρ : Ren) (ι : Nat → Nat) (n : Nat) : Ren := fun b => if b < n then ρ (ι b) else none
def ιn (ι : Nat → Nat) (n N : Nat) : Nat → Nat := fun b => if b < n then ι b else N + (b - n)
structure Whole (ι : Nat → Nat) (h H h' H' : AHeap) : Prop where
 full : H'.t.Full H'.n
 n : H'.n = H.n + (h'.n - h.n)
 old : ∀ b, b < H.n → (∀ s, s < h.n → ι s ≠ b) → H'.get b = H.get b
 part : ∀ s o, h'.get s = some o → ∃ o', H'.get (ιn ι h.n H.n s) = some o' ∧ RnO (ιn ι h.n H.n) o o'
 same : ∀ s, s < h.n → h'.get s = h.get s → H'.get (ι s) = H.get (ι s)
 fl : ∀ s o, h'.get s = some o → fullO o → (s < h.n ∧ H'.get (ι s) = H.get (ι s)) ∨ ∀ o', H'.get (ιn ι h.n H.n s) = some o' → fullO o'
 own : ∀ s o, h'.get s = some o → o.own = true ∨ o.live = false ∨ (s < h.n ∧ h'.get s = h.get s)
def ρw (ρ ρs : Ren) (n N N' : Nat) : Ren := fun b => if b < N then ρ b else if b < N' then ρs (n + (b - N)) else none
section
variable {base : Nat} {ρ ρs : Ren} {ι : Nat → Nat} {h H h' H' : AHeap} {w w' : World}
theorem dM {H : AHeap} (hf : H.t.Full H.n) {b : Nat} {o : AObj} (e : H.get b = some o) : b < H.n := (hf b).1 (by show (H.get b).isSome = true; rw [e]; rfl)
theorem kK {H : AHeap} (hf : H.t.Full H.n) {b : Nat} (hb : b < H.n) : ∃ o, H.get b = some o := Option.isSome_iff_exists.1 ((hf b).2 hb)
theorem ρp_some {n b : Nat} {L : Loc} (e : ρp ρ ι n b = some L) : b < n ∧ ρ (ι b) = some L := by
 unfold ρp at e; split at e
 · rename_i c; exact ⟨c, e⟩
 · cases e
theorem GD {o : AObj} (e : o.own = true) : o.live = true := by cases o <;> first | rfl | cases e
theorem Part.toHR (p : Part ι h H) (hR : HR base ρ H w) : HR base (ρp ρ ι h.n) h w := by
 refine ⟨p.full, hR.low, fun b L e => ?_, fun b L o e ho => ?_, fun b b' L L' o o' e e' ho ho' hown hl hne => ?_⟩
 · obtain ⟨c, e⟩ := ρp_some e
   exact ⟨c, (hR.dom _ L e).2⟩
 · obtain ⟨c, e⟩ := ρp_some e
   obtain ⟨o', g, r⟩ := p.obj b o ho
   refine a6u (ρ' := ρ) (ι := ι) (n := h.n) (fun x K hx hK => ?_) r (p.inn b o ho) (p.cf b o ho) (hR.obj _ L o' e g)
   show (if x < h.n then ρ (ι x) else none) = _
   rw [if_pos hx]; exact hK
 · obtain ⟨c, e⟩ := ρp_some e
   obtain ⟨c', e'⟩ := ρp_some e'
   obtain ⟨q, g, r⟩ := p.obj b o ho
   obtain ⟨q', g', r'⟩ := p.obj b' o' ho'
   exact hR.apart _ _ L L' q q' e e' g g' (r.own.1.trans hown) (r'.own.2.trans hl) fun c2 => hne (p.inj b b' c c' c2)
theorem Part.owns (p : Part ι h H) {k : Nat} (ho : CE (ρp ρ ι h.n) h k) : ∃ s L o, s < h.n ∧ ρ (ι s) = some L ∧ H.get (ι s) = some o ∧ o.own = true ∧ L.blk = k := by
 obtain ⟨s, L, o, e, g, hown, hk⟩ := ho
 obtain ⟨c, e⟩ := ρp_some e
 obtain ⟨q, g', r⟩ := p.obj s o g
 exact ⟨s, L, q, c, e, g', r.own.1.trans hown, hk⟩
theorem Whole.ok (p : Part ι h H) (hR : HR base ρ H w) (W : Whole ι h H h' H') (hn : h.n ≤ h'.n) (hR' : HR base ρs h' w') (hE : Ext (ρp ρ ι h.n) h w ρs h' w') :
 HR base (ρw ρ ρs h.n H.n H'.n) H' w' ∧ Ext ρ H w (ρw ρ ρs h.n H.n H'.n) H' w' ∧ ∀ s L, ρs s = some L → ρw ρ ρs h.n H.n H'.n (ιn ι h.n H.n s) = some L := by
 have old' : ∀ b, b < H.n → ρw ρ ρs h.n H.n H'.n b = ρ b := fun b hb => if_pos hb
 have new' : ∀ i, i < h'.n - h.n → ρw ρ ρs h.n H.n H'.n (H.n + i) = ρs (h.n + i) := fun i hi => by
  show (if _ < H.n then _ else _) = _
  rw [if_neg (by omega), if_pos (by rw [W.n]; omega), Nat.add_sub_cancel_left]
 have ιo : ∀ s, s < h.n → ιn ι h.n H.n s = ι s := fun s hs => if_pos hs
 have ιN : ∀ i, ιn ι h.n H.n (h.n + i) = H.n + i := fun i => by
  show (if _ < h.n then _ else _) = _
  rw [if_neg (by omega), Nat.add_sub_cancel_left]
 have ren : ∀ s L, ρs s = some L → ρw ρ ρs h.n H.n H'.n (ιn ι h.n H.n s) = some L := fun s L e => by
  have hs := (hR'.dom s L e).1
  by_cases c : s < h.n
  · rw [ιo s c, old' _ (p.lt s c)]
    rw [hE.old s c] at e
    exact (ρp_some e).2
  · obtain ⟨i, rfl⟩ : ∃ i, s = h.n + i := ⟨s - h.n, by omega⟩
    rw [ιN, new' i (by omega)]; exact e
 have split : ∀ b L o, ρw ρ ρs h.n H.n H'.n b = some L → H'.get b = some o → (b < H.n ∧ (∀ s, s < h.n → ι s ≠ b) ∧ ρ b = some L ∧ H.get b = some o) ∨ ∃ s q, ρs s = some L ∧ h'.get s = some q ∧ ιn ι h.n H.n s = b ∧ RnO (ιn ι h.n H.n) q o := fun b L o e g => by
  by_cases c : b < H.n
  · by_cases d : ∃ s, s < h.n ∧ ι s = b
    · obtain ⟨s, hs, rfl⟩ := d
      obtain ⟨q, hq⟩ := kK hR'.full (b := s) (by omega)
      obtain ⟨o', g', r⟩ := W.part s q hq
      rw [ιo s hs] at g'
      rw [g] at g'; cases g'
      refine .inr ⟨s, q, ?_, hq, ιo s hs, r⟩
      rw [old' _ c] at e
      rw [hE.old s hs]
      show (if s < h.n then ρ (ι s) else none) = _
      rw [if_pos hs]; exact e
    · have d' : ∀ s, s < h.n → ι s ≠ b := fun s hs e => d ⟨s, hs, e⟩
      refine .inl ⟨c, d', by rw [← old' b c]; exact e, by rw [← W.old b c d']; exact g⟩
  · have hb := dM W.full g
    rw [W.n] at hb
    obtain ⟨i, rfl⟩ : ∃ i, b = H.n + i := ⟨b - H.n, by omega⟩
    obtain ⟨q, hq⟩ := kK hR'.full (b := h.n + i) (by omega)
    obtain ⟨o', g', r⟩ := W.part _ q hq
    rw [ιN, g] at g'; cases g'
    exact .inr ⟨h.n + i, q, by rw [← new' i (by omega)]; exact e, hq, ιN i, r⟩
 have apart' : ∀ s L q b L' o, ρs s = some L → h'.get s = some q → q.own = true → (∀ s, s < h.n → ι s ≠ b) → ρ b = some L' → H.get b = some o → o.live = true → L.blk ≠ L'.blk := fun s L q b L' o e g hown d e' g' hl => by
  have hL' := (hR.dom b L' e').2
  rcases hE.own L.blk ⟨s, L, q, e, g, hown, rfl⟩ with c | c
  · omega
  · obtain ⟨s2, L2, o2, hs2, e2, g2, own2, k2⟩ := p.owns c
    rw [← k2]
    exact hR.apart _ _ L2 L' o2 o e2 e' g2 g' own2 hl (d s2 hs2)
 have apart2 : ∀ s L q b L' o, ρs s = some L → h'.get s = some q → q.own = true → (∀ s, s < h.n → ι s ≠ b) → ρ b = some L' → H.get b = some o → o.own = true → L'.blk ≠ L.blk := fun s L q b L' o e g hown d e' g' ho => (apart' s L q b L' o e g hown d e' g' (GD ho)).symm
 refine ⟨⟨W.full, Nat.le_trans hR.low hE.size, fun b L e => ?_, fun b L o e ho => ?_, fun b b' L L' o o' e e' ho ho' hown hl hne => ?_⟩, ⟨by rw [W.n]; omega, old', fun b hb e => ?_, hE.size, fun k hk hno => hE.frame k hk fun c => ?_, fun k hk => ?_, hE.os, hE.tape, hE.output⟩, ren⟩
 · by_cases c : b < H.n
   · rw [old' b c] at e
     exact ⟨by rw [W.n]; omega, Nat.lt_of_lt_of_le (hR.dom b L e).2 hE.size⟩
   · have e0 : (if b < H'.n then ρs (h.n + (b - H.n)) else none) = some L := by
      rw [← e]; show _ = (if b < H.n then _ else _); rw [if_neg c]
     split at e0
     · rename_i d; exact ⟨d, (hR'.dom _ L e0).2⟩
     · cases e0
 · rcases split b L o e ho with ⟨c, d, e1, g1⟩ | ⟨s, q, e1, g1, i1, r⟩
   · cases hlv : o.live with
     | false => cases o <;> first | exact trivial | cases hlv
     | true =>
      refine (hR.obj b L o e1 g1).mono (fun k K hk => by rw [old' k (hR.dom k K hk).1]; exact hk) ?_
      refine hE.frame L.blk (hR.dom b L e1).2 fun c2 => ?_
      obtain ⟨s2, L2, o2, hs2, e2, g2, own2, k2⟩ := p.owns c2
      exact hR.apart _ _ L2 L o2 o e2 e1 g2 g1 own2 hlv (d s2 hs2) k2
   · refine a6v ren r ?_ (hR'.obj s L q e1 g1)
     rcases W.fl s q g1 (hR'.obj s L q e1 g1).fullO with ⟨hs, hk⟩ | hk
     · rw [ιo s hs] at i1
       subst i1
       rw [old' _ (p.lt s hs)] at e
       rw [hk] at ho
       exact (hR.obj _ L o e ho).fullO
     · exact hk o (by rw [i1]; exact ho)
 · rcases split b L o e ho with ⟨c, d, e1, g1⟩ | ⟨s, q, e1, g1, i1, r⟩
   · rcases split b' L' o' e' ho' with ⟨c', d', e2, g2⟩ | ⟨s', q', e2, g2, i2, r'⟩
     · exact hR.apart b b' L L' o o' e1 e2 g1 g2 hown hl hne
     · rcases W.own s' q' g2 with hq | hq | ⟨hs', hq⟩
       · exact apart2 s' L' q' b L o e2 g2 hq d e1 g1 hown
       · rw [← r'.own.2, hl] at hq; cases hq
       · rw [ιo s' hs'] at i2
         subst i2
         rw [W.same s' hs' hq] at ho'
         rw [old' _ (p.lt s' hs')] at e'
         exact hR.apart b _ L L' o o' e1 e' g1 ho' hown hl hne
   · have hq : q.own = true := by rw [← r.own.1]; exact hown
     rcases split b' L' o' e' ho' with ⟨c', d', e2, g2⟩ | ⟨s', q', e2, g2, i2, r'⟩
     · exact apart' s L q b' L' o' e1 g1 hq d' e2 g2 hl
     · exact hR'.apart s s' L L' q q' e1 e2 g1 g2 hq (by rw [← r'.own.2]; exact hl) fun c => hne (by rw [← i1, ← i2, c])
 · by_cases d : ∃ s, s < h.n ∧ ι s = b
   · obtain ⟨s, hs, rfl⟩ := d
     refine W.same s hs (hE.quiet s hs ?_)
     show (if s < h.n then ρ (ι s) else none) = _
     rw [if_pos hs]; exact e
   · exact W.old b hb fun s hs c => d ⟨s, hs, c⟩
 · obtain ⟨s2, L2, o2, hs2, e2, g2, own2, k2⟩ := p.owns c
   exact hno ⟨_, L2, o2, e2, g2, own2, k2⟩
 · obtain ⟨b, L, o, e, g, hown, hk⟩ := hk
   rcases split b L o e g with ⟨c, d, e1, g1⟩ | ⟨s, q, e1, g1, i1, r⟩
   · exact .inr ⟨b, L, o, e1, g1, hown, hk⟩
   · rcases hE.own k ⟨s, L, q, e1, g1, by rw [← r.own.1]; exact hown, hk⟩ with c | c
     · exact .inl c
     · obtain ⟨s2, L2, o2, hs2, e2, g2, own2, k2⟩ := p.owns c
       exact .inr ⟨_, L2, o2, e2, g2, own2, k2⟩
end
end
noncomputable section
section
variable {ι ι' : Nat → Nat} {n : Nat}
theorem ES (h : ∀ b, b < n → ι b = ι' b) {es : List (AV × AV × Nat)} (g : ∀ p ∈ es, inV n p.1 ∧ inV n p.2.1) : rnE ι es = rnE ι' es :=
 List.map_congr_left fun p hp => by rw [fj h (g p hp).1, fj h (g p hp).2]
theorem RnO.congr (h : ∀ b, b < n → ι b = ι' b) {o o' : AObj} (hi : inO n o) (r : RnO ι o o') : RnO ι' o o' := by
 cases o <;> cases o' <;> first
  | exact r.elim
  | exact trivial
  | skip
 · obtain ⟨r1, r2, r3, r5⟩ := r
   refine ⟨r1, r2, r3, fun i v e => ?_⟩
   rw [r5 i v e, fj h (hi i v e)]
 · obtain ⟨r1, r2⟩ := r
   exact ⟨r1.trans (ES h hi), r2⟩
def rnO (ι : Nat → Nat) : AObj → AObj
 | .cells ro e k t => .cells ro e k (t.map (rnV ι))
 | .map es c => .map (rnE ι es) c
 | o => o
def iH : AObj → Prop
 | .cells _ _ _ _ => True
 | .map _ _ => True
 | .dead => True
 | _ => False
theorem qo {o : AObj} (h : fullO o) : fullO (rnO ι o) := by
 cases o <;> first
  | exact trivial
  | exact (Hu (fun i => Tr.get?_map _ _ i) _).2 h
theorem Eb {o : AObj} (h : iH o) : RnO ι o (rnO ι o) := by
 cases o <;> first
  | exact h.elim
  | exact trivial
  | exact ⟨rfl, rfl⟩
  | exact ⟨rfl, rfl, rfl, fun i v e => by rw [Tr.get?_map, e]; rfl⟩
end
section
variable {Q : (Nat → Nat) → AHeap → List AV → AHeap → Prop} {P : Program} {base : Nat} {G : List Nat} {call : aa} {f : Nat} {ι : Nat → Nat} {h H h' : AHeap}
open Classical in
def gC (ι : Nat → Nat) (h H h' : AHeap) (b : Nat) : AObj :=
 if b < H.n then (if hx : ∃ s, s < h.n ∧ ι s = b ∧ h'.get s ≠ h.get s then rnO (ιn ι h.n H.n) ((h'.get (Classical.choose hx)).getD .dead) else (H.get b).getD .dead)
 else rnO (ιn ι h.n H.n) ((h'.get (h.n + (b - H.n))).getD .dead)
def qC (ι : Nat → Nat) (h H h' : AHeap) : AHeap := { n := H.n + (h'.n - h.n), t := Tr.ofList ((List.range (H.n + (h'.n - h.n))).map (gC ι h H h')) }
theorem dX (b : Nat) (hb : b < H.n + (h'.n - h.n)) : (qC ι h H h').get b = some (gC ι h H h' b) := by
 show (Tr.ofList _).get? b = _
 rw [Tr.get?_ofList, List.getElem?_map, List.getElem?_range hb]
 rfl
theorem v8 (p : Part ι h H) (hF : H.t.Full H.n) (hF' : h'.t.Full h'.n) (hn : h.n ≤ h'.n) (hpl : ∀ s o, h'.get s = some o → iH o ∧ (o.own = true ∨ o.live = false ∨ (s < h.n ∧ h'.get s = h.get s))) : Whole ι h H h' (qC ι h H h') := by
 have ιo : ∀ s, s < h.n → ιn ι h.n H.n s = ι s := fun s hs => if_pos hs
 have keep : ∀ b, b < H.n → (¬ ∃ s, s < h.n ∧ ι s = b ∧ h'.get s ≠ h.get s) → (qC ι h H h').get b = H.get b := fun b hb hx => by
  rw [dX b (by omega)]
  unfold gC
  rw [if_pos hb, dif_neg hx]
  obtain ⟨o, ho⟩ := kK hF hb
  rw [ho]
  rfl
 refine ⟨?_, rfl, fun b hb hs => keep b hb fun ⟨s, h1, h2, _⟩ => hs s h1 h2, fun s o ho => ?_, fun s hs e => keep _ (p.lt s hs) fun ⟨s', h1, h2, h3⟩ => ?_, fun s o ho hfo => ?_, fun s o ho => (hpl s o ho).2⟩
 · have := Tr.full_ofList ((List.range (H.n + (h'.n - h.n))).map (gC ι h H h'))
   rwa [List.length_map, List.length_range] at this
 · have hsn := dM hF' ho
   by_cases c : s < h.n
   · by_cases e : h'.get s = h.get s
     · obtain ⟨o', g, r⟩ := p.obj s o (by rw [← e]; exact ho)
       refine ⟨o', ?_, r.congr (n := h.n) (fun b hb => (ιo b hb).symm) (p.inn s o (by rw [← e]; exact ho))⟩
       rw [ιo s c, keep _ (p.lt s c) fun ⟨s', h1, h2, h3⟩ => ?_]
       · exact g
       · obtain rfl := p.inj s' s h1 c h2
         exact h3 e
     · have hx : ∃ s', s' < h.n ∧ ι s' = ι s ∧ h'.get s' ≠ h.get s' := ⟨s, c, rfl, e⟩
       refine ⟨rnO (ιn ι h.n H.n) o, ?_, Eb (hpl s o ho).1⟩
       rw [ιo s c, dX _ (by have := p.lt s c; omega)]
       unfold gC
       rw [if_pos (p.lt s c), dif_pos hx]
       have hc := Classical.choose_spec hx
       rw [p.inj _ s hc.1 c hc.2.1, ho]
       rfl
   · refine ⟨rnO (ιn ι h.n H.n) o, ?_, Eb (hpl s o ho).1⟩
     have e : ιn ι h.n H.n s = H.n + (s - h.n) := if_neg c
     rw [e, dX _ (by omega)]
     unfold gC
     rw [if_neg (by omega), show h.n + (H.n + (s - h.n) - H.n) = s by omega, ho]
     rfl
 · obtain rfl := p.inj s' s h1 hs h2
   exact h3 e
 · have hsn := dM hF' ho
   by_cases c : s < h.n
   · by_cases e : h'.get s = h.get s
     · refine .inl ⟨c, keep _ (p.lt s c) fun ⟨s', h1, h2, h3⟩ => ?_⟩
       obtain rfl := p.inj s' s h1 c h2
       exact h3 e
     · refine .inr fun o' ho' => ?_
       have hx : ∃ s', s' < h.n ∧ ι s' = ι s ∧ h'.get s' ≠ h.get s' := ⟨s, c, rfl, e⟩
       rw [ιo s c, dX _ (by have := p.lt s c; omega)] at ho'
       unfold gC at ho'
       rw [if_pos (p.lt s c), dif_pos hx] at ho'
       have hc := Classical.choose_spec hx
       rw [p.inj _ s hc.1 c hc.2.1, ho] at ho'
       obtain rfl := Option.some.inj ho'
       exact qo hfo
   · refine .inr fun o' ho' => ?_
     have e : ιn ι h.n H.n s = H.n + (s - h.n) := if_neg c
     rw [e, dX _ (by omega)] at ho'
     unfold gC at ho'
     rw [if_neg (by omega), show h.n + (H.n + (s - h.n) - H.n) = s by omega, ho] at ho'
     obtain rfl := Option.some.inj ho'
     exact qo hfo
abbrev Sel := (Nat → Nat) → AHeap → List AV → AHeap → Prop
def wM (Q : Sel) (G : List Nat) (call : aa) (f : Nat) (args : List AV) (H : AHeap) (x : AV × AHeap) : Prop :=
 ∃ (ι : Nat → Nat) (h h' : AHeap) (a : List AV) (r : AV), Q ι h a H ∧ Part ι h H ∧ (∀ g, G.contains g = true → g < h.n ∧ ι g = g) ∧ args = br ι a ∧ dz h.n a ∧ call f a h = some (r, h') ∧ x.1 = rnV (ιn ι h.n H.n) r ∧ Whole ι h H h' x.2
open Classical in
def bg (Q : Sel) (G : List Nat) (call : aa) (f : Nat) (args : List AV) (H : AHeap) : Option (AV × AHeap) :=
 if hx : ∃ x, wM Q G call f args H x then some (Classical.choose hx) else none
theorem po {args : List AV} {x : AV × AHeap} (c : wM Q G call f args H x) : ∃ x', bg Q G call f args H = some x' ∧ wM Q G call f args H x' := by
 have hx : ∃ x, wM Q G call f args H x := ⟨x, c⟩
 refine ⟨Classical.choose hx, ?_, Classical.choose_spec hx⟩
 unfold bg
 rw [dif_pos hx]
theorem eH (hc : ct P base G call) {args : List AV} {v : AV} {H' : AHeap} (e : bg Q G call f args H = some (v, H')) :
 bC P f ∧ ∀ ρ w args', HR base ρ H w → Gl G ρ → VRs ρ args args' → Calls P f (List.toArray args') w fun e w' => ∃ ρ' v', e = .returned v' ∧ VR ρ' v v' ∧ HR base ρ' H' w' ∧ Ext ρ H w ρ' H' w' := by
 unfold bg at e
 split at e
 · rename_i hx
   have e' := Option.some.inj e
   have c := Classical.choose_spec hx
   rw [e'] at c
   obtain ⟨ι, h, h', a, r, _, p, hg, rfl, hin, hcall, hv, W⟩ := c
   obtain ⟨k1, k2⟩ := hc f a h r h' hcall
   refine ⟨k1, fun ρ w args' hR hG hA => ?_⟩
   have hGp : Gl G (ρp ρ ι h.n) := fun g hg' => by
    obtain ⟨L, e1, e2⟩ := hG g hg'
    obtain ⟨g1, g2⟩ := hg g hg'
    refine ⟨L, ?_, e2⟩
    show (if g < h.n then ρ (ι g) else none) = _
    rw [if_pos g1, g2]; exact e1
   have hAp : VRs (ρp ρ ι h.n) a args' := j1 (ρ' := ρ) (ι := ι) (n := h.n) (fun b L hb e1 => by show (if b < h.n then ρ (ι b) else none) = _; rw [if_pos hb]; exact e1) hin hA
   refine (k2 _ w args' (p.toHR hR) hGp hAp).mono ?_
   rintro e1 w' ⟨ρs, v1, rfl, hv1, hR1, hE⟩
   obtain ⟨q1, q2, q3⟩ := W.ok p hR hE.n hR1 hE
   refine ⟨_, v1, rfl, ?_, q1, q2⟩
   rw [show v = rnV (ιn ι h.n H.n) r from hv]
   exact qz q3 hv1
 · cases e
end
end
noncomputable section
mutual
def ig (b : Nat) : AV → Prop
 | .ptr c _ => c = b
 | .sl c _ _ _ => c = b
 | .map c => c = b
 | .fn _ a d => fw b a ∨ fw b d
 | .iface _ x => ig b x
 | .agg l => fw b l
 | .tup l => fw b l
 | _ => False
def fw (b : Nat) : List AV → Prop
 | [] => False
 | x :: r => ig b x ∨ fw b r
end
def vJ (b : Nat) : AObj → Prop
 | .cells _ _ n t => ∃ i v, i < n ∧ t.get? i = some v ∧ ig b v
 | .map es _ => ∃ p ∈ es, ig b p.1 ∨ ig b p.2.1
 | _ => False
inductive Rch (H : AHeap) (args : List AV) : Nat → Prop
 | arg {b : Nat} (h : fw b args) : Rch H args b
 | step {b c : Nat} {o : AObj} (h : Rch H args b) (e : H.get b = some o) (k : vJ c o) : Rch H args c
section
variable {ι : Nat → Nat} {n : Nat}
mutual
theorem nw {b : Nat} : ∀ {v : AV}, inV n v → ig b (rnV ι v) → ∃ s, s < n ∧ ι s = b
 | .ptr c _, h, k => ⟨c, h, k⟩
 | .sl c _ _ _, h, k => ⟨c, h, k⟩
 | .map c, h, k => ⟨c, h, k⟩
 | .fn _ a d, ⟨h1, h2⟩, k => k.elim (i6 (v := a) h1) (i6 (v := d) h2)
 | .iface _ x, h, k => nw (v := x) h k
 | .agg l, h, k => i6 (v := l) h k
 | .tup l, h, k => i6 (v := l) h k
 | .bool _, _, k => k.elim
 | .int _ _, _, k => k.elim
 | .str _, _, k => k.elim
 | .nilp, _, k => k.elim
 | .nilsl, _, k => k.elim
 | .nilmap, _, k => k.elim
 | .nilfn, _, k => k.elim
 | .nilif, _, k => k.elim
theorem i6 {b : Nat} : ∀ {v : List AV}, dz n v → fw b (br ι v) → ∃ s, s < n ∧ ι s = b
 | [], _, k => k.elim
 | x :: r, ⟨h1, h2⟩, k => k.elim (nw (v := x) h1) (i6 (v := r) h2)
end
theorem M4 {b : Nat} {o o' : AObj} (r : RnO ι o o') (h : inO n o) (hf : fullO o) (k : vJ b o') : ∃ s, s < n ∧ ι s = b := by
 cases o <;> cases o' <;> first
  | exact r.elim
  | exact k.elim
  | skip
 · obtain ⟨_, _, rfl, hg⟩ := r
   obtain ⟨i, v, hi, hv, hk⟩ := k
   obtain ⟨v0, e0⟩ := Option.isSome_iff_exists.1 ((hf i).2 hi)
   rw [hg i v0 e0] at hv
   obtain rfl := Option.some.inj hv
   exact nw (h i v0 e0) hk
 · obtain ⟨rfl, _⟩ := r
   obtain ⟨p, hp, hk⟩ := k
   obtain ⟨q, hq, rfl⟩ := List.mem_map.1 hp
   exact hk.elim (nw (h q hq).1) (nw (h q hq).2)
end
section
variable {ι ι2 : Nat → Nat} {h h2 h' H H' : AHeap} {a a2 : List AV}
theorem Part.rch (p : Part ι h H) (ha : dz h.n a) {b : Nat} (r : Rch H (br ι a) b) : ∃ s, s < h.n ∧ ι s = b := by
 induction r with
 | arg k => exact i6 ha k
 | step _ e k ih =>
  obtain ⟨s, hs, rfl⟩ := ih
  obtain ⟨q, hq⟩ := kK p.full hs
  obtain ⟨o', g, r⟩ := p.obj s q hq
  rw [e] at g; cases g
  exact M4 r (p.inn s q hq) (p.cf s q hq) k
def I0 (k : Nat) (ι : Nat → Nat) (h : AHeap) (args : List AV) (H : AHeap) : Prop := ∀ s, s < h.n → (s < k ∧ ι s = s) ∨ Rch H args (ι s)
theorem Whole.stays {k : Nat} (p : Part ι h H) (ha : dz h.n a) (t : I0 k ι2 h2 (br ι a) H) (W : Whole ι2 h2 H h' H') {b : Nat} (hb : b < H.n) (hk : k ≤ b) (hno : ∀ s, s < h.n → ι s ≠ b) : H'.get b = H.get b := by
 refine W.old b hb fun s hs e => ?_
 rcases t s hs with ⟨c1, c2⟩ | r
 · omega
 · rw [e] at r
   obtain ⟨s', hs', e'⟩ := p.rch ha r
   exact hno s' hs' e'
end
end
noncomputable section
section
variable {f g : Nat → Nat}
mutual
theorem jj : ∀ (v : AV), rnV f (rnV g v) = rnV (fun b => f (g b)) v
 | .ptr c _ => rfl
 | .sl c _ _ _ => rfl
 | .map c => rfl
 | .fn _ a d => by simp only [rnV, fh a, fh d]
 | .iface _ x => by simp only [rnV, jj x]
 | .agg l => by simp only [rnV, fh l]
 | .tup l => by simp only [rnV, fh l]
 | .bool _ => rfl
 | .int _ _ => rfl
 | .str _ => rfl
 | .nilp => rfl
 | .nilsl => rfl
 | .nilmap => rfl
 | .nilfn => rfl
 | .nilif => rfl
theorem fh : ∀ (v : List AV), br f (br g v) = br (fun b => f (g b)) v
 | [] => rfl
 | x :: r => by simp only [br, jj x, fh r]
end
theorem Kw (es : List (AV × AV × Nat)) : rnE f (rnE g es) = rnE (fun b => f (g b)) es := by
 unfold rnE
 rw [List.map_map]
 exact List.map_congr_left fun p _ => by simp only [Function.comp, jj]
theorem RnO.comp {o o1 o2 : AObj} (r : RnO g o o1) (r2 : RnO f o1 o2) : RnO (fun b => f (g b)) o o2 := by
 cases o <;> cases o1 <;> first
  | exact r.elim
  | skip
 · cases o2 <;> first
    | exact r2.elim
    | skip
   obtain ⟨rfl, rfl, rfl, a⟩ := r
   obtain ⟨rfl, rfl, rfl, b2⟩ := r2
   refine ⟨rfl, rfl, rfl, fun i v e => ?_⟩
   rw [b2 i _ (a i v e), jj]
 · cases o2 <;> first
    | exact r2.elim
    | skip
   obtain ⟨rfl, rfl⟩ := r
   obtain ⟨rfl, rfl⟩ := r2
   exact ⟨Kw _, rfl⟩
 · cases o2 <;> first
    | exact r2.elim
    | exact trivial
end
section
variable {ι σ : Nat → Nat} {h H h' H' T : AHeap}
theorem ιn_inj (p : Part ι h H) {b b' : Nat} (e : ιn ι h.n H.n b = ιn ι h.n H.n b') : b = b' := by
 unfold ιn at e
 by_cases c : b < h.n <;> by_cases c' : b' < h.n
 · rw [if_pos c, if_pos c'] at e; exact p.inj b b' c c' e
 · rw [if_pos c, if_neg c'] at e; have := p.lt b c; omega
 · rw [if_neg c, if_pos c'] at e; have := p.lt b' c'; omega
 · rw [if_neg c, if_neg c'] at e; omega
theorem ιn_lt (p : Part ι h H) (W : Whole ι h H h' H') (hn : h.n ≤ h'.n) {b : Nat} (hb : b < h'.n) : ιn ι h.n H.n b < H'.n := by
 rw [W.n]
 unfold ιn
 by_cases c : b < h.n
 · rw [if_pos c]; have := p.lt b c; omega
 · rw [if_neg c]; omega
theorem Part.next (p : Part ι h H) (W : Whole ι h H h' H') (hn : h.n ≤ h'.n) (q : Part σ T h') : Part (fun j => ιn ι h.n H.n (σ j)) T H' := {
 full := q.full
 lt b hb := ιn_lt p W hn (q.lt b hb)
 inj b b' hb hb' e := q.inj b b' hb hb' (ιn_inj p e)
 obj b o e := by
  obtain ⟨o1, e1, r1⟩ := q.obj b o e
  obtain ⟨o2, e2, r2⟩ := W.part _ o1 e1
  exact ⟨o2, e2, r1.comp r2⟩
 inn := q.inn
 cf := q.cf}
theorem ιn_out {b : Nat} (hb : b < H.n) (hno : ∀ s, s < h.n → ι s ≠ b) (s : Nat) : ιn ι h.n H.n s ≠ b := by
 unfold ιn
 by_cases c : s < h.n
 · rw [if_pos c]; exact hno s c
 · rw [if_neg c]; omega
end
end
noncomputable section
inductive TO where
 | c (ro : Bool) (e : Nat) (l : List AV)
 | m (es : List (AV × AV × Nat)) (k : Nat)
 | d
def TO.obj : TO → AObj
 | .c ro e l => .cells ro e l.length (Tr.ofList l)
 | .m es k => .map es k
 | .d => .dead
def nm (s : List Nat) (j : Nat) : Nat := s.getD j 0
end
noncomputable section
section
variable {ι : Nat → Nat}
mutual
theorem jx {b : Nat} : ∀ {v : AV}, ig b v → ig (ι b) (rnV ι v)
 | .ptr _ _, k => congrArg ι k
 | .sl _ _ _ _, k => congrArg ι k
 | .map _, k => congrArg ι k
 | .fn _ a d, k => k.imp (fv (v := a)) (fv (v := d))
 | .iface _ x, k => jx (v := x) k
 | .agg l, k => fv (v := l) k
 | .tup l, k => fv (v := l) k
 | .bool _, k => k.elim
 | .int _ _, k => k.elim
 | .str _, k => k.elim
 | .nilp, k => k.elim
 | .nilsl, k => k.elim
 | .nilmap, k => k.elim
 | .nilfn, k => k.elim
 | .nilif, k => k.elim
theorem fv {b : Nat} : ∀ {v : List AV}, fw b v → fw (ι b) (br ι v)
 | [], k => k.elim
 | x :: r, k => k.imp (jx (v := x)) (fv (v := r))
end
theorem Hr {b : Nat} {o o' : AObj} (r : RnO ι o o') (k : vJ b o) : vJ (ι b) o' := by
 cases o <;> cases o' <;> first
  | exact r.elim
  | exact k.elim
  | skip
 · obtain ⟨_, _, rfl, hg⟩ := r
   obtain ⟨i, v, hi, hv, hk⟩ := k
   exact ⟨i, _, hi, hg i v hv, jx hk⟩
 · obtain ⟨rfl, _⟩ := r
   obtain ⟨p, hp, hk⟩ := k
   exact ⟨_, List.mem_map_of_mem hp, hk.imp jx jx⟩
end
def ue (k : Nat) (h : AHeap) (a : List AV) : Prop := ∀ s, k ≤ s → s < h.n → fw s a ∨ ∃ s' o, k ≤ s' ∧ s' < s ∧ h.get s' = some o ∧ vJ s o
section
variable {ι : Nat → Nat} {h H : AHeap} {a : List AV} {k : Nat}
theorem Part.tight (p : Part ι h H) (g : ue k h a) (hk : ∀ s, s < k → ι s = s) : I0 k ι h (br ι a) H := by
 have key : ∀ m s, s < m → k ≤ s → s < h.n → Rch H (br ι a) (ι s) := by
  intro m
  induction m with
  | zero => intro s hs; omega
  | succ m ih =>
   intro s hs h1 h2
   rcases g s h1 h2 with c | ⟨s', o, c1, c2, c3, c4⟩
   · exact .arg (fv c)
   · obtain ⟨o', e, r⟩ := p.obj s' o c3
     exact .step (ih s' (by omega) c1 (dM p.full c3)) e (Hr r c4)
 intro s hs
 by_cases c : s < k
 · exact .inl ⟨c, hk s c⟩
 · exact .inr (key (s + 1) s (by omega) (by omega) hs)
end
def dd (b : Nat) : AV → Bool
 | .ptr c _ => Nat.beq c b
 | .sl c _ _ _ => Nat.beq c b
 | .map c => Nat.beq c b
 | _ => false
theorem kI {b : Nat} {v : AV} (h : dd b v = true) : ig b v := by
 cases v <;> first
  | exact Nat.eq_of_beq_eq_true h
  | cases h
def xf (b : Nat) (l : List AV) : Bool := List.rec (motive := fun _ => Bool) false (fun v _ r => cond (dd b v) true r) l
theorem qc {b : Nat} : ∀ {l : List AV}, xf b l = true → ∃ (i : Nat) (v : AV), l[i]? = some v ∧ ig b v
 | [], h => by cases h
 | v :: l, h => by
  have h : cond (dd b v) true (xf b l) = true := h
  cases c : dd b v with
  | true => exact ⟨0, v, rfl, kI c⟩
  | false =>
   rw [c] at h
   obtain ⟨i, w, e, k⟩ := qc (l := l) h
   exact ⟨i + 1, w, e, k⟩
theorem DR {b : Nat} : ∀ {l : List AV} {i : Nat} {v : AV}, l[i]? = some v → ig b v → fw b l
 | [], i, v, e, _ => by simp at e
 | x :: r, 0, v, e, k => by simp at e; subst e; exact .inl k
 | x :: r, i + 1, v, e, k => .inr (DR (l := r) (i := i) (by simpa using e) k)
end
noncomputable section
def QT (R : AHeap → List AV → Prop) (k : Nat) : Sel := fun ι h a H => R h a ∧ I0 k ι h (br ι a) H ∧ ∀ s, s < k → ι s = s
def ir (h h' : AHeap) : Prop := h'.t.Full h'.n ∧ h.n ≤ h'.n ∧ ∀ s o, h'.get s = some o → iH o ∧ (o.own = true ∨ o.live = false ∨ (s < h.n ∧ h'.get s = h.get s))
theorem kB {R : AHeap → List AV → Prop} {k : Nat} {G : List Nat} {call : aa} {f : Nat} (hG : ∀ g, G.contains g = true → g < k)
 (hR : ∀ h a, R h a → dz h.n a ∧ k ≤ h.n ∧ ue k h a ∧ ∃ r h', call f a h = some (r, h') ∧ ir h h')
 {ι : Nat → Nat} {h : AHeap} {a : List AV} {H : AHeap} (p : Part ι h H) (hF : H.t.Full H.n) (hk : ∀ s, s < k → ι s = s) (hr : R h a) :
 ∃ v H', bg (QT R k) G call f (br ι a) H = some (v, H') ∧ ∃ ι2 h2 a2 r2 h2', R h2 a2 ∧ Part ι2 h2 H ∧ (∀ s, s < k → ι2 s = s) ∧ br ι a = br ι2 a2 ∧ call f a2 h2 = some (r2, h2') ∧ v = rnV (ιn ι2 h2.n H.n) r2 ∧ Whole ι2 h2 H h2' H' ∧
  ∀ b, b < H.n → k ≤ b → (∀ s, s < h.n → ι s ≠ b) → H'.get b = H.get b ∧ ∀ s, s < h2.n → ι2 s ≠ b := by
 obtain ⟨hin, hkn, hang, r, h', hc, hl⟩ := hR h a hr
 have w := v8 p hF hl.1 hl.2.1 hl.2.2
 have c1 : wM (QT R k) G call f (br ι a) H (rnV (ιn ι h.n H.n) r, qC ι h H h') :=
  ⟨ι, h, h', a, r, ⟨hr, p.tight hang hk, hk⟩, p, fun g hg => ⟨by have := hG g hg; omega, hk g (hG g hg)⟩, rfl, hin, hc, rfl, w⟩
 obtain ⟨⟨v, H'⟩, e, c2⟩ := po c1
 obtain ⟨ι2, h2, h2', a2, r2, ⟨hr2, t2, hk2⟩, p2, _, ea, _, hc2, hv, W2⟩ := c2
 refine ⟨v, H', e, ι2, h2, a2, r2, h2', hr2, p2, hk2, ea, hc2, hv, W2, fun b hb hkb hno => ?_⟩
 rw [← ea] at t2
 refine ⟨W2.stays p hin t2 hb hkb hno, fun s hs eb => ?_⟩
 rcases t2 s hs with ⟨c, c'⟩ | rr
 · omega
 · rw [eb] at rr
   obtain ⟨s', hs', e'⟩ := p.rch hin rr
   exact hno s' hs' e'
end
noncomputable section
def py : AV → Bool
 | .nilif => true
 | _ => false
def rn1 (s : Nat → Nat) (v : AV) : AV := (match v with
 | .ptr b o => fun s _ => .ptr (s b) o
 | .sl b o l c => fun s _ => .sl (s b) o l c
 | .map b => fun s _ => .map (s b)
 | _ => fun _ v => v : (Nat → Nat) → AV → AV) s v
def okA (n : Nat) (v : AV) : Bool := (match v with
 | .ptr b _ => fun n => Nat.ble (Nat.succ b) n
 | .sl b _ _ _ => fun n => Nat.ble (Nat.succ b) n
 | .map b => fun n => Nat.ble (Nat.succ b) n
 | .agg l => fun _ => re l
 | .bool _ => fun _ => true
 | .int _ _ => fun _ => true
 | .str _ => fun _ => true
 | .nilp => fun _ => true
 | .nilsl => fun _ => true
 | .nilmap => fun _ => true
 | .nilfn => fun _ => true
 | .nilif => fun _ => true
 | _ => fun _ => false : Nat → Bool) n
section
variable {s : Nat → Nat} {n : Nat}
theorem DX : ∀ {l : List AV}, re l = true → br s l = l ∧ dz n l
 | [], _ => ⟨rfl, trivial⟩
 | a :: r, h => by
  obtain ⟨g1, g2⟩ := ak (show aq _ _ = true from h)
  obtain ⟨e1, e2⟩ := DX g2
  cases a <;> (try cases g1; done) <;> exact ⟨by simp only [br, rnV, e1], trivial, e2⟩
theorem eo {v : AV} (h : okA n v = true) : rn1 s v = rnV s v ∧ inV n v := by
 cases v <;> (try cases h; done)
 case ptr b o => exact ⟨rfl, Nat.le_of_ble_eq_true h⟩
 case sl b o l c => exact ⟨rfl, Nat.le_of_ble_eq_true h⟩
 case map b => exact ⟨rfl, Nat.le_of_ble_eq_true h⟩
 case agg l =>
  obtain ⟨e1, e2⟩ := DX (s := s) (n := n) (show re l = true from h)
  exact ⟨by simp only [rnV, e1]; rfl, e2⟩
 all_goals exact ⟨rfl, trivial⟩
theorem eh (v : AV) : rn1 (fun b => b) v = v := by cases v <;> rfl
end
def hd0 {X : Type} (l : List AV) (k : Option AV → List AV → X) : X := List.rec (motive := fun _ => X) (k none []) (fun a r _ => k (some a) r) l
theorem T4 {X : Type} (l : List AV) (k : Option AV → List AV → X) : hd0 l k = k l.head? l.tail := by cases l <;> rfl
def SA (l : List AV) : N16 (Option AV) :=
 hd0 l fun x0 l => hd0 l fun x1 l => hd0 l fun x2 l => hd0 l fun x3 l => hd0 l fun x4 l => hd0 l fun x5 l => hd0 l fun x6 l => hd0 l fun x7 l => hd0 l fun x8 l => hd0 l fun x9 l => hd0 l fun x10 l => hd0 l fun x11 l => hd0 l fun x12 l => hd0 l fun x13 l => hd0 l fun x14 l => hd0 l fun x15 _ => ⟨x0, x1, x2, x3, x4, x5, x6, x7, x8, x9, x10, x11, x12, x13, x14, x15⟩
def tlN : Nat → List AV → List AV
 | 0, l => l
 | j + 1, l => tlN j l.tail
theorem Dt : ∀ (j : Nat) (l : List AV), (tlN j l).head? = l[j]?
 | 0, l => by cases l <;> rfl
 | j + 1, l => by
  rw [tlN, Dt j]
  cases l with
  | nil => simp
  | cons a l => rfl
theorem GY (l : List AV) {i : Nat} (hi : i < 16) : N16.gd i (SA l) = l[i]? := by
 rw [← Dt i l]
 unfold SA
 simp only [T4]
 iterate 16 (cases i; rfl; rename_i i)
 omega
def trL (n : Nat) (l : List AV) : Tr AV := cond (Nat.ble n 16) (.t1 (SA l)) (Tr.ofList l)
theorem ja {n : Nat} {l : List AV} (h : l.length = n) (i : Nat) : (trL n l).get? i = l[i]? := by
 unfold trL
 cases c : Nat.ble n 16 with
 | false => exact Tr.get?_ofList l i
 | true =>
  have c := Nat.le_of_ble_eq_true c
  show (Tr.t1 _).get? i = _
  rw [iP]
  by_cases hi : i < 16
  · rw [if_pos hi, GY l hi]
  · rw [if_neg hi, List.getElem?_eq_none (by omega)]
theorem FZ {n : Nat} {l : List AV} (h : l.length = n) : (trL n l).Full n := fun i => by
 rw [ja h]
 by_cases c : i < l.length
 · rw [List.getElem?_eq_getElem c]; simp; omega
 · rw [List.getElem?_eq_none (by omega)]; simp; omega
def plA (v : AV) : Bool := match v with
 | .int _ _ => true
 | .bool _ => true
 | _ => false
theorem vm {v : AV} (h : plA v = true) (s : Nat → Nat) (n : Nat) : rnV s v = v ∧ inV n v := by cases v <;> first | exact ⟨rfl, trivial⟩ | cases h
def exL (s : Nat → Nat) (y : Nat → Int) (l : List AV) : Nat → List AV := List.rec (motive := fun _ => Nat → List AV) (fun _ => []) (fun a _ ih i => cond (py a) (.int .i64 (y i)) (rn1 s a) :: ih (Nat.succ i)) l
theorem jC (s : Nat → Nat) (y : Nat → Int) : ∀ (l : List AV) (i j : Nat), (exL s y l i)[j]? = l[j]?.map fun a => cond (py a) (.int .i64 (y (i + j))) (rn1 s a)
 | [], i, j => by simp [exL]
 | a :: l, i, 0 => by simp [exL]
 | a :: l, i, j + 1 => by
  show (_ :: exL s y l (Nat.succ i))[j + 1]? = _
  rw [List.getElem?_cons_succ, jC s y l, List.getElem?_cons_succ, show Nat.succ i + j = i + (j + 1) by omega]
theorem rh (s : Nat → Nat) (y : Nat → Int) : ∀ (l : List AV) (i : Nat), (exL s y l i).length = l.length
 | [], _ => rfl
 | _a :: l, i => congrArg Nat.succ (rh s y l (Nat.succ i))
def exE (s : Nat → Nat) (z : Nat → Nat) (l : List (AV × AV)) : Nat → List (AV × AV × Nat) := List.rec (motive := fun _ => Nat → List (AV × AV × Nat)) (fun _ => []) (fun a _ ih i => (rn1 s a.1, rn1 s a.2, z i) :: ih (Nat.succ i)) l
def exF (s : Nat → Nat) (l : List (AV × AV × Nat)) : List (AV × AV × Nat) := List.rec (motive := fun _ => List (AV × AV × Nat)) [] (fun a _ ih => (rn1 s a.1, rn1 s a.2.1, a.2.2) :: ih) l
def plW (y : Nat → Int) (i : Nat) (a : AV) : AV := (match a with
 | .int k n => fun _ _ => .int k n
 | _ => fun y i => .int .i64 (y i) : (Nat → Int) → Nat → AV) y i
theorem Lm (y : Nat → Int) (i : Nat) (a : AV) : ∃ k n, plW y i a = .int k n := by cases a <;> exact ⟨_, _, rfl⟩
def MA (y : Nat → Int) (o : Nat) (c : N16 AV) : N16 (Option AV) := N16.rec (motive := fun _ => N16 (Option AV))
 (fun a b c d e f g h i j k l m n p q => ⟨some (plW y o a), some (plW y (Nat.add o 1) b), some (plW y (Nat.add o 2) c), some (plW y (Nat.add o 3) d), some (plW y (Nat.add o 4) e), some (plW y (Nat.add o 5) f), some (plW y (Nat.add o 6) g), some (plW y (Nat.add o 7) h),
  some (plW y (Nat.add o 8) i), some (plW y (Nat.add o 9) j), some (plW y (Nat.add o 10) k), some (plW y (Nat.add o 11) l), some (plW y (Nat.add o 12) m), some (plW y (Nat.add o 13) n), some (plW y (Nat.add o 14) p), some (plW y (Nat.add o 15) q)⟩) c
theorem HE (y : Nat → Int) (o : Nat) (c : N16 AV) {i : Nat} (hi : i < 16) : ∃ k n, N16.gd i (MA y o c) = some (.int k n) := by
 have key : ∃ (j : Nat) (a : AV), N16.gd i (MA y o c) = some (plW y j a) := by
  cases c
  iterate 16 (cases i; exact ⟨_, _, rfl⟩; rename_i i)
  omega
 obtain ⟨j, a, e⟩ := key
 obtain ⟨k, n, e2⟩ := Lm y j a
 exact ⟨k, n, by rw [e, e2]⟩
def z16 : N16 (Option AV) := N16.tab fun _ => some (.int .i64 0)
def FU : Q2 AV := N16.tab fun _ => z16
def Rz (y : Nat → Int) (cs : List (N16 AV)) : Nat → Nat → Q2 AV → Q2 AV := List.rec (motive := fun _ => Nat → Nat → Q2 AV → Q2 AV) (fun _ _ q => q) (fun c _ ih j o q => ih (Nat.succ j) (Nat.add o 16) (N16.ud j (fun _ => MA y o c) q)) cs
def wtr (y : Nat → Int) (cs : List (N16 AV)) : Tr AV := .t3 (N16.u0 (fun _ => Rz y cs 4 64 FU) (N16.u1 (fun _ => FU) (N16.tab fun _ => Q2.nil))) .nil
def WkQ (q : Q2 AV) : Prop := ∀ j k, j < 16 → k < 16 → ∃ t n, N16.gd k (N16.gd j q) = some (.int t n)
theorem Dn : WkQ FU := fun j k hj hk => ⟨.i64, 0, by unfold FU z16; rw [N16.gd_tab _ _ hj, N16.gd_tab _ _ hk]⟩
theorem DA (y : Nat → Int) : ∀ (cs : List (N16 AV)) (j o : Nat) (q : Q2 AV), WkQ q → j + cs.length ≤ 16 → WkQ (Rz y cs j o q)
 | [], _, _, _, h, _ => h
 | c :: cs, j, o, q, h, hl => by
  show WkQ (Rz y cs (Nat.succ j) (Nat.add o 16) (N16.ud j (fun _ => MA y o c) q))
  refine DA y cs _ _ _ (fun i k hi hk => ?_) (by simp at hl; omega)
  rw [N16.gd_ud _ _ _ _ hi (by simp at hl; omega)]
  by_cases e : i = j
  · rw [if_pos e]; exact HE y o c hk
  · rw [if_neg e]; exact h i k hi hk
theorem Dp (y : Nat → Int) {cs : List (N16 AV)} (hc : cs.length ≤ 12) (i : Nat) : if i < 512 then ∃ t n, (wtr y cs).get? i = some (.int t n) else (wtr y cs).get? i = none := by
 unfold wtr
 rw [ij]
 by_cases h : i < 4096
 · rw [if_pos h]
   have e : ∀ a : Q3 AV, Q3.get a i = N16.gd (i % 16) (N16.gd (i / 16 % 16) (N16.gd (i / 256) a)) := fun a => rfl
   rw [e, N16.gd_u0 _ _ _ (by omega), N16.gd_u1 _ _ _ (by omega)]
   by_cases h0 : i / 256 = 0
   · rw [if_pos h0, if_pos (by omega)]
     exact DA y cs 4 64 FU Dn (by omega) _ _ (by omega) (by omega)
   · rw [if_neg h0]
     by_cases h1 : i / 256 = 1
     · rw [if_pos h1, if_pos (by omega)]
       exact Dn _ _ (by omega) (by omega)
     · rw [if_neg h1, if_neg (by omega), N16.gd_tab _ _ (by omega)]
       show N16.gd (i % 16) (N16.gd (i / 16 % 16) (N16.tab fun _ => Q1.nil)) = none
       rw [N16.gd_tab _ _ (by omega), Q1.get_nil _ (by omega)]
 · rw [if_neg h, if_neg (by omega)]; rfl
theorem FV (y : Nat → Int) {cs : List (N16 AV)} (hc : cs.length ≤ 12) : (wtr y cs).Full 512 := fun i => by
 have := Dp y hc i
 by_cases h : i < 512
 · rw [if_pos h] at this
   obtain ⟨t, n, e⟩ := this
   simp [e, h]
 · rw [if_neg h] at this
   simp [this, h]
inductive TM where
 | c (e : Nat) (l : List AV)
 | w (l : List (N16 AV))
 | m (es : List (AV × AV))
 | f (es : List (AV × AV × Nat)) (k : Nat)
 | k (e n : Nat) (t : Tr AV)
abbrev Ys := Nat → Nat → Int
abbrev Zs := Nat → Nat → Nat
def exO (s : Nat → Nat) (Y : Ys) (Z : Zs) (j : Nat) (x : TM) : AObj := (match x with
 | .c e l => fun s Y _ j => .cells false e l.length (trL l.length (exL s (Y j) l 0))
 | .w cs => fun _ Y _ j => .cells false 1 512 (wtr (Y j) cs)
 | .m es => fun s _ Z j => .map (exE s (Z j) es 1) (Z j 0)
 | .f es k => fun s _ _ _ => .map (exF s es) k
 | .k e n t => fun _ _ _ _ => .cells false e n t : (Nat → Nat) → Ys → Zs → Nat → AObj) s Y Z j
def okL (n : Nat) (l : List AV) : Bool := List.rec (motive := fun _ => Bool) true (fun a _ ih => aq (okA n a) ih) l
theorem mZ {n : Nat} : ∀ {l : List AV}, okL n l = true → ∀ (i : Nat) (a : AV), l[i]? = some a → okA n a = true
 | [], _, i, a, e => by simp at e
 | x :: l, h, i, a, e => by
  obtain ⟨h1, h2⟩ := ak (show aq (okA n x) (okL n l) = true from h)
  cases i with
  | zero => simp at e; subst e; exact h1
  | succ i => exact mZ h2 i a (by simpa using e)
def Lz (n : Nat) (l : List (AV × AV)) : Bool := List.rec (motive := fun _ => Bool) true (fun a _ ih => aq (okA n a.1) (aq (okA n a.2) ih)) l
def Ly (n : Nat) (l : List (AV × AV × Nat)) : Bool := List.rec (motive := fun _ => Bool) true (fun a _ ih => aq (okA n a.1) (aq (okA n a.2.1) ih)) l
def dC {α : Type} (f : Nat → α → Bool) (o s : Nat) (a : N16 α) : Bool := N16.rec (motive := fun _ => Bool) (fun x0 x1 x2 x3 x4 x5 x6 x7 x8 x9 x10 x11 x12 x13 x14 x15 => aq (f o x0) (aq (f (Nat.add o (Nat.mul 1 s)) x1) (aq (f (Nat.add o (Nat.mul 2 s)) x2) (aq (f (Nat.add o (Nat.mul 3 s)) x3) (aq (f (Nat.add o (Nat.mul 4 s)) x4) (aq (f (Nat.add o (Nat.mul 5 s)) x5) (aq (f (Nat.add o (Nat.mul 6 s)) x6) (aq (f (Nat.add o (Nat.mul 7 s)) x7) (aq (f (Nat.add o (Nat.mul 8 s)) x8) (aq (f (Nat.add o (Nat.mul 9 s)) x9) (aq (f (Nat.add o (Nat.mul 10 s)) x10) (aq (f (Nat.add o (Nat.mul 11 s)) x11) (aq (f (Nat.add o (Nat.mul 12 s)) x12) (aq (f (Nat.add o (Nat.mul 13 s)) x13) (aq (f (Nat.add o (Nat.mul 14 s)) x14) (f (Nat.add o (Nat.mul 15 s)) x15)))))))))))))))) a
theorem cU {α : Type} {f : Nat → α → Bool} {o s : Nat} {a : N16 α} (h : dC f o s a = true) : ∀ i, i < 16 → f (o + i * s) (N16.gd i a) = true := by
 obtain ⟨x0, x1, x2, x3, x4, x5, x6, x7, x8, x9, x10, x11, x12, x13, x14, x15⟩ := a
 obtain ⟨h0, h⟩ := ak (show aq _ _ = true from h)
 obtain ⟨h1, h⟩ := ak h
 obtain ⟨h2, h⟩ := ak h
 obtain ⟨h3, h⟩ := ak h
 obtain ⟨h4, h⟩ := ak h
 obtain ⟨h5, h⟩ := ak h
 obtain ⟨h6, h⟩ := ak h
 obtain ⟨h7, h⟩ := ak h
 obtain ⟨h8, h⟩ := ak h
 obtain ⟨h9, h⟩ := ak h
 obtain ⟨h10, h⟩ := ak h
 obtain ⟨h11, h⟩ := ak h
 obtain ⟨h12, h⟩ := ak h
 obtain ⟨h13, h⟩ := ak h
 obtain ⟨h14, h⟩ := ak h
 intro i hi
 cases i
 · rw [Nat.zero_mul]; exact h0
 rename_i i
 cases i
 · exact h1
 rename_i i
 cases i
 · exact h2
 rename_i i
 cases i
 · exact h3
 rename_i i
 cases i
 · exact h4
 rename_i i
 cases i
 · exact h5
 rename_i i
 cases i
 · exact h6
 rename_i i
 cases i
 · exact h7
 rename_i i
 cases i
 · exact h8
 rename_i i
 cases i
 · exact h9
 rename_i i
 cases i
 · exact h10
 rename_i i
 cases i
 · exact h11
 rename_i i
 cases i
 · exact h12
 rename_i i
 cases i
 · exact h13
 rename_i i
 cases i
 · exact h14
 rename_i i
 cases i
 · exact h
 rename_i i
 omega
def plC (n i : Nat) (x : Option AV) : Bool := Option.rec (motive := fun _ => Bool) (Nat.ble n i) (fun v => aq (Nat.ble (Nat.succ i) n) (plA v)) x
theorem vl {n i : Nat} {x : Option AV} (h : plC n i x = true) : (x.isSome = true ↔ i < n) ∧ ∀ v, x = some v → plA v = true := by
 cases x with
 | none =>
  have := Nat.le_of_ble_eq_true (show Nat.ble n i = true from h)
  exact ⟨⟨fun c => (by cases c), fun c => by omega⟩, fun o c => by cases c⟩
 | some o =>
  obtain ⟨h1, h2⟩ := ak (show aq _ _ = true from h)
  exact ⟨⟨fun _ => Nat.le_of_ble_eq_true h1, fun _ => rfl⟩, fun o' c => by cases c; exact h2⟩
def Hv (n : Nat) (t : Tr AV) : Bool := Tr.rec (motive := fun _ => Bool)
 (fun a => aq (Nat.ble n 16) (dC (plC n) 0 1 a))
 (fun a => aq (Nat.ble n 256) (dC (fun o c => dC (plC n) o 1 c) 0 16 a))
 (fun _ _ => false) t
theorem xz {n : Nat} {t : Tr AV} (h : Hv n t = true) : t.Full n ∧ ∀ i v, t.get? i = some v → plA v = true := by
 have key : (∀ b, ((t.get? b).isSome = true ↔ b < n) ∧ ∀ o, t.get? b = some o → plA o = true) → t.Full n ∧ ∀ b o, t.get? b = some o → plA o = true := fun q => ⟨fun b => (q b).1, fun b o e => (q b).2 o e⟩
 cases t with
 | t1 a =>
  obtain ⟨h1, h2⟩ := ak (show aq (Nat.ble n 16) (dC (plC n) 0 1 a) = true from h)
  have h1 := Nat.le_of_ble_eq_true h1
  refine key fun b => ?_
  rw [iP]
  by_cases c : b < 16
  · rw [if_pos c]
    have := vl (cU h2 b c)
    rwa [show 0 + b * 1 = b by omega] at this
  · rw [if_neg c]
    exact ⟨⟨fun c => (by cases c), fun c => by omega⟩, fun o c => by cases c⟩
 | t2 a =>
  obtain ⟨h1, h2⟩ := ak (show aq (Nat.ble n 256) (dC (fun o c => dC (plC n) o 1 c) 0 16 a) = true from h)
  have h1 := Nat.le_of_ble_eq_true h1
  refine key fun b => ?_
  rw [jy]
  by_cases c : b < 256
  · rw [if_pos c]
    have := vl (cU (cU h2 (b / 16) (by omega)) (b % 16) (by omega))
    rw [show 0 + b / 16 * 16 + b % 16 * 1 = b by omega] at this
    exact this
  · rw [if_neg c]
    exact ⟨⟨fun c => (by cases c), fun c => by omega⟩, fun o c => by cases c⟩
 | t3 a b => cases h
def okT (n : Nat) (x : TM) : Bool := (match x with
 | .c _ l => fun n => okL n l
 | .w cs => fun _ => Nat.ble cs.length 12
 | .m es => fun n => Lz n es
 | .f es _ => fun n => Ly n es
 | .k _ n t => fun _ => Hv n t : Nat → Bool) n
section
variable {s : Nat → Nat} {n : Nat} {Y : Ys} {Z : Zs}
abbrev idN : Nat → Nat := fun b => b
theorem Hx (z : Nat → Nat) : ∀ {l : List (AV × AV)} {i : Nat}, Lz n l = true → exE s z l i = rnE s (exE idN z l i) ∧ ∀ p ∈ exE idN z l i, inV n p.1 ∧ inV n p.2.1
 | [], _, _ => ⟨rfl, fun _ h => by cases h⟩
 | a :: l, i, h => by
  obtain ⟨h1, h⟩ := ak (show aq (okA n a.1) (aq (okA n a.2) (Lz n l)) = true from h)
  obtain ⟨h2, h3⟩ := ak h
  obtain ⟨e1, e2⟩ := Hx z (l := l) (i := Nat.succ i) h3
  obtain ⟨a1, a2⟩ := eo (s := s) h1
  obtain ⟨b1, b2⟩ := eo (s := s) h2
  have ee : ∀ s', exE s' z (a :: l) i = (rn1 s' a.1, rn1 s' a.2, z i) :: exE s' z l (Nat.succ i) := fun _ => rfl
  refine ⟨?_, fun p hp => ?_⟩
  · rw [ee, ee, e1, a1, b1, eh, eh]; rfl
  · rw [ee, eh, eh] at hp
    rcases List.mem_cons.1 hp with rfl | hp
    · exact ⟨a2, b2⟩
    · exact e2 p hp
theorem Hw : ∀ {l : List (AV × AV × Nat)}, Ly n l = true → exF s l = rnE s (exF idN l) ∧ ∀ p ∈ exF idN l, inV n p.1 ∧ inV n p.2.1
 | [], _ => ⟨rfl, fun _ h => by cases h⟩
 | a :: l, h => by
  obtain ⟨h1, h⟩ := ak (show aq (okA n a.1) (aq (okA n a.2.1) (Ly n l)) = true from h)
  obtain ⟨h2, h3⟩ := ak h
  obtain ⟨e1, e2⟩ := Hw (l := l) h3
  obtain ⟨a1, a2⟩ := eo (s := s) h1
  obtain ⟨b1, b2⟩ := eo (s := s) h2
  have ee : ∀ s', exF s' (a :: l) = (rn1 s' a.1, rn1 s' a.2.1, a.2.2) :: exF s' l := fun _ => rfl
  refine ⟨?_, fun p hp => ?_⟩
  · rw [ee, ee, e1, a1, b1, eh, eh]; rfl
  · rw [ee, eh, eh] at hp
    rcases List.mem_cons.1 hp with rfl | hp
    · exact ⟨a2, b2⟩
    · exact e2 p hp
theorem rf {j : Nat} {x : TM} (h : okT n x = true) : RnO s (exO idN Y Z j x) (exO s Y Z j x) ∧ inO n (exO idN Y Z j x) ∧ fullO (exO idN Y Z j x) ∧ iH (exO idN Y Z j x) ∧ (exO idN Y Z j x).own = true := by
 cases x with
 | c e l =>
  have h : okL n l = true := h
  have hl : ∀ s, (exL s (Y j) l 0).length = l.length := fun s => rh s (Y j) l 0
  refine ⟨⟨rfl, rfl, rfl, fun i v hv => ?_⟩, fun i v hv => ?_, FZ (hl _), trivial, rfl⟩
  · rw [ja (hl _), jC] at hv
    rw [ja (hl _), jC]
    obtain ⟨a, ha, rfl⟩ := Option.map_eq_some_iff.1 hv
    rw [ha]
    cases c : py a with
    | true => simp only [Option.map_some, c, cond_true, rnV]
    | false => simp only [Option.map_some, c, cond_false, eh, (eo (s := s) (mZ h i a ha)).1]
  · rw [ja (hl _), jC] at hv
    obtain ⟨a, ha, rfl⟩ := Option.map_eq_some_iff.1 hv
    cases c : py a with
    | true => exact trivial
    | false => simp only [cond_false, eh]; exact (eo (s := s) (mZ h i a ha)).2
 | w cs =>
  have h : cs.length ≤ 12 := Nat.le_of_ble_eq_true h
  have key : ∀ i v, (wtr (Y j) cs).get? i = some v → ∃ t n, v = .int t n := fun i v hv => by
   have := Dp (Y j) h i
   by_cases c : i < 512
   · rw [if_pos c] at this
     obtain ⟨t, n, e⟩ := this
     rw [hv] at e; cases e
     exact ⟨t, n, rfl⟩
   · rw [if_neg c, hv] at this; cases this
  refine ⟨⟨rfl, rfl, rfl, fun i v hv => ?_⟩, fun i v hv => ?_, FV _ h, trivial, rfl⟩
  · obtain ⟨t, n, rfl⟩ := key i v hv
    exact hv
  · obtain ⟨t, n, rfl⟩ := key i v hv
    exact trivial
 | m es =>
  obtain ⟨e1, e2⟩ := Hx (s := s) (Z j) (i := 1) (show Lz n es = true from h)
  exact ⟨⟨e1, rfl⟩, e2, trivial, trivial, rfl⟩
 | f es k =>
  obtain ⟨e1, e2⟩ := Hw (s := s) (show Ly n es = true from h)
  exact ⟨⟨e1, rfl⟩, e2, trivial, trivial, rfl⟩
 | k e m t =>
  obtain ⟨f1, f2⟩ := xz (show Hv m t = true from h)
  exact ⟨⟨rfl, rfl, rfl, fun i v hv => by rw [(vm (f2 i v hv) s n).1]; exact hv⟩, fun i v hv => (vm (f2 i v hv) s n).2, f1, trivial, rfl⟩
end
end
noncomputable section
def aC {α : Type} (l : List α) : Nat := List.rec (motive := fun _ => Nat) 0 (fun _ _ n => Nat.succ n) l
theorem de {α : Type} : ∀ (l : List α), aC l = l.length
 | [] => rfl
 | _ :: l => congrArg Nat.succ (de l)
def gu {α : Type} (l : List α) : Nat → Option α := List.rec (motive := fun _ => Nat → Option α) (fun _ => none) (fun a _ ih i => Nat.rec (motive := fun _ => Option α) (some a) (fun i _ => ih i) i) l
theorem gX {α : Type} : ∀ (l : List α) (i : Nat), gu l i = l[i]?
 | [], _ => by simp [gu]
 | a :: l, 0 => rfl
 | a :: l, i + 1 => by
  show gu l i = _
  rw [gX l]; simp
def exR (s : Nat → Nat) (Y : Ys) (Z : Zs) (l : List TM) : Nat → List AObj := List.rec (motive := fun _ => Nat → List AObj) (fun _ => []) (fun x _ ih j => exO s Y Z j x :: ih (Nat.succ j)) l
theorem jB (s : Nat → Nat) (Y : Ys) (Z : Zs) : ∀ (l : List TM) (j i : Nat), (exR s Y Z l j)[i]? = l[i]?.map (exO s Y Z (j + i))
 | [], _, _ => by simp [exR]
 | x :: l, j, 0 => by simp [exR]
 | x :: l, j, i + 1 => by
  show (_ :: exR s Y Z l (Nat.succ j))[i + 1]? = _
  rw [List.getElem?_cons_succ, jB s Y Z l, List.getElem?_cons_succ, show Nat.succ j + i = j + (i + 1) by omega]
theorem jA (s : Nat → Nat) (Y : Ys) (Z : Zs) : ∀ (l : List TM) (j : Nat), (exR s Y Z l j).length = l.length
 | [], _ => rfl
 | _ :: l, j => congrArg Nat.succ (jA s Y Z l (Nat.succ j))
structure Tp where
 (v : TM) (r : List TM)
def hT (B : Tr AObj) (m : Nat) (Y : Ys) (Z : Zs) (d : Tp) : AHeap := { n := Nat.add m (aC d.r), t := (B.set 4 (exO idN Y Z 0 d.v)).pushAll m (exR idN Y Z d.r 1) }
structure StatB (B : Tr AObj) (m : Nat) : Prop where
 full : B.Full m
 four : 4 < m
 obj : ∀ b o, B.get? b = some o → inO m o ∧ fullO o ∧ iH o
section
variable {B : Tr AObj} {m : Nat} {Y : Ys} {Z : Zs} {d : Tp}
theorem r9 (hB : StatB B m) : (hT B m Y Z d).t.Full (hT B m Y Z d).n := by
 have := (Tr.pushAll_spec (exR idN Y Z d.r 1) (hB.full.set 4 (exO idN Y Z 0 d.v))).1
 rw [jA, ← de] at this
 exact this
theorem r6 (hB : StatB B m) (b : Nat) : (hT B m Y Z d).get b = if b = 4 then some (exO idN Y Z 0 d.v) else if b < m then B.get? b else d.r[b - m]?.map (exO idN Y Z (1 + (b - m))) := by
 show ((B.set 4 _).pushAll m _).get? b = _
 rw [(Tr.pushAll_spec (exR idN Y Z d.r 1) (hB.full.set 4 (exO idN Y Z 0 d.v))).2]
 have h4 := hB.four
 by_cases c : m ≤ b
 · rw [if_pos c, if_neg (by omega), if_neg (by omega), jB]
 · rw [if_neg c]
   by_cases e : b = 4
   · subst e
     obtain ⟨o, ho⟩ := Option.isSome_iff_exists.1 ((hB.full 4).2 h4)
     rw [if_pos rfl, Tr.get?_set_same, ho]; rfl
   · rw [if_neg e, if_pos (by omega), Tr.get?_set_ne _ _ _ _ e]
theorem lL : (hT B m Y Z d).n = m + d.r.length := by
 show Nat.add m (aC d.r) = _
 rw [de]; rfl
def okR (n : Nat) (l : List TM) : Bool := List.rec (motive := fun _ => Bool) true (fun x _ ih => aq (okT n x) ih) l
theorem jo {n : Nat} : ∀ {l : List TM}, okR n l = true → ∀ x ∈ l, okT n x = true
 | [], _, x, h => by cases h
 | a :: l, h, x, hx => by
  obtain ⟨h1, h2⟩ := ak (show aq (okT n a) (okR n l) = true from h)
  rcases List.mem_cons.1 hx with rfl | hx
  · exact h1
  · exact jo h2 x hx
def eW (m : Nat) (d : Tp) : Bool := (fun n => aq (okT n d.v) (okR n d.r)) (Nat.add m (aC d.r))
theorem pY (h : eW m d = true) : okT (hT B m Y Z d).n d.v = true ∧ ∀ x ∈ d.r, okT (hT B m Y Z d).n x = true := by
 obtain ⟨h1, h2⟩ := ak (show aq (okT (Nat.add m (aC d.r)) d.v) (okR (Nat.add m (aC d.r)) d.r) = true from h)
 exact ⟨h1, jo h2⟩
theorem nv : ∀ {v : AV} {n n' : Nat}, n ≤ n' → inV n v → inV n' v := fun {v n n'} hn h => by
 have key : (∀ v : AV, inV n v → inV n' v) ∧ ∀ l : List AV, dz n l → dz n' l := by
  constructor
  · intro v
    exact AV.rec (motive_1 := fun v => inV n v → inV n' v) (motive_2 := fun l => dz n l → dz n' l)
     (fun _ _ => trivial) (fun _ _ _ => trivial) (fun _ _ => trivial) (fun _ => trivial) (fun b _ h => Nat.lt_of_lt_of_le h hn) (fun _ => trivial) (fun b _ _ _ h => Nat.lt_of_lt_of_le h hn) (fun _ => trivial) (fun b h => Nat.lt_of_lt_of_le h hn)
     (fun _ => trivial) (fun _ _ _ i1 i2 h => ⟨i1 h.1, i2 h.2⟩) (fun _ => trivial) (fun _ _ ih h => ih h) (fun _ ih h => ih h) (fun _ ih h => ih h) (fun _ => trivial) (fun _ _ i1 i2 h => ⟨i1 h.1, i2 h.2⟩) v
  · intro l
    exact AV.rec_1 (motive_1 := fun v => inV n v → inV n' v) (motive_2 := fun l => dz n l → dz n' l)
     (fun _ _ => trivial) (fun _ _ _ => trivial) (fun _ _ => trivial) (fun _ => trivial) (fun b _ h => Nat.lt_of_lt_of_le h hn) (fun _ => trivial) (fun b _ _ _ h => Nat.lt_of_lt_of_le h hn) (fun _ => trivial) (fun b h => Nat.lt_of_lt_of_le h hn)
     (fun _ => trivial) (fun _ _ _ i1 i2 h => ⟨i1 h.1, i2 h.2⟩) (fun _ => trivial) (fun _ _ ih h => ih h) (fun _ ih h => ih h) (fun _ ih h => ih h) (fun _ => trivial) (fun _ _ i1 i2 h => ⟨i1 h.1, i2 h.2⟩) l
 exact key.1 v h
theorem jw {o : AObj} {n n' : Nat} (hn : n ≤ n') (h : inO n o) : inO n' o := by
 cases o <;> first
  | exact trivial
  | exact fun i v e => nv hn (h i v e)
  | exact fun p hp => ⟨nv hn (h p hp).1, nv hn (h p hp).2⟩
mutual
theorem fi {s : Nat → Nat} {n : Nat} (h : ∀ b, b < n → s b = b) : ∀ {v : AV}, inV n v → rnV s v = v
 | .ptr b o, hb => by simp only [rnV, h b hb]
 | .sl b o l c, hb => by simp only [rnV, h b hb]
 | .map b, hb => by simp only [rnV, h b hb]
 | .fn f a b, ⟨g1, g2⟩ => by simp only [rnV, fg h g1, fg h g2]
 | .iface t y, g => by simp only [rnV, fi h (v := y) g]
 | .agg l, g => by simp only [rnV, fg h (v := l) g]
 | .tup l, g => by simp only [rnV, fg h (v := l) g]
 | .bool b, _ => rfl
 | .int k n, _ => rfl
 | .str l, _ => rfl
 | .nilp, _ => rfl
 | .nilsl, _ => rfl
 | .nilmap, _ => rfl
 | .nilfn, _ => rfl
 | .nilif, _ => rfl
theorem fg {s : Nat → Nat} {n : Nat} (h : ∀ b, b < n → s b = b) : ∀ {v : List AV}, dz n v → br s v = v
 | [], _ => rfl
 | x :: r, ⟨g1, g2⟩ => by simp only [br, fi h g1, fg h g2]
end
theorem wK {s : Nat → Nat} {n : Nat} (h : ∀ b, b < n → s b = b) {o : AObj} (hi : inO n o) (hp : iH o) : RnO s o o := by
 cases o <;> first
  | exact hp.elim
  | exact trivial
  | skip
 · exact ⟨rfl, rfl, rfl, fun i v e => by rw [fi h (hi i v e)]; exact e⟩
 · refine ⟨?_, rfl⟩
   unfold rnE
   refine (List.map_id _).symm.trans (List.map_congr_left fun p hp2 => ?_)
   rw [fi h (hi p hp2).1, fi h (hi p hp2).2]
   rfl
theorem M5 (hB : StatB B m) (ho : eW m d = true) {s : Nat → Nat} {H : AHeap} (hF : H.t.Full H.n)
 (h1 : ∀ b o, b < m → b ≠ 4 → B.get? b = some o → ∃ o', H.get (s b) = some o' ∧ RnO s o o') (h2 : H.get (s 4) = some (exO s Y Z 0 d.v))
 (h3 : ∀ i x, d.r[i]? = some x → H.get (s (m + i)) = some (exO s Y Z (1 + i) x)) (hi : ∀ b b', b < m + d.r.length → b' < m + d.r.length → s b = s b' → b = b') : Part s (hT B m Y Z d) H := by
 have h4 := hB.four
 obtain ⟨o1, o2⟩ := pY (B := B) (Y := Y) (Z := Z) ho
 have key : ∀ b o, (hT B m Y Z d).get b = some o → (∃ o', H.get (s b) = some o' ∧ RnO s o o') ∧ inO (hT B m Y Z d).n o ∧ fullO o := fun b o e => by
  rw [r6 hB] at e
  by_cases c : b = 4
  · subst c
    rw [if_pos rfl] at e
    obtain rfl := Option.some.inj e
    obtain ⟨a1, a2, a3, _⟩ := rf (s := s) (Y := Y) (Z := Z) (j := 0) o1
    exact ⟨⟨_, h2, a1⟩, a2, a3⟩
  · rw [if_neg c] at e
    by_cases c2 : b < m
    · rw [if_pos c2] at e
      obtain ⟨a1, a2, _⟩ := hB.obj b o e
      exact ⟨h1 b o c2 c e, jw (by rw [lL]; omega) a1, a2⟩
    · rw [if_neg c2] at e
      obtain ⟨x, hx, rfl⟩ := Option.map_eq_some_iff.1 e
      obtain ⟨a1, a2, a3, _⟩ := rf (s := s) (Y := Y) (Z := Z) (j := 1 + (b - m)) (o2 x (List.mem_of_getElem? hx))
      have := h3 _ x hx
      rw [show m + (b - m) = b by omega] at this
      exact ⟨⟨_, this, a1⟩, a2, a3⟩
 refine ⟨r9 hB, fun b hb => ?_, fun b b' hb hb' => hi b b' (by rw [lL] at hb; exact hb) (by rw [lL] at hb'; exact hb'), fun b o e => (key b o e).1, fun b o e => (key b o e).2.1, fun b o e => (key b o e).2.2⟩
 obtain ⟨o, e⟩ := kK (r9 hB) hb
 obtain ⟨⟨o', g, _⟩, _⟩ := key b o e
 exact dM hF g
def xe (b : Nat) (x : TM) : Bool := (match x with
 | .c _ l => fun b => xf b l
 | .w _ => fun _ => false
 | .m es => fun b => List.rec (motive := fun _ => Bool) false (fun p _ r => cond (dd b p.1) true (cond (dd b p.2) true r)) es
 | .f es _ => fun b => List.rec (motive := fun _ => Bool) false (fun p _ r => cond (dd b p.1) true (cond (dd b p.2.1) true r)) es
 | .k _ _ _ => fun _ => false : Nat → Bool) b
theorem gL {b : Nat} {a : AV} (h : dd b a = true) : py a = false ∧ ig b (rn1 idN a) := by
 rw [eh]
 exact ⟨(by cases a <;> first | rfl | cases h), kI h⟩
theorem hC {b j : Nat} {x : TM} (h : xe b x = true) : vJ b (exO idN Y Z j x) := by
 cases x with
 | c e l =>
  have h : xf b l = true := h
  have key : ∀ {l : List AV}, xf b l = true → ∃ (i : Nat) (a : AV), l[i]? = some a ∧ dd b a = true := fun {l} => by
   induction l with
   | nil => intro h; cases h
   | cons v l ih =>
    intro h
    have h : cond (dd b v) true (xf b l) = true := h
    cases c : dd b v with
    | true => exact ⟨0, v, rfl, c⟩
    | false =>
     rw [c] at h
     obtain ⟨i, w, e, k⟩ := ih h
     exact ⟨i + 1, w, by simpa using e, k⟩
  obtain ⟨i, a, e1, k⟩ := key h
  obtain ⟨k1, k2⟩ := gL k
  refine ⟨i, rn1 idN a, (List.getElem?_eq_some_iff.1 e1).1, ?_, k2⟩
  rw [ja (rh idN (Y j) l 0), jC, e1, Option.map_some, k1]; rfl
 | w cs => cases h
 | k e m t => cases h
 | m es =>
  have key : ∀ {es : List (AV × AV)} {i : Nat}, List.rec (motive := fun _ => Bool) false (fun p _ r => cond (dd b p.1) true (cond (dd b p.2) true r)) es = true → ∃ p ∈ exE idN (Z j) es i, ig b p.1 ∨ ig b p.2.1 := fun {es} => by
   induction es with
   | nil => intro i h; cases h
   | cons q l ih =>
    intro i h
    have ee : exE idN (Z j) (q :: l) i = (rn1 idN q.1, rn1 idN q.2, Z j i) :: exE idN (Z j) l (Nat.succ i) := rfl
    rw [ee]
    have h : cond (dd b q.1) true (cond (dd b q.2) true (List.rec (motive := fun _ => Bool) false (fun p _ r => cond (dd b p.1) true (cond (dd b p.2) true r)) l)) = true := h
    cases c : dd b q.1 with
    | true => exact ⟨_, List.mem_cons_self, .inl (gL c).2⟩
    | false =>
     rw [c] at h
     cases e : dd b q.2 with
     | true => exact ⟨_, List.mem_cons_self, .inr (gL e).2⟩
     | false =>
      rw [e] at h
      obtain ⟨p, hp, k⟩ := ih (i := Nat.succ i) h
      exact ⟨p, List.mem_cons_of_mem _ hp, k⟩
  exact key h
 | f es k =>
  have key : ∀ {es : List (AV × AV × Nat)}, List.rec (motive := fun _ => Bool) false (fun p _ r => cond (dd b p.1) true (cond (dd b p.2.1) true r)) es = true → ∃ p ∈ exF idN es, ig b p.1 ∨ ig b p.2.1 := fun {es} => by
   induction es with
   | nil => intro h; cases h
   | cons q l ih =>
    intro h
    have ee : exF idN (q :: l) = (rn1 idN q.1, rn1 idN q.2.1, q.2.2) :: exF idN l := rfl
    rw [ee]
    have h : cond (dd b q.1) true (cond (dd b q.2.1) true (List.rec (motive := fun _ => Bool) false (fun p _ r => cond (dd b p.1) true (cond (dd b p.2.1) true r)) l)) = true := h
    cases c : dd b q.1 with
    | true => exact ⟨_, List.mem_cons_self, .inl (gL c).2⟩
    | false =>
     rw [c] at h
     cases e : dd b q.2.1 with
     | true => exact ⟨_, List.mem_cons_self, .inr (gL e).2⟩
     | false =>
      rw [e] at h
      obtain ⟨p, hp, k⟩ := ih h
      exact ⟨p, List.mem_cons_of_mem _ hp, k⟩
  exact key h
def hgB (m : Nat) (st : List TM) (d : Tp) (n : Nat) : List Nat → Nat → Bool := List.rec (motive := fun _ => Nat → Bool) (fun b => Nat.ble n b)
 (fun p _ ih b => aq (aq (Nat.ble 4 p) (Nat.ble (Nat.succ p) b)) (aq (cond (Nat.beq p 4) (xe b d.v) (Option.rec (motive := fun _ => Bool) false (xe b) (cond (Nat.ble m p) (gu d.r (Nat.sub p m)) (gu st (Nat.sub p 5))))) (ih (Nat.succ b))))
theorem vI (hB : StatB B m) {st : List TM} (hst : ∀ i x, st[i]? = some x → B.get? (5 + i) = some (exO idN Y Z 0 x)) {n : Nat} : ∀ {ps : List Nat} {b0 : Nat}, hgB m st d n ps b0 = true → ∀ b, b0 ≤ b → b < n → ∃ p o, 4 ≤ p ∧ p < b ∧ (hT B m Y Z d).get p = some o ∧ vJ b o
 | [], b0, h, b, h1, h2 => by
  have := Nat.le_of_ble_eq_true (show Nat.ble n b0 = true from h)
  omega
 | p :: ps, b0, h, b, h1, h2 => by
  obtain ⟨g, h⟩ := ak (show aq (aq (Nat.ble 4 p) (Nat.ble (Nat.succ p) b0)) (aq (cond (Nat.beq p 4) (xe b0 d.v) (Option.rec (motive := fun _ => Bool) false (xe b0) (cond (Nat.ble m p) (gu d.r (Nat.sub p m)) (gu st (Nat.sub p 5))))) (hgB m st d n ps (Nat.succ b0))) = true from h)
  obtain ⟨g1, g2⟩ := ak g
  obtain ⟨g3, g4⟩ := ak h
  by_cases c : b = b0
  · subst c
    have h4 := hB.four
    have p4 := Nat.le_of_ble_eq_true g1
    have pb := Nat.le_of_ble_eq_true g2
    refine ⟨p, ?_⟩
    rw [r6 hB]
    cases e4 : Nat.beq p 4 with
    | true =>
     obtain rfl := Nat.eq_of_beq_eq_true e4
     rw [e4] at g3
     exact ⟨_, by omega, by omega, if_pos rfl, hC g3⟩
    | false =>
     rw [e4] at g3
     have ne : p ≠ 4 := fun e => by subst e; cases e4
     rw [if_neg ne]
     simp only [cond_false] at g3
     cases em : Nat.ble m p with
     | true =>
      rw [em] at g3
      simp only [cond_true] at g3
      have hm := Nat.le_of_ble_eq_true em
      rw [if_neg (by omega)]
      rw [gX] at g3
      cases hx : d.r[Nat.sub p m]? with
      | none => rw [hx] at g3; cases g3
      | some x =>
       rw [hx] at g3
       have hx : d.r[p - m]? = some x := hx
       exact ⟨_, by omega, by omega, rfl, hC g3⟩
     | false =>
      rw [em] at g3
      simp only [cond_false] at g3
      have hm : p < m := by
       rcases Nat.lt_or_ge p m with c | c
       · exact c
       · rw [Nat.ble_eq_true_of_le c] at em; cases em
      rw [if_pos hm]
      rw [gX] at g3
      cases hx : st[Nat.sub p 5]? with
      | none => rw [hx] at g3; cases g3
      | some x =>
       rw [hx] at g3
       have := hst _ x hx
       rw [show 5 + Nat.sub p 5 = p by show 5 + (p - 5) = p; omega] at this
       exact ⟨_, by omega, by omega, this, hC g3⟩
  · exact vI hB hst g4 b (by omega) h2
theorem DS (hB : StatB B m) {st : List TM} (hst : ∀ i x, st[i]? = some x → B.get? (5 + i) = some (exO idN Y Z 0 x)) {ps : List Nat} (h : hgB m st d (Nat.add m (aC d.r)) ps 5 = true) (a : List AV) : ue 4 (hT B m Y Z d) (.ptr 4 0 :: a) := fun b h1 h2 => by
 by_cases c : b = 4
 · subst c; exact .inl (.inl rfl)
 · obtain ⟨p, o, q1, q2, q3, q4⟩ := vI hB hst h b (by omega) h2
   exact .inr ⟨p, o, q1, q2, q3, q4⟩
end
def lfO (k b : Nat) (o : AObj) : Bool := (match o with
 | .cells ro _ _ _ => fun k b => cond ro (Nat.ble (Nat.succ b) k) true
 | .map _ _ => fun _ _ => true
 | .dead => fun _ _ => true
 | _ => fun _ _ => false : Nat → Nat → Bool) k b
def lfB (k : Nat) (H : AHeap) (n : Nat) : Bool := Nat.rec (motive := fun _ => Bool) true (fun b ih => aq (Option.rec (motive := fun _ => Bool) false (lfO k b) (H.get b)) ih) n
theorem vC {k : Nat} {H : AHeap} : ∀ {n : Nat}, lfB k H n = true → ∀ b o, b < n → H.get b = some o → lfO k b o = true
 | 0, _, b, o, h, _ => by omega
 | n + 1, h, b, o, hb, e => by
  obtain ⟨h1, h2⟩ := ak (show aq (Option.rec (motive := fun _ => Bool) false (lfO k n) (H.get n)) (lfB k H n) = true from h)
  by_cases c : b = n
  · subst c; rw [e] at h1; exact h1
  · exact vC h2 b o (by omega) e
def HG (k n b : Nat) (x : Option AObj) : Bool := Option.rec (motive := fun _ => Bool) (Nat.ble n b) (fun o => aq (Nat.ble (Nat.succ b) n) (lfO k b o)) x
theorem qu {k n b : Nat} {x : Option AObj} (h : HG k n b x = true) : (x.isSome = true ↔ b < n) ∧ ∀ o, x = some o → lfO k b o = true := by
 cases x with
 | none =>
  have := Nat.le_of_ble_eq_true (show Nat.ble n b = true from h)
  exact ⟨⟨fun c => (by cases c), fun c => by omega⟩, fun o c => by cases c⟩
 | some o =>
  obtain ⟨h1, h2⟩ := ak (show aq _ _ = true from h)
  exact ⟨⟨fun _ => Nat.le_of_ble_eq_true h1, fun _ => rfl⟩, fun o' c => by cases c; exact h2⟩
def trB (k n : Nat) (t : Tr AObj) : Bool := Tr.rec (motive := fun _ => Bool)
 (fun a => aq (Nat.ble n 16) (dC (HG k n) 0 1 a))
 (fun a => aq (Nat.ble n 256) (dC (fun o c => dC (HG k n) o 1 c) 0 16 a))
 (fun a b => aq (xA (.t3 a b) n) (lfB k ⟨n, .t3 a b⟩ n)) t
theorem G0 {k n : Nat} {t : Tr AObj} (h : trB k n t = true) : t.Full n ∧ ∀ b o, t.get? b = some o → lfO k b o = true := by
 have key : (∀ b, ((t.get? b).isSome = true ↔ b < n) ∧ ∀ o, t.get? b = some o → lfO k b o = true) → t.Full n ∧ ∀ b o, t.get? b = some o → lfO k b o = true := fun q => ⟨fun b => (q b).1, fun b o e => (q b).2 o e⟩
 cases t with
 | t1 a =>
  obtain ⟨h1, h2⟩ := ak (show aq (Nat.ble n 16) (dC (HG k n) 0 1 a) = true from h)
  have h1 := Nat.le_of_ble_eq_true h1
  refine key fun b => ?_
  rw [iP]
  by_cases c : b < 16
  · rw [if_pos c]
    have := qu (cU h2 b c)
    rwa [show 0 + b * 1 = b by omega] at this
  · rw [if_neg c]
    exact ⟨⟨fun c => (by cases c), fun c => by omega⟩, fun o c => by cases c⟩
 | t2 a =>
  obtain ⟨h1, h2⟩ := ak (show aq (Nat.ble n 256) (dC (fun o c => dC (HG k n) o 1 c) 0 16 a) = true from h)
  have h1 := Nat.le_of_ble_eq_true h1
  refine key fun b => ?_
  rw [jy]
  by_cases c : b < 256
  · rw [if_pos c]
    have := qu (cU (cU h2 (b / 16) (by omega)) (b % 16) (by omega))
    rw [show 0 + b / 16 * 16 + b % 16 * 1 = b by omega] at this
    exact this
  · rw [if_neg c]
    exact ⟨⟨fun c => (by cases c), fun c => by omega⟩, fun o c => by cases c⟩
 | t3 a b =>
  obtain ⟨h1, h2⟩ := ak (show aq (xA (.t3 a b) n) (lfB k ⟨n, .t3 a b⟩ n) = true from h)
  have hf := vK h1
  exact ⟨hf, fun i o e => vC h2 i o ((hf i).1 (by rw [e]; rfl)) e⟩
def ni (k n : Nat) (H : AHeap) : Bool := aq (Nat.ble n H.n) (trB k H.n H.t)
theorem iJ {k : Nat} {h h' : AHeap} (hl : ni k h.n h' = true) (hk : k ≤ h.n) (hq : ∀ b, b < k → h'.get b = h.get b) : ir h h' := by
 obtain ⟨h1, h2⟩ := ak hl
 obtain ⟨hf, h3⟩ := G0 h2
 refine ⟨hf, Nat.le_of_ble_eq_true h1, fun s o e => ?_⟩
 have := h3 s o e
 cases o with
 | cells ro e n t =>
  cases ro with
  | false => exact ⟨trivial, .inl rfl⟩
  | true =>
   have hs : s < k := Nat.le_of_ble_eq_true (show Nat.ble (Nat.succ s) k = true from this)
   exact ⟨trivial, .inr (.inr ⟨by omega, hq s hs⟩)⟩
 | map es c => exact ⟨trivial, .inl rfl⟩
 | dead => exact ⟨trivial, .inr (.inl rfl)⟩
 | bld _ _ _ => cases this
 | brow _ _ => cases this
 | tab _ => cases this
end
end Go.Ab
