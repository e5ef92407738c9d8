/- Rows of templates, looked at by the kernel. -/
import Derived.Test.YtcolbcpeialmhaaGreatDoorA4
namespace Go.Ab
noncomputable section
abbrev LkR := Bool × List AObj × List AObj
abbrev Prs := List (AObj × AObj)
def noR : LkR := (false, [], [])
def TS (l : Prs) : List AObj := List.rec (motive := fun _ => List AObj) [] (fun p _ ih => p.1 :: ih) l
def Ry (l : Prs) : List AObj := List.rec (motive := fun _ => List AObj) [] (fun p _ ih => p.2 :: ih) l
def fin (l : Prs) : LkR := (true, TS l, Ry l)
def b9 (r : LkR) : Prop := r.1 = true ∧ r.2.1 = r.2.2
def AllEq (l : Prs) : Prop := ∀ p ∈ l, p.1 = p.2
def KP (k : Prs → LkR) : Prop := ∀ l, b9 (k l) → AllEq l
theorem DV : ∀ {l : Prs}, TS l = Ry l → AllEq l
 | [], _ => fun p hp => by cases hp
 | q :: l, h => fun p hp => by
  have h : q.1 :: TS l = q.2 :: Ry l := h
  obtain ⟨h1, h2⟩ := List.cons.inj h
  rcases List.mem_cons.1 hp with rfl | hp
  · exact h1
  · exact DV h2 p hp
theorem kO : KP fin := fun _l h => DV h.2
theorem fE {r : LkR} {l : List AObj} (h : r = (true, l, l)) : b9 r := by rw [h]; exact ⟨rfl, rfl⟩
theorem AllEq.tail {p : AObj × AObj} {l : Prs} (h : AllEq (p :: l)) : p.1 = p.2 ∧ AllEq l := ⟨h p List.mem_cons_self, fun q hq => h q (List.mem_cons_of_mem _ hq)⟩
def l8 (keep : List Nat) (h h' : AHeap) : Prs → (Prs → LkR) → LkR := List.rec (motive := fun _ => Prs → (Prs → LkR) → LkR) (fun l k => k l)
 (fun b _ ih l k => Option.rec (motive := fun _ => LkR) noR (fun o => Option.rec (motive := fun _ => LkR) noR (fun o' => ih ((o', o) :: l) k) (h'.get b)) (h.get b)) keep
theorem jf {h h' : AHeap} {k : Prs → LkR} (K : KP k) : ∀ {keep : List Nat} {l : Prs}, b9 (l8 keep h h' l k) → AllEq l ∧ (∀ b ∈ keep, h'.get b = h.get b) ∧ ∃ l', b9 (k l')
 | [], l, g => ⟨K l g, fun b hb => (by cases hb), l, g⟩
 | b :: r, l, g => by
  have g : b9 (Option.rec (motive := fun _ => LkR) noR (fun o => Option.rec (motive := fun _ => LkR) noR (fun o' => l8 r h h' ((o', o) :: l) k) (h'.get b)) (h.get b)) := g
  cases e1 : h.get b with
  | none => rw [e1] at g; cases g.1
  | some o =>
   rw [e1] at g
   cases e2 : h'.get b with
   | none => rw [e2] at g; cases g.1
   | some o' =>
    rw [e2] at g
    obtain ⟨g1, g2, g3⟩ := jf K (keep := r) g
    obtain ⟨g4, g5⟩ := g1.tail
    refine ⟨g5, fun x hx => ?_, g3⟩
    rcases List.mem_cons.1 hx with rfl | hx
    · rw [e1, e2, show o' = o from g4]
    · exact g2 x hx
def a6M (x : Option AV) : Int := Option.rec (motive := fun _ => Int) 0 (fun v => match v with | .int _ n => n | _ => 0) x
def na (o : AObj) : Nat → Int := match o with
 | .cells _ _ _ t => fun i => a6M (t.get? i)
 | _ => fun _ => 0
def stE (es : List (AV × AV × Nat)) : Nat → Nat := List.rec (motive := fun _ => Nat → Nat) (fun _ => 0) (fun p _ ih i => Nat.rec (motive := fun _ => Nat) p.2.2 (fun i _ => ih i) i) es
def stO (o : AObj) : Nat → Nat := match o with
 | .map es c => fun i => Nat.rec (motive := fun _ => Nat) c (fun i _ => stE es i) i
 | _ => fun _ => 0
def exH (s : Nat → Nat) (x : TM) (o : AObj) : AObj := exO s (fun _ => na o) (fun _ => stO o) 0 x
def tmB (h' : AHeap) (s : Nat → Nat) (d : List TM) : List Nat → Prs → (Prs → LkR) → LkR := List.rec (motive := fun _ => List Nat → Prs → (Prs → LkR) → LkR) (fun ns l k => List.rec (motive := fun _ => LkR) (k l) (fun _ _ _ => noR) ns)
 (fun x _ ih ns l k => List.rec (motive := fun _ => LkR) noR (fun b r _ => Option.rec (motive := fun _ => LkR) noR (fun o => ih r ((o, exH s x o) :: l) k) (h'.get b)) ns) d
theorem mH {h' : AHeap} {s : Nat → Nat} {k : Prs → LkR} (K : KP k) : ∀ {d : List TM} {ns : List Nat} {l : Prs}, b9 (tmB h' s d ns l k) → AllEq l ∧ ns.length = d.length ∧ (∀ (i : Nat) (x : TM), d[i]? = some x → ∃ b o, ns[i]? = some b ∧ h'.get b = some o ∧ o = exH s x o) ∧ ∃ l', b9 (k l')
 | [], [], l, g => ⟨K l g, rfl, fun i x e => (by simp at e), l, g⟩
 | [], b :: r, l, g => by cases g.1
 | x :: d, [], l, g => by cases g.1
 | x :: d, b :: r, l, g => by
  have g : b9 (Option.rec (motive := fun _ => LkR) noR (fun o => tmB h' s d r ((o, exH s x o) :: l) k) (h'.get b)) := g
  cases e : h'.get b with
  | none => rw [e] at g; cases g.1
  | some o =>
   rw [e] at g
   obtain ⟨g1, g2, g3, g4⟩ := mH K (d := d) (ns := r) g
   obtain ⟨g5, g6⟩ := g1.tail
   refine ⟨g6, by simp [g2], fun i y hy => ?_, g4⟩
   cases i with
   | zero => simp at hy; subst hy; exact ⟨b, o, rfl, e, g5⟩
   | succ i => simpa using g3 i y (by simpa using hy)
def sO (m : Nat) (rest : List Nat) (b : Nat) : Nat := cond (Nat.ble m b) (Option.rec (motive := fun _ => Nat) 0 (fun x => x) (gu rest (Nat.sub b m))) b
theorem fI {m : Nat} {rest : List Nat} {b : Nat} (h : b < m) : sO m rest b = b := by
 unfold sO
 have : Nat.ble m b = false := by
  cases c : Nat.ble m b with
  | false => rfl
  | true => have := Nat.le_of_ble_eq_true c; omega
 rw [this]; rfl
theorem Dy {m : Nat} {rest : List Nat} {i x : Nat} (h : rest[i]? = some x) : sO m rest (m + i) = x := by
 unfold sO
 rw [Nat.ble_eq_true_of_le (Nat.le_add_right m i), cond_true, gX, show Nat.sub (m + i) m = i by show m + i - m = i; omega, h]
def qx (m : Nat) (l : List Nat) : Bool := List.rec (motive := fun _ => Bool) true (fun b _ ih => aq (Nat.ble m b) ih) l
theorem j0 {m : Nat} : ∀ {l : List Nat}, qx m l = true → ∀ (i x : Nat), l[i]? = some x → m ≤ x
 | [], _, i, x, e => by simp at e
 | b :: l, h, i, x, e => by
  obtain ⟨h1, h2⟩ := ak (show aq (Nat.ble m b) (qx m l) = true from h)
  cases i with
  | zero => simp at e; subst e; exact Nat.le_of_ble_eq_true h1
  | succ i => exact j0 h2 i x (by simpa using e)
def GF (m : Nat) (keep : List Nat) (n : Nat) (h h' : AHeap) (d : Tp) (rest : List Nat) (l : Prs) (k : Prs → LkR) : LkR :=
 cond (aq (ni 4 n h') (aq (qx m rest) (EZ rest)))
  (l8 keep h h' l fun l => tmB h' (sO m rest) (d.v :: d.r) (4 :: rest) l k) noR
section
variable {B : Tr AObj} {m : Nat} {Y : Ys} {Z : Zs} {d d2 : Tp} {h' : AHeap} {keep rest : List Nat} {k : Prs → LkR} {l : Prs}
theorem Lt (hB : StatB B m) (hk : ∀ b, b < m → b ≠ 4 → b ∈ keep) (ho : eW m d2 = true) (K : KP k) (g : b9 (GF m keep (hT B m Y Z d).n (hT B m Y Z d) h' d2 rest l k)) :
 AllEq l ∧ (ir (hT B m Y Z d) h' ∧ ∃ Y2 Z2 s, Part s (hT B m Y2 Z2 d2) h' ∧ ∀ b, b < m → s b = b) ∧ ∃ l', b9 (k l') := by
 have h4 := hB.four
 unfold GF at g
 cases c : aq (ni 4 (hT B m Y Z d).n h') (aq (qx m rest) (EZ rest)) with
 | false => rw [c] at g; cases g.1
 | true =>
  rw [c] at g
  obtain ⟨c1, c2⟩ := ak c
  obtain ⟨c2, c3⟩ := ak c2
  have hge := j0 c2
  have hnd := kH c3
  have K2 : KP fun l => tmB h' (sO m rest) (d2.v :: d2.r) (4 :: rest) l k := fun l g => (mH K g).1
  obtain ⟨g1, g2, l2, g3⟩ := jf K2 g
  obtain ⟨_, g5, g6, g7⟩ := mH K g3
  have hlen : rest.length = d2.r.length := by simpa using g5
  obtain ⟨b0, o0, e0, e1, e2⟩ := g6 0 d2.v rfl
  simp at e0
  subst e0
  obtain ⟨o1, o2⟩ := pY (B := B) (Y := Y) (Z := Z) ho
  have hl : ir (hT B m Y Z d) h' := iJ c1 (by rw [lL]; omega) fun b hb => g2 b (hk b (by omega) (by omega))
  refine ⟨g1, ⟨hl, fun j => na ((h'.get (sO m rest (cond (Nat.beq j 0) 4 (m + (j - 1))))).getD .dead), fun j => stO ((h'.get (sO m rest (cond (Nat.beq j 0) 4 (m + (j - 1))))).getD .dead), sO m rest, ?_, fun b hb => fI hb⟩, g7⟩
  refine M5 hB ho hl.1 (fun b o hb hb4 e => ?_) ?_ (fun i x hx => ?_) fun b b' hb hb' e => ?_
  · obtain ⟨a1, a2, a3⟩ := hB.obj b o e
    refine ⟨o, ?_, wK (fun b hb => fI hb) a1 a3⟩
    rw [fI hb, g2 b (hk b hb hb4), r6 hB, if_neg hb4, if_pos hb]
    exact e
  · have hs4 : sO m rest 4 = 4 := fI h4
    show h'.get (sO m rest 4) = some (exO (sO m rest) (fun j => na ((h'.get (sO m rest (cond (Nat.beq j 0) 4 (m + (j - 1))))).getD .dead)) (fun j => stO ((h'.get (sO m rest (cond (Nat.beq j 0) 4 (m + (j - 1))))).getD .dead)) 0 d2.v)
    have hq : ∀ (Y Y' : Ys) (Z Z' : Zs) (j j' : Nat), Y j = Y' j' → Z j = Z' j' → ∀ x, exO (sO m rest) Y Z j x = exO (sO m rest) Y' Z' j' x := fun Y Y' Z Z' j j' hy hz x => by
     cases x with
     | c e l => show AObj.cells _ _ _ (trL _ (exL _ (Y j) l 0)) = AObj.cells _ _ _ (trL _ (exL _ (Y' j') l 0)); rw [hy]
     | w cs => show AObj.cells _ _ _ (wtr (Y j) cs) = AObj.cells _ _ _ (wtr (Y' j') cs); rw [hy]
     | m es => show AObj.map (exE _ (Z j) es 1) (Z j 0) = AObj.map (exE _ (Z' j') es 1) (Z' j' 0); rw [hz]
     | f es k => rfl
     | k e m t => rfl
    rw [hs4, e1]
    congr 1
    refine e2.trans (hq _ _ _ _ 0 0 ?_ ?_ _)
    · show na o0 = na ((h'.get (sO m rest 4)).getD .dead)
      rw [hs4, e1]; rfl
    · show stO o0 = stO ((h'.get (sO m rest 4)).getD .dead)
      rw [hs4, e1]; rfl
  · have hq : ∀ (Y Y' : Ys) (Z Z' : Zs) (j j' : Nat), Y j = Y' j' → Z j = Z' j' → ∀ x, exO (sO m rest) Y Z j x = exO (sO m rest) Y' Z' j' x := fun Y Y' Z Z' j j' hy hz x => by
     cases x with
     | c e l => show AObj.cells _ _ _ (trL _ (exL _ (Y j) l 0)) = AObj.cells _ _ _ (trL _ (exL _ (Y' j') l 0)); rw [hy]
     | w cs => show AObj.cells _ _ _ (wtr (Y j) cs) = AObj.cells _ _ _ (wtr (Y' j') cs); rw [hy]
     | m es => show AObj.map (exE _ (Z j) es 1) (Z j 0) = AObj.map (exE _ (Z' j') es 1) (Z' j' 0); rw [hz]
     | f es k => rfl
     | k e m t => rfl
    obtain ⟨b, o, u1, u2, u3⟩ := g6 (i + 1) x (by simpa using hx)
    have u1 : rest[i]? = some b := by simpa using u1
    have hs := Dy (m := m) u1
    rw [hs, u2]
    congr 1
    have hj : (cond (Nat.beq (1 + i) 0) 4 (m + (1 + i - 1))) = m + i := by
     have : Nat.beq (1 + i) 0 = false := by cases c : Nat.beq (1 + i) 0 with | false => rfl | true => have := Nat.eq_of_beq_eq_true c; omega
     rw [this, cond_false]; omega
    refine u3.trans (hq _ _ _ _ 0 (1 + i) ?_ ?_ _)
    · show na o = na ((h'.get (sO m rest _)).getD .dead)
      rw [hj, hs, u2]; rfl
    · show stO o = stO ((h'.get (sO m rest _)).getD .dead)
      rw [hj, hs, u2]; rfl
  · have up : ∀ b, b < m + d2.r.length → m ≤ b → ∃ i x, b = m + i ∧ rest[i]? = some x ∧ sO m rest b = x ∧ m ≤ x := fun b hb hm => by
     have hi : b - m < rest.length := by omega
     refine ⟨b - m, rest[b - m], by omega, List.getElem?_eq_getElem hi, ?_, hge _ _ (List.getElem?_eq_getElem hi)⟩
     have := Dy (m := m) (List.getElem?_eq_getElem hi)
     rwa [show m + (b - m) = b by omega] at this
    by_cases c : b < m <;> by_cases c' : b' < m
    · rw [fI c, fI c'] at e; exact e
    · obtain ⟨i, x, _, _, q, q2⟩ := up b' hb' (by omega)
      rw [fI c, q] at e; omega
    · obtain ⟨i, x, _, _, q, q2⟩ := up b hb (by omega)
      rw [fI c', q] at e; omega
    · obtain ⟨i, x, rfl, hx, q, _⟩ := up b hb (by omega)
      obtain ⟨i', x', rfl, hx', q', _⟩ := up b' hb' (by omega)
      rw [q, q'] at e
      subst e
      obtain ⟨u1, u2⟩ := List.getElem?_eq_some_iff.1 hx
      obtain ⟨u3, u4⟩ := List.getElem?_eq_some_iff.1 hx'
      have := (List.getElem_inj (h₀ := u1) (h₁ := u3) hnd).1 (u2.trans u4.symm)
      omega
end
end
noncomputable section
abbrev NP := List (Nat × Nat)
def RA {α : Type} (l : List α) : List α → List α := List.rec (motive := fun _ => List α → List α) (fun acc => acc) (fun a _ ih acc => ih (a :: acc)) l
def a84 (b : Nat) (l : NP) : Bool := List.rec (motive := fun _ => Bool) false (fun p _ ih => cond (Nat.beq p.1 b) true ih) l
def pOf (v : AV) : Nat := match v with
 | .ptr b _ => Nat.succ b
 | .sl b _ _ _ => Nat.succ b
 | .map b => Nat.succ b
 | _ => 0
def Qz (m p : Nat) (v : AV) (nx : List Nat) (se : NP) (k : List Nat → NP → NP) : NP :=
 Nat.rec (motive := fun _ => NP) (k nx se) (fun b _ => cond (Nat.ble m b) (cond (a84 b se) (k nx se) (k (b :: nx) ((b, p) :: se))) (k nx se)) (pOf v)
def QA (m p : Nat) (t : Tr AV) (n : Nat) : Nat → List Nat → NP → (List Nat → NP → NP) → NP :=
 Nat.rec (motive := fun _ => Nat → List Nat → NP → (List Nat → NP → NP) → NP) (fun _ nx se k => k nx se)
  (fun _ ih i nx se k => Option.rec (motive := fun _ => NP) (k nx se) (fun v => Qz m p v nx se fun nx se => ih (Nat.succ i) nx se k) (t.get? i)) n
def Zd (m p : Nat) (es : List (AV × AV × Nat)) : List Nat → NP → (List Nat → NP → NP) → NP :=
 List.rec (motive := fun _ => List Nat → NP → (List Nat → NP → NP) → NP) (fun nx se k => k nx se) (fun q _ ih nx se k => Qz m p q.2.1 nx se fun nx se => ih nx se k) es
def Zc (m p : Nat) (o : AObj) (nx : List Nat) (se : NP) (k : List Nat → NP → NP) : NP := (match o with
 | .cells _ e n t => fun m p nx se k => cond (Nat.beq e 0) (QA m p t n 0 nx se k) (cond (Nat.beq e 3) (QA m p t n 0 nx se k) (k nx se))
 | .map es _ => fun m p nx se k => Zd m p es nx se k
 | _ => fun _ _ nx se k => k nx se : Nat → Nat → List Nat → NP → (List Nat → NP → NP) → NP) m p nx se k
def a8g (m : Nat) (H : AHeap) (fuel : Nat) : List Nat → List Nat → NP → NP := Nat.rec (motive := fun _ => List Nat → List Nat → NP → NP) (fun _ _ se => RA se [])
 (fun _ ih cur nx se => List.rec (motive := fun _ => NP) (List.rec (motive := fun _ => NP) (RA se []) (fun _ _ _ => ih (RA nx []) [] se) nx)
  (fun b r _ => Option.rec (motive := fun _ => NP) (ih r nx se) (fun o => Zc m b o nx se fun nx se => ih r nx se) (H.get b)) cur) fuel
def bfs (m : Nat) (H : AHeap) : NP := a8g m H 300 [4] [] []
def TQ (l : NP) : List Nat := List.rec (motive := fun _ => List Nat) [] (fun p _ ih => p.1 :: ih) l
structure Row where
 (d : Tp) (ps : List Nat) (tc : Nat) (td : List Nat)
def dsL (l : List Row) : List Tp := List.rec (motive := fun _ => List Tp) [] (fun r _ ih => r.d :: ih) l
def M1 (v : AV) : Bool := match v with
 | .bool _ => true
 | _ => false
def mU (m : Nat) (keep : List Nat) (h : AHeap) (nx : List Tp) (ms : List (AV × AHeap)) : List Nat → Prs → (Prs → LkR) → LkR :=
 List.rec (motive := fun _ => List Nat → Prs → (Prs → LkR) → LkR) (fun _ l k => k l)
  (fun x _ ih ts l k => List.rec (motive := fun _ => LkR) noR (fun t ts _ => Option.rec (motive := fun _ => LkR) noR (fun d2 => cond (M1 x.1) (GF m keep h.n h x.2 d2 (TQ (bfs m x.2)) l fun l => ih ts l k) noR) (gu nx t)) ts) ms
abbrev Mv := AHeap → List (AV × AHeap)
def Ku (mv : Mv) (B : Tr AObj) (m : Nat) (keep : List Nat) (st : List TM) (Y : Ys) (Z : Zs) (ly nx : List Tp) (r : Row) (l : Prs) (k : Prs → LkR) : LkR :=
 cond (hgB m st r.d (Nat.add m (aC r.d.r)) r.ps 5)
  ((fun h => List.rec (motive := fun _ => LkR) noR (fun x xs _ => mU m keep h ly [x] [r.tc] l fun l => mU m keep h nx xs r.td l k) (mv h)) (hT B m Y Z r.d)) noR
def vh (mv : Mv) (B : Tr AObj) (m : Nat) (keep : List Nat) (st : List TM) (Y : Ys) (Z : Zs) (ly nx : List Tp) (rs : List Row) : Prs → (Prs → LkR) → LkR :=
 List.rec (motive := fun _ => Prs → (Prs → LkR) → LkR) (fun l k => k l) (fun r _ ih l k => Ku mv B m keep st Y Z ly nx r l fun l => ih l k) rs
def He (mv : Mv) (B : Tr AObj) (m : Nat) (keep : List Nat) (st : List TM) (Y : Ys) (Z : Zs) (F : List Tp) (ls : List (List Row)) : Prs → (Prs → LkR) → LkR :=
 List.rec (motive := fun _ => Prs → (Prs → LkR) → LkR) (fun l k => k l) (fun rs tl ih l k => vh mv B m keep st Y Z (dsL rs) (List.rec (motive := fun _ => List Tp) F (fun rs2 _ _ => dsL rs2) tl) rs l fun l => ih l k) ls
section
variable {mv : Mv} {B : Tr AObj} {m : Nat} {keep : List Nat} {st : List TM} {Y : Ys} {Z : Zs} {k : Prs → LkR} {l : Prs}
theorem rn {r : Row} : ∀ {l : List Row}, r ∈ l → r.d ∈ dsL l
 | [], h => by cases h
 | a :: l, h => by
  rcases List.mem_cons.1 h with rfl | h
  · exact List.mem_cons_self
  · exact List.mem_cons_of_mem _ (rn h)
theorem gJ (hB : StatB B m) (hk : ∀ b, b < m → b ≠ 4 → b ∈ keep) {d : Tp} {nx : List Tp} (hn : ∀ x ∈ nx, eW m x = true) (K : KP k) : ∀ {ms : List (AV × AHeap)} {ts : List Nat} {l : Prs}, b9 (mU m keep (hT B m Y Z d) nx ms ts l k) →
 AllEq l ∧ (∀ x ∈ ms, (∃ b, x.1 = .bool b) ∧ ir (hT B m Y Z d) x.2 ∧ ∃ d2, d2 ∈ nx ∧ ∃ Y2 Z2 s, Part s (hT B m Y2 Z2 d2) x.2 ∧ ∀ b, b < m → s b = b) ∧ ∃ l', b9 (k l')
 | [], _, l, g => ⟨K l g, fun x h => (by cases h), l, g⟩
 | x :: ms, [], l, g => by cases g.1
 | x :: ms, t :: ts, l, g => by
  have g : b9 (Option.rec (motive := fun _ => LkR) noR (fun d2 => cond (M1 x.1) (GF m keep (hT B m Y Z d).n (hT B m Y Z d) x.2 d2 (TQ (bfs m x.2)) l fun l => mU m keep (hT B m Y Z d) nx ms ts l k) noR) (gu nx t)) := g
  cases e : gu nx t with
  | none => rw [e] at g; cases g.1
  | some d2 =>
   rw [e] at g
   have g : b9 (cond (M1 x.1) (GF m keep (hT B m Y Z d).n (hT B m Y Z d) x.2 d2 (TQ (bfs m x.2)) l fun l => mU m keep (hT B m Y Z d) nx ms ts l k) noR) := g
   cases hb : M1 x.1 with
   | false => rw [hb] at g; cases g.1
   | true =>
    rw [hb] at g
    rw [gX] at e
    have hm := List.mem_of_getElem? e
    obtain ⟨g1, g2, l2, g3⟩ := Lt hB hk (hn _ hm) (fun l g => (gJ hB hk hn K g).1) g
    obtain ⟨_, g5, g6⟩ := gJ hB hk hn K g3
    refine ⟨g1, fun y hy => ?_, g6⟩
    rcases List.mem_cons.1 hy with rfl | hy
    · refine ⟨?_, g2.1, d2, hm, g2.2⟩
      cases hv : y.1 with
      | bool b => exact ⟨b, rfl⟩
      | _ => rw [hv] at hb; cases hb
    · exact g5 y hy
def tJ (mv : Mv) (B : Tr AObj) (m : Nat) (st : List TM) (Y : Ys) (Z : Zs) (A : Tp → Prop) (r : Row) : Prop :=
 hgB m st r.d (Nat.add m (aC r.d.r)) r.ps 5 = true ∧
 mv (hT B m Y Z r.d) ≠ [] ∧ ∀ x ∈ mv (hT B m Y Z r.d), (∃ b, x.1 = .bool b) ∧ ir (hT B m Y Z r.d) x.2 ∧ ∃ d2, A d2 ∧ ∃ Y2 Z2 s, Part s (hT B m Y2 Z2 d2) x.2 ∧ ∀ b, b < m → s b = b
theorem Kt (hB : StatB B m) (hk : ∀ b, b < m → b ≠ 4 → b ∈ keep) {ly nx : List Tp} (hl : ∀ x ∈ ly, eW m x = true) (hn : ∀ x ∈ nx, eW m x = true) (K : KP k) {r : Row} (g : b9 (Ku mv B m keep st Y Z ly nx r l k)) :
 AllEq l ∧ tJ mv B m st Y Z (fun d => d ∈ ly ∨ d ∈ nx) r ∧ ∃ l', b9 (k l') := by
 unfold Ku at g
 cases c2 : hgB m st r.d (Nat.add m (aC r.d.r)) r.ps 5 with
 | false => rw [c2] at g; cases g.1
 | true =>
  rw [c2] at g
  have g : b9 (List.rec (motive := fun _ => LkR) noR (fun x xs _ => mU m keep (hT B m Y Z r.d) ly [x] [r.tc] l fun l => mU m keep (hT B m Y Z r.d) nx xs r.td l k) (mv (hT B m Y Z r.d))) := g
  cases e : mv (hT B m Y Z r.d) with
  | nil => rw [e] at g; cases g.1
  | cons x xs =>
   rw [e] at g
   obtain ⟨g1, g2, l2, g3⟩ := gJ hB hk hl (fun l g => (gJ hB hk hn K g).1) g
   obtain ⟨_, g5, g6⟩ := gJ hB hk hn K g3
   refine ⟨g1, ⟨c2, by rw [e]; simp, fun y hy => ?_⟩, g6⟩
   rw [e] at hy
   rcases List.mem_cons.1 hy with rfl | hy
   · obtain ⟨a1, a2, d2, a3, a4⟩ := g2 y List.mem_cons_self
     exact ⟨a1, a2, d2, .inl a3, a4⟩
   · obtain ⟨a1, a2, d2, a3, a4⟩ := g5 y hy
     exact ⟨a1, a2, d2, .inr a3, a4⟩
theorem ji (hB : StatB B m) (hk : ∀ b, b < m → b ≠ 4 → b ∈ keep) {ly nx : List Tp} (hl : ∀ x ∈ ly, eW m x = true) (hn : ∀ x ∈ nx, eW m x = true) (K : KP k) : ∀ {rs : List Row} {l : Prs}, b9 (vh mv B m keep st Y Z ly nx rs l k) →
 AllEq l ∧ (∀ r ∈ rs, tJ mv B m st Y Z (fun d => d ∈ ly ∨ d ∈ nx) r) ∧ ∃ l', b9 (k l')
 | [], l, g => ⟨K l g, fun r h => (by cases h), l, g⟩
 | r :: rs, l, g => by
  have g : b9 (Ku mv B m keep st Y Z ly nx r l fun l => vh mv B m keep st Y Z ly nx rs l k) := g
  obtain ⟨g1, g2, l2, g3⟩ := Kt hB hk hl hn (fun l g => (ji hB hk hl hn K g).1) g
  obtain ⟨_, g5, g6⟩ := ji hB hk hl hn K g3
  refine ⟨g1, fun x hx => ?_, g6⟩
  rcases List.mem_cons.1 hx with rfl | hx
  · exact g2
  · exact g5 x hx
def InL (ls : List (List Row)) (d : Tp) : Prop := ∃ rs ∈ ls, ∃ r ∈ rs, r.d = d
theorem nj (hB : StatB B m) (hk : ∀ b, b < m → b ≠ 4 → b ∈ keep) {F : List Tp} (hF : ∀ x ∈ F, eW m x = true) (K : KP k) : ∀ {ls : List (List Row)} {l : Prs}, (∀ rs ∈ ls, ∀ x ∈ dsL rs, eW m x = true) → b9 (He mv B m keep st Y Z F ls l k) →
 AllEq l ∧ (∀ rs ∈ ls, ∀ r ∈ rs, tJ mv B m st Y Z (fun d => (∃ rs ∈ ls, d ∈ dsL rs) ∨ d ∈ F) r) ∧ ∃ l', b9 (k l')
 | [], l, _, g => ⟨K l g, fun r h => (by cases h), l, g⟩
 | rs :: ls, l, ho, g => by
  have g : b9 (vh mv B m keep st Y Z (dsL rs) (List.rec (motive := fun _ => List Tp) F (fun rs2 _ _ => dsL rs2) ls) rs l fun l => He mv B m keep st Y Z F ls l k) := g
  have ho2 : ∀ rs ∈ ls, ∀ x ∈ dsL rs, eW m x = true := fun rs h => ho rs (List.mem_cons_of_mem _ h)
  have hnx : ∀ x ∈ (List.rec (motive := fun _ => List Tp) F (fun rs2 _ _ => dsL rs2) ls : List Tp), eW m x = true ∧ ((∃ rs ∈ ls, x ∈ dsL rs) ∨ x ∈ F) := by
   cases ls with
   | nil => exact fun x hx => ⟨hF x hx, .inr hx⟩
   | cons r2 ls => exact fun x hx => ⟨ho2 r2 List.mem_cons_self x hx, .inl ⟨r2, List.mem_cons_self, hx⟩⟩
  obtain ⟨g1, g2, l2, g3⟩ := ji hB hk (ho rs List.mem_cons_self) (fun x hx => (hnx x hx).1) (fun l g => (nj hB hk hF K ho2 g).1) g
  obtain ⟨_, g5, g6⟩ := nj hB hk hF K ho2 g3
  have mono : ∀ {A A' : Tp → Prop} {r : Row}, (∀ d, A d → A' d) → tJ mv B m st Y Z A r → tJ mv B m st Y Z A' r := fun ha ⟨q2, q3, q4⟩ => ⟨q2, q3, fun x hx => by
   obtain ⟨a1, a2, d2, a3, a4⟩ := q4 x hx
   exact ⟨a1, a2, d2, ha d2 a3, a4⟩⟩
  refine ⟨g1, fun x hx r hr => ?_, g6⟩
  rcases List.mem_cons.1 hx with rfl | hx
  · refine mono (fun d hd => ?_) (g2 r hr)
    rcases hd with hd | hd
    · exact .inl ⟨x, List.mem_cons_self, hd⟩
    · rcases (hnx d hd).2 with ⟨r2, h1, h2⟩ | h
      · exact .inl ⟨r2, List.mem_cons_of_mem _ h1, h2⟩
      · exact .inr h
  · refine mono (fun d hd => ?_) (g5 x hx r hr)
    rcases hd with ⟨r2, h1, h2⟩ | h
    · exact .inl ⟨r2, List.mem_cons_of_mem _ h1, h2⟩
    · exact .inr h
def kF (m : Nat) (l : List Tp) : Bool := List.rec (motive := fun _ => Bool) true (fun d _ ih => aq (eW m d) ih) l
def GM (m : Nat) (l : List (List Row)) : Bool := List.rec (motive := fun _ => Bool) true (fun r _ ih => aq (kF m (dsL r)) ih) l
theorem fp : ∀ {l : List Tp}, kF m l = true → ∀ x ∈ l, eW m x = true
 | [], _, x, h => by cases h
 | a :: l, h, x, hx => by
  obtain ⟨h1, h2⟩ := ak (show aq (eW m a) (kF m l) = true from h)
  rcases List.mem_cons.1 hx with rfl | hx
  · exact h1
  · exact fp h2 x hx
theorem pZ : ∀ {l : List (List Row)}, GM m l = true → ∀ rs ∈ l, ∀ x ∈ dsL rs, eW m x = true
 | [], _, x, h => by cases h
 | a :: l, h, x, hx => by
  obtain ⟨h1, h2⟩ := ak (show aq (kF m (dsL a)) (GM m l) = true from h)
  rcases List.mem_cons.1 hx with rfl | hx
  · exact fp h1
  · exact pZ h2 x hx
end
end
noncomputable section
def aN : N16 AV := ⟨.nilif, .nilif, .nilif, .nilif, .nilif, .nilif, .nilif, .nilif, .nilif, .nilif, .nilif, .nilif, .nilif, .nilif, .nilif, .nilif⟩
structure En where
 (h : Nat) (d : Tp) (ps : List Nat)
def jz {X : Type} (n : Nat) (k : Nat → X) : X := Nat.rec (motive := fun _ => X) (k 0) (fun p _ => k (Nat.succ p)) n
def a8a {X : Type} (n : Int) (k : Int → X) : X := Int.rec (motive := fun _ => X) (fun n => jz n fun n => k (.ofNat n)) (fun n => jz n fun n => k (.negSucc n)) n
def fKd {X : Type} (t : IntKind) (k : IntKind → X) : X := match t with
 | .i64 => k .i64
 | .u64 => k .u64
 | t => k t
def fQ {X : Type} (q : Option Nat) (k : Option Nat → X) : X := Option.rec (motive := fun _ => X) (k none) (fun n => jz n fun n => k (some n)) q
def fA0 {X : Type} (v : AV) (k : AV → X) : X := match v with
 | .int t n => fKd t fun t => a8a n fun n => k (.int t n)
 | .bool b => cond b (k (.bool true)) (k (.bool false))
 | .ptr b o => jz b fun b => jz o fun o => k (.ptr b o)
 | .sl b o l q => jz b fun b => jz o fun o => jz l fun l => fQ q fun q => k (.sl b o l q)
 | .map b => jz b fun b => k (.map b)
 | .nilif => k .nilif
 | .nilsl => k .nilsl
 | .nilp => k .nilp
 | .nilmap => k .nilmap
 | v => k v
def fL0 {X : Type} (l : List AV) : (List AV → X) → X := List.rec (motive := fun _ => (List AV → X) → X) (fun k => k []) (fun a _ ih k => fA0 a fun a => ih fun r => k (a :: r)) l
def fA {X : Type} (v : AV) (k : AV → X) : X := match v with
 | .agg l => fL0 l fun l => k (.agg l)
 | v => fA0 v k
def fL {X : Type} (l : List AV) : (List AV → X) → X := List.rec (motive := fun _ => (List AV → X) → X) (fun k => k []) (fun a _ ih k => fA a fun a => ih fun r => k (a :: r)) l
def f16 {X : Type} (c : N16 AV) (k : N16 AV → X) : X := N16.rec (motive := fun _ => X) (fun x0 x1 x2 x3 x4 x5 x6 x7 x8 x9 x10 x11 x12 x13 x14 x15 => fA0 x0 fun x0 => fA0 x1 fun x1 => fA0 x2 fun x2 => fA0 x3 fun x3 => fA0 x4 fun x4 => fA0 x5 fun x5 => fA0 x6 fun x6 => fA0 x7 fun x7 => fA0 x8 fun x8 => fA0 x9 fun x9 => fA0 x10 fun x10 => fA0 x11 fun x11 => fA0 x12 fun x12 => fA0 x13 fun x13 => fA0 x14 fun x14 => fA0 x15 fun x15 => k ⟨x0, x1, x2, x3, x4, x5, x6, x7, x8, x9, x10, x11, x12, x13, x14, x15⟩) c
def a8b {X : Type} (l : List (N16 AV)) : (List (N16 AV) → X) → X := List.rec (motive := fun _ => (List (N16 AV) → X) → X) (fun k => k []) (fun a _ ih k => f16 a fun a => ih fun r => k (a :: r)) l
def fEs {X : Type} (l : List (AV × AV)) : (List (AV × AV) → X) → X := List.rec (motive := fun _ => (List (AV × AV) → X) → X) (fun k => k []) (fun a _ ih k => fA a.1 fun x => fA a.2 fun y => ih fun r => k ((x, y) :: r)) l
def fFs {X : Type} (l : List (AV × AV × Nat)) : (List (AV × AV × Nat) → X) → X := List.rec (motive := fun _ => (List (AV × AV × Nat) → X) → X) (fun k => k []) (fun a _ ih k => fA a.1 fun x => fA a.2.1 fun y => jz a.2.2 fun z => ih fun r => k ((x, y, z) :: r)) l
def fO {X : Type} (x : Option AV) (k : Option AV → X) : X := Option.rec (motive := fun _ => X) (k none) (fun v => fA0 v fun v => k (some v)) x
def fQ1 {X : Type} (c : N16 (Option AV)) (k : N16 (Option AV) → X) : X := N16.rec (motive := fun _ => X) (fun x0 x1 x2 x3 x4 x5 x6 x7 x8 x9 x10 x11 x12 x13 x14 x15 => fO x0 fun x0 => fO x1 fun x1 => fO x2 fun x2 => fO x3 fun x3 => fO x4 fun x4 => fO x5 fun x5 => fO x6 fun x6 => fO x7 fun x7 => fO x8 fun x8 => fO x9 fun x9 => fO x10 fun x10 => fO x11 fun x11 => fO x12 fun x12 => fO x13 fun x13 => fO x14 fun x14 => fO x15 fun x15 => k ⟨x0, x1, x2, x3, x4, x5, x6, x7, x8, x9, x10, x11, x12, x13, x14, x15⟩) c
def fQ2 {X : Type} (c : N16 (N16 (Option AV))) (k : N16 (N16 (Option AV)) → X) : X := N16.rec (motive := fun _ => X) (fun x0 x1 x2 x3 x4 x5 x6 x7 x8 x9 x10 x11 x12 x13 x14 x15 => fQ1 x0 fun x0 => fQ1 x1 fun x1 => fQ1 x2 fun x2 => fQ1 x3 fun x3 => fQ1 x4 fun x4 => fQ1 x5 fun x5 => fQ1 x6 fun x6 => fQ1 x7 fun x7 => fQ1 x8 fun x8 => fQ1 x9 fun x9 => fQ1 x10 fun x10 => fQ1 x11 fun x11 => fQ1 x12 fun x12 => fQ1 x13 fun x13 => fQ1 x14 fun x14 => fQ1 x15 fun x15 => k ⟨x0, x1, x2, x3, x4, x5, x6, x7, x8, x9, x10, x11, x12, x13, x14, x15⟩) c
def fTr {X : Type} (t : Tr AV) (k : Tr AV → X) : X := Tr.rec (motive := fun _ => X) (fun a => fQ1 a fun a => k (.t1 a)) (fun a => fQ2 a fun a => k (.t2 a)) (fun a b => k (.t3 a b)) t
def fTM {X : Type} (x : TM) (k : TM → X) : X := match x with
 | .c e l => jz e fun e => fL l fun l => k (.c e l)
 | .w cs => a8b cs fun cs => k (.w cs)
 | .m es => fEs es fun es => k (.m es)
 | .f es c => fFs es fun es => jz c fun c => k (.f es c)
 | .k e n t => jz e fun e => jz n fun n => fTr t fun t => k (.k e n t)
def fTs {X : Type} (l : List TM) : (List TM → X) → X := List.rec (motive := fun _ => (List TM → X) → X) (fun k => k []) (fun a _ ih k => fTM a fun a => ih fun r => k (a :: r)) l
def fTp {X : Type} (d : Tp) (k : Tp → X) : X := fTM d.v fun v => fTs d.r fun r => k ⟨v, r⟩
def Y0 : Ys := fun _ _ => 0
def Z0 : Zs := fun _ _ => 0
end
noncomputable section
def View (H : AHeap) (v : AV) (l : List Int) : Prop :=
 (v = .nilsl ∧ l = []) ∨ ∃ b n q N t, v = .sl b 0 n q ∧ (∀ c, q = some c → c ≤ n) ∧ H.get b = some (.cells false 1 N t) ∧ n ≤ N ∧ n = l.length ∧ ∀ i x, l[i]? = some x → t.get? i = some (.int .i64 x)
def vF (v : AV) : Bool := match v with
 | .int .i64 _ => true
 | _ => false
def asI (v : AV) (k : Int → Bool) : Bool := match v with
 | .int .i64 n => k n
 | _ => false
theorem nR {v : AV} {k : Int → Bool} (h : asI v k = true) : ∃ n, v = .int .i64 n ∧ k n = true := by
 unfold asI at h
 split at h
 · exact ⟨_, rfl, h⟩
 · cases h
def Hj (v : AV) : Bool := match v with
 | .nilsl => true
 | .sl _ _ _ _ => true
 | _ => false
def RC (t : Tr AV) (n : Nat) : Nat → (List Int → Bool) → Bool := Nat.rec (motive := fun _ => Nat → (List Int → Bool) → Bool) (fun _ k => k [])
 (fun _ ih i k => Option.rec (motive := fun _ => Bool) false (fun v => asI v fun x => ih (Nat.succ i) fun l => k (x :: l)) (t.get? i)) n
theorem pP {t : Tr AV} : ∀ {n i : Nat} {k : List Int → Bool}, RC t n i k = true → ∃ l, k l = true ∧ l.length = n ∧ ∀ j x, l[j]? = some x → t.get? (i + j) = some (.int .i64 x)
 | 0, i, k, h => ⟨[], h, rfl, fun j x e => by simp at e⟩
 | n + 1, i, k, h => by
  have h : Option.rec (motive := fun _ => Bool) false (fun v => asI v fun x => RC t n (Nat.succ i) fun l => k (x :: l)) (t.get? i) = true := h
  cases e : t.get? i with
  | none => rw [e] at h; cases h
  | some v =>
   rw [e] at h
   obtain ⟨x, rfl, h2⟩ := nR h
   obtain ⟨l, h3, h4, h5⟩ := pP h2
   refine ⟨x :: l, h3, by simp [h4], fun j y hy => ?_⟩
   cases j with
   | zero => simp at hy; subst hy; exact e
   | succ j =>
    have := h5 j y (by simpa using hy)
    rwa [show Nat.succ i + j = i + (j + 1) by omega] at this
def leQ (q : Option Nat) (n : Nat) : Bool := match q with
 | none => true
 | some c => Nat.ble c n
def vc (n0 : Nat) (H : AHeap) (v : AV) (k : List Int → Bool) : Bool := match v with
 | .nilsl => k []
 | .sl b o n q => aq (Nat.beq o 0) (aq (leQ q n) (aq (Nat.ble n0 b) (match H.get b with
  | some (.cells false 1 N t) => aq (Nat.ble n N) (RC t n 0 k)
  | _ => false)))
 | _ => false
theorem wP {n0 : Nat} {H : AHeap} {v : AV} {k : List Int → Bool} (h : vc n0 H v k = true) : ∃ l, View H v l ∧ k l = true ∧ ∀ b, v.blk = some b → n0 ≤ b := by
 unfold vc at h
 split at h
 · exact ⟨[], .inl ⟨rfl, rfl⟩, h, fun b e => (by cases e)⟩
 · rename_i b o n q
   obtain ⟨h1, h⟩ := ak h
   obtain ⟨h2, h⟩ := ak h
   obtain ⟨h3, h⟩ := ak h
   split at h
   · rename_i N t e
     obtain ⟨h4, h5⟩ := ak h
     obtain ⟨l, k1, k2, k3⟩ := pP h5
     obtain rfl := Nat.eq_of_beq_eq_true h1
     refine ⟨l, .inr ⟨b, n, q, N, t, rfl, fun c hc => ?_, e, Nat.le_of_ble_eq_true h4, k2.symm, fun i x hx => by have := k3 i x hx; rwa [Nat.zero_add] at this⟩, k1, fun b' e' => ?_⟩
     · subst hc; exact Nat.le_of_ble_eq_true h2
     · cases e'; exact Nat.le_of_ble_eq_true h3
   · cases h
 · cases h
def ve (ok : List Int → Int → Int → Bool) (n0 : Nat) (r : R) : Bool := match r with
 | some (.agg [vo, e, t, s, d, f, va], H) => aq (ni 4 n0 H) (aq (vF s) (aq (vF d) (aq (vF f) (aq (Hj va) (asI e fun en => asI t fun tr => vc n0 H vo fun out => ok out en tr)))))
 | _ => false
def Told1 (ok : List Int → Int → Int → Bool) (n0 : Nat) (a : AV) (H : AHeap) : Prop := ∃ (vo va : AV) (en tr st dn fo : Int) (out : List Int), a = .agg [vo, .int .i64 en, .int .i64 tr, .int .i64 st, .int .i64 dn, .int .i64 fo, va] ∧ View H vo out ∧ (∀ b, vo.blk = some b → n0 ≤ b) ∧ Hj va = true ∧ ok out en tr = true
theorem np {v : AV} (h : vF v = true) : ∃ n, v = .int .i64 n := by
 unfold vF at h
 split at h
 · exact ⟨_, rfl⟩
 · cases h
theorem wR {ok : List Int → Int → Int → Bool} {n0 : Nat} {r : R} (h : ve ok n0 r = true) : ∃ a H, r = some (a, H) ∧ Told1 ok n0 a H ∧ ni 4 n0 H = true := by
 unfold ve at h
 split at h
 · rename_i vo e t s d f va H
   obtain ⟨h0, h⟩ := ak h
   obtain ⟨h1, h⟩ := ak h
   obtain ⟨h2, h⟩ := ak h
   obtain ⟨h3, h⟩ := ak h
   obtain ⟨h4, h⟩ := ak h
   obtain ⟨en, rfl, h⟩ := nR h
   have h : (asI t fun tr => vc n0 H vo fun out => ok out en tr) = true := h
   obtain ⟨tr, rfl, h⟩ := nR h
   have h : (vc n0 H vo fun out => ok out en tr) = true := h
   obtain ⟨out, v1, v2, v3⟩ := wP h
   obtain ⟨x1, rfl⟩ := np h1
   obtain ⟨x2, rfl⟩ := np h2
   obtain ⟨x3, rfl⟩ := np h3
   exact ⟨_, _, rfl, ⟨_, _, _, _, _, _, _, _, rfl, v1, v3, h4, v2⟩, h0⟩
 · cases h
section
variable {call : aa} {f1 f2 : Nat} {mv : Mv} {B : Tr AObj} {m : Nat} {st : List TM} {A : Tp → Prop} {ok : List Int → Int → Int → Bool}
structure ClosedT (call : aa) (f1 f2 : Nat) (mv : Mv) (B : Tr AObj) (m : Nat) (st : List TM) (A : Tp → Prop) (ok : List Int → Int → Int → Bool) : Prop where
 stat : StatB B m
 sts : ∀ i x, st[i]? = some x → ∀ Y Z, B.get? (5 + i) = some (exO idN Y Z 0 x)
 okT : ∀ d, A d → eW m d = true
 row : ∀ d, A d → ∀ Y Z, ∃ ps, hgB m st d (Nat.add m (aC d.r)) ps 5 = true ∧ mv (hT B m Y Z d) ≠ [] ∧ ∀ x ∈ mv (hT B m Y Z d), (∃ b, x.1 = .bool b) ∧ ir (hT B m Y Z d) x.2 ∧ ∃ d2, A d2 ∧ ∃ Y2 Z2 s, Part s (hT B m Y2 Z2 d2) x.2 ∧ ∀ b, b < m → s b = b
 one : ∀ h, mv h ≠ [] → ∀ p : Nat, p ≤ 1000000000 → ∃ x ∈ mv h, call f1 [.ptr 4 0, .int .i64 (p : Int)] h = some x
 told : ∀ d, A d → ∀ Y Z s, ∃ a h', call f2 [.ptr 4 0, .int .i64 s] (hT B m Y Z d) = some (a, h') ∧ ir (hT B m Y Z d) h' ∧ Told1 ok (hT B m Y Z d).n a h'
def R1 (B : Tr AObj) (m : Nat) (A : Tp → Prop) (h : AHeap) (a : List AV) : Prop := ∃ d Y Z, ∃ p : Nat, A d ∧ p ≤ 1000000000 ∧ h = hT B m Y Z d ∧ a = [.ptr 4 0, .int .i64 (p : Int)]
def R2 (B : Tr AObj) (m : Nat) (A : Tp → Prop) (h : AHeap) (a : List AV) : Prop := ∃ d Y Z s, A d ∧ h = hT B m Y Z d ∧ a = [.ptr 4 0, .int .i64 s]
def Inv (B : Tr AObj) (m : Nat) (A : Tp → Prop) (vb : Nat) (X : Nat → Prop) (H : AHeap) : Prop :=
 H.t.Full H.n ∧ ∃ d Y Z ι, A d ∧ Part ι (hT B m Y Z d) H ∧ (∀ s, s < 4 → ι s = s) ∧ ι 4 = vb ∧ ∀ b, X b → b < H.n ∧ 4 ≤ b ∧ ∀ s, s < (hT B m Y Z d).n → ι s ≠ b
theorem a6t (C : ClosedT call f1 f2 mv B m st A ok) : ∀ h a, R1 B m A h a → dz h.n a ∧ 4 ≤ h.n ∧ ue 4 h a ∧ ∃ r h', call f1 a h = some (r, h') ∧ ir h h' := by
 rintro h a ⟨d, Y, Z, p, hd, hp, rfl, rfl⟩
 have h4 := C.stat.four
 obtain ⟨ps, c2, c3, c4⟩ := C.row d hd Y Z
 obtain ⟨x, hx, e⟩ := C.one _ c3 p hp
 exact ⟨⟨by rw [lL]; show 4 < _; omega, trivial, trivial⟩, by rw [lL]; omega, DS C.stat (fun i x e => C.sts i x e Y Z) c2 _, x.1, x.2, e, (c4 x hx).2.1⟩
theorem a6s (C : ClosedT call f1 f2 mv B m st A ok) : ∀ h a, R2 B m A h a → dz h.n a ∧ 4 ≤ h.n ∧ ue 4 h a ∧ ∃ r h', call f2 a h = some (r, h') ∧ ir h h' := by
 rintro h a ⟨d, Y, Z, s, hd, rfl, rfl⟩
 have h4 := C.stat.four
 obtain ⟨ps, c2, c3, c4⟩ := C.row d hd Y Z
 obtain ⟨r, h', e, l, _⟩ := C.told d hd Y Z s
 exact ⟨⟨by rw [lL]; show 4 < _; omega, trivial, trivial⟩, by rw [lL]; omega, DS C.stat (fun i x e => C.sts i x e Y Z) c2 _, r, h', e, l⟩
theorem GJ (C : ClosedT call f1 f2 mv B m st A ok) {G : List Nat} (hG : ∀ g, G.contains g = true → g < 4) {vb : Nat} {X : Nat → Prop} {H : AHeap} (I : Inv B m A vb X H) {p : Nat} (hp : p ≤ 1000000000) :
 ∃ b H', bg (QT (R1 B m A) 4) G call f1 [.ptr vb 0, .int .i64 (p : Int)] H = some (.bool b, H') ∧ Inv B m A vb X H' ∧ H.n ≤ H'.n ∧ ∀ x, X x → H'.get x = H.get x := by
 obtain ⟨hF, d, Y, Z, ι, hd, pt, hk, h4, hX⟩ := I
 obtain ⟨v, H', e, ι2, h2, a2, r2, h2', ⟨d2, Y2, Z2, p2, hd2, hp2, rfl, rfl⟩, pt2, hk2, ea, ec, hv, W2, out⟩ := kB hG (a6t C) pt hF hk ⟨d, Y, Z, p, hd, hp, rfl, rfl⟩
 have ea1 : [AV.ptr (ι 4) 0, AV.int .i64 (p : Int)] = [AV.ptr (ι2 4) 0, AV.int .i64 (p2 : Int)] := ea
 simp only [List.cons.injEq, AV.ptr.injEq, AV.int.injEq, and_true, true_and] at ea1
 obtain ⟨e4, ep⟩ := ea1
 obtain ⟨ps, c2, c3, c4⟩ := C.row d2 hd2 Y2 Z2
 obtain ⟨x, hx, ex⟩ := C.one _ c3 p2 hp2
 rw [ec] at ex
 obtain rfl := Option.some.inj ex
 obtain ⟨⟨b, hb⟩, hl, d3, hd3, Y3, Z3, s, ps3, hs⟩ := c4 _ hx
 have hb : r2 = .bool b := hb
 subst hb
 have h4m := C.stat.four
 have hn2 : (hT B m Y2 Z2 d2).n = m + d2.r.length := lL
 refine ⟨b, H', ?_, ⟨W2.full, d3, Y3, Z3, _, hd3, pt2.next W2 hl.2.1 ps3, fun x hx => ?_, ?_, fun x hx => ?_⟩, by rw [W2.n]; omega, fun x hx => (out x (hX x hx).1 (hX x hx).2.1 (hX x hx).2.2).1⟩
 · have e : bg (QT (R1 B m A) 4) G call f1 [.ptr (ι 4) 0, .int .i64 (p : Int)] H = some (v, H') := e
   rw [← h4, e, hv]
   rfl
 · show ιn ι2 _ H.n (s x) = x
   rw [hs x (by omega)]
   unfold ιn
   rw [if_pos (by omega)]
   exact hk2 x hx
 · show ιn ι2 _ H.n (s 4) = vb
   rw [hs 4 h4m]
   unfold ιn
   rw [if_pos (by omega), ← e4, h4]
 · obtain ⟨x1, x2, x3⟩ := hX x hx
   exact ⟨by rw [W2.n]; omega, x2, fun b _ => ιn_out x1 (out x x1 x2 x3).2 _⟩
theorem View.whole {ι : Nat → Nat} {h H h' H' : AHeap} (W : Whole ι h H h' H') {v : AV} {l : List Int} (g : View h' v l) : View H' (rnV (ιn ι h.n H.n) v) l := by
 rcases g with ⟨rfl, rfl⟩ | ⟨b, n, q, N, t, rfl, h1, h2, h3, h4, h5⟩
 · exact .inl ⟨rfl, rfl⟩
 · obtain ⟨o', e, r⟩ := W.part b _ h2
   cases o' with
   | cells ro' e' n' t' =>
    obtain ⟨rfl, rfl, rfl, r4⟩ := r
    exact .inr ⟨_, n, q, N, t', rfl, h1, e, h3, h4, fun i x hx => r4 i _ (h5 i x hx)⟩
   | _ => exact r.elim
theorem EO (C : ClosedT call f1 f2 mv B m st A ok) {G : List Nat} (hG : ∀ g, G.contains g = true → g < 4) {vb : Nat} {X : Nat → Prop} {H : AHeap} (I : Inv B m A vb X H) (s : Int) :
 ∃ a H', bg (QT (R2 B m A) 4) G call f2 [.ptr vb 0, .int .i64 s] H = some (a, H') ∧ H'.t.Full H'.n ∧ Told1 ok H.n a H' ∧ H.n ≤ H'.n ∧ ∀ x, X x → H'.get x = H.get x := by
 obtain ⟨hF, d, Y, Z, ι, hd, pt, hk, h4, hX⟩ := I
 obtain ⟨v, H', e, ι2, h2, a2, r2, h2', ⟨d2, Y2, Z2, s2, hd2, rfl, rfl⟩, pt2, hk2, ea, ec, hv, W2, out⟩ := kB hG (a6s C) pt hF hk ⟨d, Y, Z, s, hd, rfl, rfl⟩
 obtain ⟨a, h', ex, hl, vo, va, en, tr, st, dn, fo, o, rfl, v1, v2, v3, v4⟩ := C.told d2 hd2 Y2 Z2 s2
 rw [ec] at ex
 obtain ⟨rfl, rfl⟩ := Prod.mk.inj (Option.some.inj ex)
 refine ⟨v, H', ?_, W2.full, ?_, by rw [W2.n]; omega, fun x hx => (out x (hX x hx).1 (hX x hx).2.1 (hX x hx).2.2).1⟩
 · have e : bg (QT (R2 B m A) 4) G call f2 [.ptr (ι 4) 0, .int .i64 s] H = some (v, H') := e
   rw [← h4, e]
 · rw [hv]
   refine ⟨_, _, en, tr, st, dn, fo, o, rfl, v1.whole W2, fun b hb => ?_, ?_, v4⟩
   · cases vo with
     | ptr b0 o =>
      rcases v1 with ⟨c, _⟩ | ⟨_, _, _, _, _, c, _⟩ <;> cases c
     | sl b0 o l c =>
      have := v2 b0 rfl
      cases hb
      show H.n ≤ ιn ι2 _ H.n b0
      unfold ιn
      rw [if_neg (by omega)]
      omega
     | map b0 =>
      rcases v1 with ⟨c, _⟩ | ⟨_, _, _, _, _, c, _⟩ <;> cases c
     | _ => cases hb
   · cases va <;> first | exact v3 | cases v3
end
end
noncomputable section
def deB : List AV := [0, 1, 56, 2, 57, 49, 28, 3, 61, 58, 42, 50, 38, 29, 17, 4, 62, 47, 59, 36, 45, 43, 51, 22, 53, 39, 33, 30, 24, 18, 12, 5, 63, 55, 48, 27, 60, 41, 37, 16, 46, 35, 44, 21, 52, 32, 23, 11, 54, 26, 40, 15, 34, 20, 31, 10, 25, 14, 19, 9, 13, 8, 7, 6].map (AV.int .u8)
def gq : List AObj := [.dead, .dead, .dead, .cells true 1 64 (Tr.ofList deB)]
theorem lW {b : Nat} {o : AObj} (h : gq[b]? = some o) : inO 0 o ∧ fullO o ∧ iH o := by
 match b, h with
 | 0, h => cases h; exact ⟨trivial, trivial, trivial⟩
 | 1, h => cases h; exact ⟨trivial, trivial, trivial⟩
 | 2, h => cases h; exact ⟨trivial, trivial, trivial⟩
 | 3, h =>
  cases h
  refine ⟨fun i v e => ?_, ?_, trivial⟩
  · rw [Tr.get?_ofList] at e
    unfold deB at e
    rw [List.getElem?_map] at e
    obtain ⟨x, _, rfl⟩ := Option.map_eq_some_iff.1 e
    exact trivial
  · have := Tr.full_ofList deB
    exact this
 | n + 4, h => simp [gq] at h
theorem qp : (Tr.ofList gq).Full 4 := Tr.full_ofList gq
def hP (d : List TM) : AHeap := { n := Nat.add 4 (aC d), t := (Tr.ofList gq).pushAll 4 (exR idN Y0 Z0 d 0) }
theorem fM (d : List TM) : (hP d).t.Full (hP d).n := by
 have := (Tr.pushAll_spec (exR idN Y0 Z0 d 0) qp).1
 rw [jA] at this
 show Tr.Full _ (Nat.add 4 (aC d))
 rw [de]
 exact this
theorem xy (d : List TM) (b : Nat) : (hP d).get b = if b < 4 then gq[b]? else d[b - 4]?.map (exO idN Y0 Z0 (b - 4)) := by
 show ((Tr.ofList gq).pushAll 4 _).get? b = _
 rw [(Tr.pushAll_spec (exR idN Y0 Z0 d 0) qp).2]
 by_cases c : 4 ≤ b
 · rw [if_pos (by exact c), if_neg (by omega), jB, Nat.zero_add]
 · rw [if_neg (by exact c), if_pos (by omega), Tr.get?_ofList]
theorem Ht (d : List TM) : (hP d).n = 4 + d.length := by
 show Nat.add 4 (aC d) = _
 rw [de]; rfl
def Dw (l : List AV) : Bool := List.rec (motive := fun _ => Bool) true (fun a _ ih => cond (py a) false ih) l
def Dv (x : TM) : Bool := match x with
 | .c _ l => Dw l
 | _ => false
theorem vL {s : Nat → Nat} {y y' : Nat → Int} : ∀ {l : List AV} {i i' : Nat}, Dw l = true → exL s y l i = exL s y' l i'
 | [], _, _, _ => rfl
 | a :: l, i, i', h => by
  have h : cond (py a) false (Dw l) = true := h
  show cond (py a) (.int .i64 (y i)) (rn1 s a) :: exL s y l (Nat.succ i) = cond (py a) (.int .i64 (y' i')) (rn1 s a) :: exL s y' l (Nat.succ i')
  cases c : py a with
  | true => rw [c] at h; cases h
  | false => rw [c] at h; rw [vL (l := l) h]; rfl
theorem nE {s : Nat → Nat} {Y Y' : Ys} {Z Z' : Zs} {j j' : Nat} {x : TM} (h : Dv x = true) : exO s Y Z j x = exO s Y' Z' j' x := by
 cases x with
 | c e l => show AObj.cells _ _ _ (trL _ (exL _ (Y j) l 0)) = AObj.cells _ _ _ (trL _ (exL _ (Y' j') l 0)); rw [vL (show Dw l = true from h)]
 | w cs => cases h
 | m es => cases h
 | f es k => cases h
 | k e m t => cases h
def qj : List Nat := [0, 1, 2, 3]
theorem hJ {b : Nat} (h : b < 4) : b ∈ qj := by
 match b, h with
 | 0, _ => exact .head _
 | 1, _ => exact .tail _ (.head _)
 | 2, _ => exact .tail _ (.tail _ (.head _))
 | 3, _ => exact .tail _ (.tail _ (.tail _ (.head _)))
def hQ (d : List TM) (Y : Ys) (Z : Zs) : AHeap := { n := Nat.add 4 (aC d), t := (Tr.ofList gq).pushAll 4 (exR idN Y Z d 0) }
theorem DT (d : List TM) (Y : Ys) (Z : Zs) : (hQ d Y Z).t.Full (hQ d Y Z).n := by
 have := (Tr.pushAll_spec (exR idN Y Z d 0) qp).1
 rw [jA] at this
 show Tr.Full _ (Nat.add 4 (aC d))
 rw [de]
 exact this
theorem xx (d : List TM) (Y : Ys) (Z : Zs) (b : Nat) : (hQ d Y Z).get b = if b < 4 then gq[b]? else d[b - 4]?.map (exO idN Y Z (b - 4)) := by
 show ((Tr.ofList gq).pushAll 4 _).get? b = _
 rw [(Tr.pushAll_spec (exR idN Y Z d 0) qp).2]
 by_cases c : 4 ≤ b
 · rw [if_pos (by exact c), if_neg (by omega), jB, Nat.zero_add]
 · rw [if_neg (by exact c), if_pos (by omega), Tr.get?_ofList]
theorem T5 (d : List TM) (Y : Ys) (Z : Zs) : (hQ d Y Z).n = 4 + d.length := by
 show Nat.add 4 (aC d) = _
 rw [de]; rfl
theorem kP {s : Nat → Nat} {Y Y' : Ys} {Z Z' : Zs} {j j' : Nat} (hy : Y j = Y' j') (hz : Z j = Z' j') (x : TM) : exO s Y Z j x = exO s Y' Z' j' x := by
 cases x with
 | c e l => show AObj.cells _ _ _ (trL _ (exL _ (Y j) l 0)) = AObj.cells _ _ _ (trL _ (exL _ (Y' j') l 0)); rw [hy]
 | w cs => show AObj.cells _ _ _ (wtr (Y j) cs) = AObj.cells _ _ _ (wtr (Y' j') cs); rw [hy]
 | m es => show AObj.map (exE _ (Z j) es 1) (Z j 0) = AObj.map (exE _ (Z' j') es 1) (Z' j' 0); rw [hz]
 | f es k => rfl
 | k e m t => rfl
def cg (r : R) (h0 : AHeap) (r0 : AV) (d : List TM) (ns : List Nat) : LkR := match r with
 | some (v, h') => cond (aq (okR (Nat.add 4 (aC d)) d) (aq (ni 4 h0.n h') (aq (AV.beq v (rnV (sO 4 ns) r0)) (aq (qx 4 ns) (EZ ns)))))
  (l8 qj h0 h' [] fun l => tmB h' (sO 4 ns) d ns l fin) noR
 | none => noR
theorem DG {r : R} {h0 : AHeap} {r0 : AV} {d : List TM} {ns : List Nat} (h4 : 4 ≤ h0.n) (hp : ∀ b, b < 4 → h0.get b = gq[b]?) (g : b9 (cg r h0 r0 d ns)) :
 ∃ h', r = some (rnV (sO 4 ns) r0, h') ∧ ir h0 h' ∧ (∀ b, b < 4 → h'.get b = gq[b]?) ∧ (∀ b, b < 4 → sO 4 ns b = b) ∧ (∀ b, 4 ≤ b → b < 4 + d.length → 4 ≤ sO 4 ns b) ∧ ∃ Y Z, Part (sO 4 ns) (hQ d Y Z) h' := by
 unfold cg at g
 split at g
 · rename_i v h'
   cases c : aq (okR (Nat.add 4 (aC d)) d) (aq (ni 4 h0.n h') (aq (AV.beq v (rnV (sO 4 ns) r0)) (aq (qx 4 ns) (EZ ns)))) with
   | false => rw [c] at g; cases g.1
   | true =>
    rw [c] at g
    obtain ⟨c0, c1⟩ := ak c
    obtain ⟨d1, c2⟩ := ak c1
    obtain ⟨c2, c3⟩ := ak c2
    obtain ⟨c3, c4⟩ := ak c3
    have hok := jo c0
    have hge := j0 c3
    have hnd := kH c4
    have ev := AV.beq_eq c2
    subst ev
    have g : b9 (l8 qj h0 h' [] fun l => tmB h' (sO 4 ns) d ns l fin) := g
    obtain ⟨_, g2, l2, g3⟩ := jf (k := fun l => tmB h' (sO 4 ns) d ns l fin) (fun l g => (mH kO g).1) g
    obtain ⟨_, g5, g6, _⟩ := mH kO g3
    have hl : ir h0 h' := iJ d1 h4 fun b hb => g2 b (hJ hb)
    have hlow : ∀ b, b < 4 → sO 4 ns b = b := fun b hb => fI hb
    have up : ∀ b, 4 ≤ b → b < 4 + d.length → ∃ i x, b = 4 + i ∧ ns[i]? = some x ∧ sO 4 ns b = x ∧ 4 ≤ x := fun b hm hb => by
     have hi : b - 4 < ns.length := by omega
     refine ⟨b - 4, ns[b - 4], by omega, List.getElem?_eq_getElem hi, ?_, hge _ _ (List.getElem?_eq_getElem hi)⟩
     have := Dy (m := 4) (List.getElem?_eq_getElem hi)
     rwa [show 4 + (b - 4) = b by omega] at this
    refine ⟨h', rfl, hl, fun b hb => (g2 b (hJ hb)).trans (hp b hb), hlow, fun b h1 h2 => ?_, fun j => na ((h'.get (sO 4 ns (4 + j))).getD .dead), fun j => stO ((h'.get (sO 4 ns (4 + j))).getD .dead), ?_⟩
    · obtain ⟨i, x, _, _, q, q2⟩ := up b h1 h2
      rw [q]; exact q2
    · generalize hY : (fun j => na ((h'.get (sO 4 ns (4 + j))).getD .dead)) = Y
      generalize hZ : (fun j => stO ((h'.get (sO 4 ns (4 + j))).getD .dead)) = Z
      have hlen : Nat.add 4 (aC d) = (hQ d Y Z).n := rfl
      have key : ∀ b o, (hQ d Y Z).get b = some o → (∃ o', h'.get (sO 4 ns b) = some o' ∧ RnO (sO 4 ns) o o') ∧ inO (hQ d Y Z).n o ∧ fullO o := fun b o e => by
       rw [xx] at e
       by_cases c : b < 4
       · rw [if_pos c] at e
         obtain ⟨a1, a2, a3⟩ := lW e
         refine ⟨⟨o, ?_, wK (n := 0) (fun b hb => by omega) a1 a3⟩, jw (Nat.zero_le _) a1, a2⟩
         rw [hlow b c, g2 b (hJ c), hp b c, e]
       · rw [if_neg c] at e
         obtain ⟨x, hx, rfl⟩ := Option.map_eq_some_iff.1 e
         obtain ⟨a1, a2, a3, _⟩ := rf (s := sO 4 ns) (Y := Y) (Z := Z) (j := b - 4) (hok x (List.mem_of_getElem? hx))
         refine ⟨⟨_, ?_, a1⟩, by rw [← hlen]; exact a2, a3⟩
         obtain ⟨b', o, u1, u2, u3⟩ := g6 _ x hx
         have hs := Dy (m := 4) u1
         rw [show 4 + (b - 4) = b by omega] at hs
         rw [hs, u2]
         congr 1
         refine u3.trans (kP ?_ ?_ x)
         · rw [← hY]
           show na o = na ((h'.get (sO 4 ns (4 + (b - 4)))).getD .dead)
           rw [show 4 + (b - 4) = b by omega, hs, u2]; rfl
         · rw [← hZ]
           show stO o = stO ((h'.get (sO 4 ns (4 + (b - 4)))).getD .dead)
           rw [show 4 + (b - 4) = b by omega, hs, u2]; rfl
      refine ⟨DT d Y Z, fun b hb => ?_, fun b b' hb hb' e => ?_, fun b o e => (key b o e).1, fun b o e => (key b o e).2.1, fun b o e => (key b o e).2.2⟩
      · obtain ⟨o, e⟩ := kK (DT d Y Z) hb
        obtain ⟨⟨o', g, _⟩, _⟩ := key b o e
        exact dM hl.1 g
      · rw [T5] at hb hb'
        by_cases c : b < 4 <;> by_cases c' : b' < 4
        · rw [hlow b c, hlow b' c'] at e; exact e
        · obtain ⟨i, x, _, _, q, q2⟩ := up b' (by omega) hb'
          rw [hlow b c, q] at e; omega
        · obtain ⟨i, x, _, _, q, q2⟩ := up b (by omega) hb
          rw [hlow b' c', q] at e; omega
        · obtain ⟨i, x, rfl, hx, q, _⟩ := up b (by omega) hb
          obtain ⟨i', x', rfl, hx', q', _⟩ := up b' (by omega) hb'
          rw [q, q'] at e
          subst e
          obtain ⟨u1, u2⟩ := List.getElem?_eq_some_iff.1 hx
          obtain ⟨u3, u4⟩ := List.getElem?_eq_some_iff.1 hx'
          have := (List.getElem_inj (h₀ := u1) (h₁ := u3) hnd).1 (u2.trans u4.symm)
          omega
 · cases g.1
def Ro (h0 : AHeap) (a0 : List AV) (h : AHeap) (a : List AV) : Prop := h = h0 ∧ a = a0
theorem pS {call : aa} {f : Nat} {h0 : AHeap} {a0 : List AV} {r0 : AV} {d : List TM} {ns : List Nat} {G : List Nat} (hG : ∀ g, G.contains g = true → g < 4) (h4 : 4 ≤ h0.n) (hp : ∀ b, b < 4 → h0.get b = gq[b]?) (g : b9 (cg (call f a0 h0) h0 r0 d ns))
 (hin : dz h0.n a0) (hang : ue 4 h0 a0) {ι : Nat → Nat} {H : AHeap} (p : Part ι h0 H) (hF : H.t.Full H.n) (hk : ∀ s, s < 4 → ι s = s) (_hr0 : inV (4 + d.length) r0) :
 ∃ σ H', bg (QT (Ro h0 a0) 4) G call f (br ι a0) H = some (rnV σ r0, H') ∧ H'.t.Full H'.n ∧ H.n ≤ H'.n ∧ (∀ b, b < 4 → σ b = b) ∧ (∃ Y Z, Part σ (hQ d Y Z) H') ∧
  (∀ b, b < H.n → 4 ≤ b → (∀ s, s < h0.n → ι s ≠ b) → H'.get b = H.get b ∧ ∀ s, s < 4 + d.length → σ s ≠ b) := by
 obtain ⟨h', hc, hl, hpre, hlow, hup, Y, Z, pt⟩ := DG h4 hp g
 have hR : ∀ h a, Ro h0 a0 h a → dz h.n a ∧ 4 ≤ h.n ∧ ue 4 h a ∧ ∃ r h', call f a h = some (r, h') ∧ ir h h' := by
  rintro h a ⟨rfl, rfl⟩
  exact ⟨hin, h4, hang, _, _, hc, hl⟩
 obtain ⟨v, H', e, ι2, h2, a2, r2, h2', ⟨rfl, rfl⟩, pt2, hk2, ea, ec, hv, W2, out⟩ := kB hG hR p hF hk ⟨rfl, rfl⟩
 rw [hc] at ec
 obtain ⟨rfl, rfl⟩ := Prod.mk.inj (Option.some.inj ec)
 have pn := pt2.next W2 hl.2.1 pt
 refine ⟨fun b => ιn ι2 h2.n H.n (sO 4 ns b), H', ?_, W2.full, by rw [W2.n]; omega, fun b hb => ?_, ⟨Y, Z, pn⟩, fun b hb h4b hno => ⟨(out b hb h4b hno).1, fun s _ => ιn_out hb (out b hb h4b hno).2 _⟩⟩
 · rw [e, hv, jj]
 · show ιn ι2 h2.n H.n (sO 4 ns b) = b
   rw [hlow b hb]
   unfold ιn
   rw [if_pos (by omega)]
   exact hk2 b hb
end
noncomputable section
theorem Part.congr {ι : Nat → Nat} {h h2 H : AHeap} (p : Part ι h H) (hn : h2.n = h.n) (hg : ∀ b, h2.get b = h.get b) (hf : h2.t.Full h2.n) : Part ι h2 H :=
 ⟨hf, fun b hb => p.lt b (by omega), fun b b' hb hb' => p.inj b b' (by omega) (by omega), fun b o e => p.obj b o (by rw [← hg]; exact e), fun b o e => by rw [hn]; exact p.inn b o (by rw [← hg]; exact e), fun b o e => p.cf b o (by rw [← hg]; exact e)⟩
def BT (st : List TM) : Tr AObj := (Tr.ofList gq).pushAll 4 (.dead :: exR idN Y0 Z0 st 0)
def c7 (l : List TM) : Bool := List.rec (motive := fun _ => Bool) true (fun x _ ih => aq (Dv x) ih) l
theorem fG : ∀ {l : List TM}, c7 l = true → ∀ x ∈ l, Dv x = true
 | [], _, x, h => by cases h
 | a :: l, h, x, hx => by
  obtain ⟨h1, h2⟩ := ak (show aq (Dv a) (c7 l) = true from h)
  rcases List.mem_cons.1 hx with rfl | hx
  · exact h1
  · exact fG h2 x hx
theorem Dm (st : List TM) (b : Nat) : (BT st).get? b = if b < 4 then gq[b]? else if b = 4 then some .dead else st[b - 5]?.map (exO idN Y0 Z0 (b - 5)) := by
 unfold BT
 rw [(Tr.pushAll_spec (.dead :: exR idN Y0 Z0 st 0) qp).2]
 by_cases c : 4 ≤ b
 · rw [if_pos (by exact c), if_neg (by omega)]
   by_cases c4 : b = 4
   · subst c4; rfl
   · rw [if_neg c4]
     obtain ⟨i, rfl⟩ : ∃ i, b = 5 + i := ⟨b - 5, by omega⟩
     rw [show 5 + i - 4 = i + 1 by omega, List.getElem?_cons_succ, jB, show 5 + i - 5 = i by omega, Nat.zero_add]
 · rw [if_neg (by exact c), if_pos (by omega), Tr.get?_ofList]
theorem uY {st : List TM} (h : aq (okR (Nat.add 5 (aC st)) st) (c7 st) = true) : StatB (BT st) (Nat.add 5 (aC st)) := by
 obtain ⟨h1, h2⟩ := ak h
 have h1 := jo h1
 have hl : Nat.add 5 (aC st) = 5 + st.length := by rw [de]; rfl
 refine ⟨?_, by rw [hl]; omega, fun b o e => ?_⟩
 · have := (Tr.pushAll_spec (.dead :: exR idN Y0 Z0 st 0) qp).1
   rw [List.length_cons, jA] at this
   rw [hl, show 5 + st.length = 4 + (st.length + 1) by omega]
   exact this
 · rw [Dm] at e
   by_cases c : b < 4
   · rw [if_pos c] at e
     obtain ⟨a1, a2, a3⟩ := lW e
     exact ⟨jw (Nat.zero_le _) a1, a2, a3⟩
   · rw [if_neg c] at e
     by_cases c4 : b = 4
     · rw [if_pos c4] at e; cases e; exact ⟨trivial, trivial, trivial⟩
     · rw [if_neg c4] at e
       obtain ⟨x, hx, rfl⟩ := Option.map_eq_some_iff.1 e
       obtain ⟨_, a2, a3, a4, _⟩ := rf (s := idN) (Y := Y0) (Z := Z0) (j := b - 5) (h1 x (List.mem_of_getElem? hx))
       exact ⟨a2, a3, a4⟩
theorem a6w {st : List TM} (h : c7 st = true) : ∀ i x, st[i]? = some x → ∀ Y Z, (BT st).get? (5 + i) = some (exO idN Y Z 0 x) := fun i x e Y Z => by
 rw [Dm, if_neg (by omega), if_neg (by omega), show 5 + i - 5 = i by omega, e]
 exact congrArg some (nE (fG h x (List.mem_of_getElem? e)))
def upL (k : Nat) : Nat → List Nat := Nat.rec (motive := fun _ => Nat → List Nat) (fun _ => []) (fun _ ih i => i :: ih (Nat.succ i)) k
theorem Ds : ∀ {k i b : Nat}, i ≤ b → b < i + k → b ∈ upL k i
 | 0, i, b, h1, h2 => by omega
 | k + 1, i, b, h1, h2 => by
  show b ∈ i :: upL k (Nat.succ i)
  by_cases c : b = i
  · subst c; exact List.mem_cons_self
  · exact List.mem_cons_of_mem _ (Ds (by omega) (by omega))
def aL (m : Nat) : List Nat := 0 :: 1 :: 2 :: 3 :: upL (Nat.sub m 5) 5
theorem qi {m : Nat} : ∀ b, b < m → b ≠ 4 → b ∈ aL m := fun b h1 h2 => by
 unfold aL
 match b, h1, h2 with
 | 0, _, _ => simp
 | 1, _, _ => simp
 | 2, _, _ => simp
 | 3, _, _ => simp
 | b + 5, h1, _ =>
  have : b + 5 ∈ upL (Nat.sub m 5) 5 := Ds (by omega) (by show b + 5 < 5 + (m - 5); omega)
  exact .tail _ (.tail _ (.tail _ (.tail _ this)))
theorem GQ {st : List TM} (h : aq (okR (Nat.add 5 (aC st)) st) (c7 st) = true) {v : TM} {r : List TM} {Y : Ys} {Z : Zs} {σ : Nat → Nat} {H : AHeap} (p : Part σ (hQ (v :: (st ++ r)) Y Z) H) :
 ∃ Y' Z', Part σ (hT (BT st) (Nat.add 5 (aC st)) Y' Z' ⟨v, r⟩) H := by
 have hB := uY h
 have hs := (ak h).2
 have hl : Nat.add 5 (aC st) = 5 + st.length := by rw [de]; rfl
 refine ⟨fun j => cond (Nat.beq j 0) (Y 0) (Y (st.length + j)), fun j => cond (Nat.beq j 0) (Z 0) (Z (st.length + j)), p.congr ?_ (fun b => ?_) (r9 hB)⟩
 · rw [lL, T5, hl, List.length_cons, List.length_append]
   show 5 + st.length + r.length = _
   omega
 · rw [r6 hB, xx]
   by_cases c4 : b = 4
   · subst c4
     rw [if_pos rfl, if_neg (by omega)]
     exact congrArg some (kP (Y := fun j => cond (Nat.beq j 0) (Y 0) (Y (st.length + j))) (Z := fun j => cond (Nat.beq j 0) (Z 0) (Z (st.length + j))) (j := 0) (Y' := Y) (Z' := Z) (j' := 4 - 4) rfl rfl v)
   · rw [if_neg c4]
     by_cases c : b < Nat.add 5 (aC st)
     · rw [if_pos c, Dm]
       by_cases c2 : b < 4
       · rw [if_pos c2, if_pos c2]
       · rw [if_neg c2, if_neg c2, if_neg c4]
         obtain ⟨i, rfl⟩ : ∃ i, b = 5 + i := ⟨b - 5, by omega⟩
         rw [show 5 + i - 5 = i by omega, show 5 + i - 4 = i + 1 by omega, List.getElem?_cons_succ, List.getElem?_append_left (by omega)]
         cases e : st[i]? with
         | none => rfl
         | some x => exact congrArg some (nE (fG hs x (List.mem_of_getElem? e)))
     · rw [if_neg c, if_neg (by omega)]
       obtain ⟨i, rfl⟩ : ∃ i, b = 5 + st.length + i := ⟨b - (5 + st.length), by omega⟩
       rw [hl, show 5 + st.length + i - (5 + st.length) = i by omega, show 5 + st.length + i - 4 = st.length + i + 1 by omega, List.getElem?_cons_succ, List.getElem?_append_right (by omega), show st.length + i - st.length = i by omega]
       cases e : r[i]? with
       | none => rfl
       | some x =>
        refine congrArg some (kP ?_ ?_ x)
        · have : Nat.beq (1 + i) 0 = false := by cases c : Nat.beq (1 + i) 0 with | false => rfl | true => have := Nat.eq_of_beq_eq_true c; omega
          simp only [this, cond_false]
          rw [show st.length + (1 + i) = st.length + i + 1 by omega]
        · have : Nat.beq (1 + i) 0 = false := by cases c : Nat.beq (1 + i) 0 with | false => rfl | true => have := Nat.eq_of_beq_eq_true c; omega
          simp only [this, cond_false]
          rw [show st.length + (1 + i) = st.length + i + 1 by omega]
def LC (b : Nat) (v : AV) : Bool := match v with
 | .agg l => xf b l
 | v => dd b v
def DM (b : Nat) (l : List AV) : Bool := List.rec (motive := fun _ => Bool) false (fun v _ r => cond (LC b v) true r) l
theorem nc {b : Nat} : ∀ {l : List AV}, DM b l = true → fw b l
 | [], h => by cases h
 | v :: l, h => by
  have h : cond (LC b v) true (DM b l) = true := h
  cases c : LC b v with
  | false => rw [c] at h; exact .inr (nc (l := l) h)
  | true =>
   refine .inl ?_
   unfold LC at c
   split at c
   · rename_i l'
     obtain ⟨i, w, e, k⟩ := qc c
     exact DR e k
   · exact kI c
def hgP (d : List TM) (a : List AV) (n : Nat) (ps : List Nat) : Nat → Bool := List.rec (motive := fun _ => Nat → Bool) (fun b => Nat.ble n b)
 (fun p _ ih b => aq (cond (Nat.beq p b) (DM b a) (aq (Nat.ble 4 p) (aq (Nat.ble (Nat.succ p) b) (Option.rec (motive := fun _ => Bool) false (xe b) (gu d (Nat.sub p 4)))))) (ih (Nat.succ b))) ps
theorem vH {d : List TM} {a : List AV} {n : Nat} : ∀ {ps : List Nat} {b0 : Nat}, hgP d a n ps b0 = true → ∀ b, b0 ≤ b → b < n → fw b a ∨ ∃ p o, 4 ≤ p ∧ p < b ∧ (hP d).get p = some o ∧ vJ b o
 | [], b0, h, b, h1, h2 => by
  have := Nat.le_of_ble_eq_true (show Nat.ble n b0 = true from h)
  omega
 | p :: ps, b0, h, b, h1, h2 => by
  obtain ⟨g, h⟩ := ak (show aq (cond (Nat.beq p b0) (DM b0 a) (aq (Nat.ble 4 p) (aq (Nat.ble (Nat.succ p) b0) (Option.rec (motive := fun _ => Bool) false (xe b0) (gu d (Nat.sub p 4)))))) (hgP d a n ps (Nat.succ b0)) = true from h)
  by_cases c : b = b0
  · subst c
    cases e : Nat.beq p b with
    | true => rw [e] at g; exact .inl (nc g)
    | false =>
     rw [e] at g
     obtain ⟨g1, g⟩ := ak (show aq _ _ = true from g)
     obtain ⟨g2, g3⟩ := ak g
     have p4 := Nat.le_of_ble_eq_true g1
     have pb := Nat.le_of_ble_eq_true g2
     rw [gX] at g3
     cases hx : d[Nat.sub p 4]? with
     | none => rw [hx] at g3; cases g3
     | some x =>
      rw [hx] at g3
      have hx : d[p - 4]? = some x := hx
      refine .inr ⟨p, exO idN Y0 Z0 (p - 4) x, p4, by omega, ?_, hC g3⟩
      rw [xy, if_neg (by omega), hx]; rfl
  · exact vH h b (by omega) h2
theorem Hq {d : List TM} {a : List AV} {ps : List Nat} (h : hgP d a (Nat.add 4 (aC d)) ps 4 = true) : ue 4 (hP d) a := fun b h1 h2 => vH h b h1 h2
mutual
theorem nZ {ρ ρ' : Ren} (h : Sub ρ ρ') : ∀ {v : AV} {x y : Value}, VR ρ v x → VR ρ' v y → VR ρ v y
 | .ptr b o, x, y, ⟨L, hL, _⟩, ⟨L', hL', hy⟩ => by rw [h b L hL] at hL'; cases hL'; exact ⟨L, hL, hy⟩
 | .sl b o l q, x, y, ⟨L, c, o', hL, _⟩, ⟨L', c', o2, hL', hy⟩ => by rw [h b L hL] at hL'; cases hL'; exact ⟨L, c', o2, hL, hy⟩
 | .map b, x, y, ⟨L, hL, _⟩, ⟨L', hL', hy⟩ => by rw [h b L hL] at hL'; cases hL'; exact ⟨L, hL, hy⟩
 | .fn f a b, x, y, ⟨_, _, _, h1, h2⟩, ⟨a', b', hy, g1, g2⟩ => ⟨a', b', hy, i9 h h1 g1, i9 h h2 g2⟩
 | .iface t v, x, y, ⟨_, _, h1⟩, ⟨y', hy, g1⟩ => ⟨y', hy, nZ h h1 g1⟩
 | .agg l, x, y, ⟨_, _, h1⟩, ⟨l', hy, g1⟩ => ⟨l', hy, i9 h h1 g1⟩
 | .tup l, x, y, ⟨_, _, h1⟩, ⟨l', hy, g1⟩ => ⟨l', hy, i9 h h1 g1⟩
 | .bool _, _, _, _, hy => hy
 | .int _ _, _, _, _, hy => hy
 | .str _, _, _, _, hy => hy
 | .nilp, _, _, _, hy => hy
 | .nilsl, _, _, _, hy => hy
 | .nilmap, _, _, _, hy => hy
 | .nilfn, _, _, _, hy => hy
 | .nilif, _, _, _, hy => hy
theorem i9 {ρ ρ' : Ren} (h : Sub ρ ρ') : ∀ {v : List AV} {x y : List Value}, VRs ρ v x → VRs ρ' v y → VRs ρ v y
 | [], _, _, _, hy => hy
 | _ :: _, _, _, ⟨_, _, _, h1, h2⟩, ⟨y, s, e, g1, g2⟩ => ⟨y, s, e, nZ h h1 g1, i9 h h2 g2⟩
end
theorem Ka {ρ ρ' : Ren} (h : Sub ρ ρ') : ∀ {es : List (AV × AV × Nat)} {l l' : List MapEntry}, ER ρ es l → ER ρ' es l' → ER ρ es l'
 | [], _, _, _, hl => hl
 | (_, _, _) :: _, _, _, ⟨_, _, _, h1, h2, _, h3⟩, ⟨e, m, e1, g1, g2, g3, g4⟩ => ⟨e, m, e1, nZ h h1 g1, nZ h h2 g2, g3, Ka h h3 g4⟩
theorem YH {base : Nat} {ρ ρ' : Ren} (h : Sub ρ ρ') {L : Loc} {o : AObj} {w w' : World} (h1 : OR base ρ L o w) (h2 : OR base ρ' L o w') : OR base ρ L o w' := by
 cases o with
 | cells ro e n t =>
  obtain ⟨_, _, _, _, c0, el0, fr0, _, _, _, a8⟩ := h1
  obtain ⟨b1, b2, b3, b4, c, el, fr, b5, b6, b7, b8⟩ := h2
  refine ⟨b1, b2, b3, b4, c, el, fr, b5, b6, b7, fun i v hv => ?_⟩
  obtain ⟨v', q1, q2⟩ := b8 i v hv
  obtain ⟨v0, _, q3⟩ := a8 i v hv
  exact ⟨v', q1, nZ h q3 q2⟩
 | map es clock =>
  obtain ⟨_, _, es0, _, a4⟩ := h1
  obtain ⟨b1, b2, es', b3, b4⟩ := h2
  exact ⟨b1, b2, es', b3, Ka h a4 b4⟩
 | dead => exact trivial
 | bld ty u buf =>
  obtain ⟨_, _, v0, _, a4⟩ := h1
  obtain ⟨b1, b2, v', b3, b4⟩ := h2
  refine ⟨b1, b2, v', b3, ?_⟩
  cases buf with
  | none => exact b4
  | some p =>
   obtain ⟨K0, k0, _⟩ := a4
   obtain ⟨K, k1, k2⟩ := b4
   rw [h _ _ k0] at k1; cases k1
   exact ⟨_, k0, k2⟩
 | brow ty bs => exact h2
 | tab l =>
  obtain ⟨_, c0, el0, fr0, _, a4⟩ := h1
  obtain ⟨b1, c, el, fr, b3, b4⟩ := h2
  exact ⟨b1, c, el, fr, b3, i9 h a4 b4⟩
theorem HR.cut {base : Nat} {ρ ρ' : Ren} {H H' : AHeap} {w w' : World} (hR : HR base ρ H w) (hR' : HR base ρ' H' w') (hE : Ext ρ H w ρ' H' w') (hg : ∀ b, b < H.n → H'.get b = H.get b) : HR base ρ H w' ∧ Ext ρ H w ρ H w' := by
 have hs : Sub ρ ρ' := fun b L e => by rw [hE.old b (hR.dom b L e).1]; exact e
 refine ⟨⟨hR.full, hR'.low, fun b L e => ⟨(hR.dom b L e).1, Nat.lt_of_lt_of_le (hR.dom b L e).2 hE.size⟩, fun b L o e ho => ?_, hR.apart⟩, ⟨Nat.le_refl _, fun _ _ => rfl, fun _ _ _ => rfl, hE.size, hE.frame, fun k hk => .inr hk, hE.os, hE.tape, hE.output⟩⟩
 exact YH hs (hR.obj b L o e ho) (hR'.obj b L o (hs b L e) (by rw [hg b (hR.dom b L e).1]; exact ho))
def Rs (l : List AV) (t : Tr AV) : Nat → Bool := List.rec (motive := fun _ => Nat → Bool) (fun _ => true) (fun a _ ih i => aq (Option.rec (motive := fun _ => Bool) false (AV.beq a) (t.get? i)) (ih (Nat.succ i))) l
theorem pM {t : Tr AV} : ∀ {l : List AV} {i : Nat}, Rs l t i = true → ∀ j a, l[j]? = some a → t.get? (i + j) = some a
 | [], _, _, j, a, e => by simp at e
 | x :: l, i, h, j, a, e => by
  obtain ⟨h1, h2⟩ := ak (show aq (Option.rec (motive := fun _ => Bool) false (AV.beq x) (t.get? i)) (Rs l t (Nat.succ i)) = true from h)
  cases j with
  | zero =>
   simp at e; subst e
   cases hv : t.get? i with
   | none => rw [hv] at h1; cases h1
   | some v => rw [hv] at h1; rw [AV.beq_eq (show AV.beq x v = true from h1)]
  | succ j =>
   have := pM h2 j a (by simpa using e)
   rwa [show Nat.succ i + j = i + (j + 1) by omega] at this
def nq (o : Option AObj) : Bool := match o with
 | some .dead => true
 | _ => false
def QM (o : Option AObj) : Bool := match o with
 | some (.cells true 1 64 t) => Rs deB t 0
 | _ => false
def RE (H : AHeap) : Bool := aq (nq (H.get 0)) (aq (nq (H.get 1)) (aq (nq (H.get 2)) (QM (H.get 3))))
theorem kM {o : Option AObj} (h : nq o = true) : o = some .dead := by
 unfold nq at h
 split at h
 · rfl
 · cases h
theorem pR {H : AHeap} (h : RE H = true) (hF : H.t.Full H.n) (hp : ∀ b, b < 4 → (hP []).get b = gq[b]?) : Part idN (hP []) H := by
 obtain ⟨h0, h⟩ := ak h
 obtain ⟨h1, h⟩ := ak h
 obtain ⟨h2, h3⟩ := ak h
 have h0 := kM h0
 have h1 := kM h1
 have h2 := kM h2
 have key : ∀ b, b < 4 → ∃ o o', gq[b]? = some o ∧ H.get b = some o' ∧ RnO idN o o' := fun b hb => by
  match b, hb with
  | 0, _ => exact ⟨_, _, rfl, h0, trivial⟩
  | 1, _ => exact ⟨_, _, rfl, h1, trivial⟩
  | 2, _ => exact ⟨_, _, rfl, h2, trivial⟩
  | 3, _ =>
   unfold QM at h3
   split at h3
   · rename_i t e
     refine ⟨_, _, rfl, e, rfl, rfl, rfl, fun i v hv => ?_⟩
     rw [Tr.get?_ofList] at hv
     have := pM h3 i v hv
     rw [Nat.zero_add] at this
     rw [this, fi (n := 0) (fun b hb => by omega)]
     unfold deB at hv
     rw [List.getElem?_map] at hv
     obtain ⟨x, _, rfl⟩ := Option.map_eq_some_iff.1 hv
     exact trivial
   · cases h3
 have hn : (hP []).n = 4 := rfl
 refine ⟨fM [], fun b hb => ?_, fun b b' _ _ e => e, fun b o e => ?_, fun b o e => ?_, fun b o e => ?_⟩
 · obtain ⟨o, o', _, e, _⟩ := key b hb
   exact dM hF e
 · have hb := dM (fM []) e
   rw [hp b hb] at e
   obtain ⟨o1, o', e1, e2, r⟩ := key b hb
   rw [e] at e1; cases e1
   exact ⟨o', e2, r⟩
 · rw [hp b (dM (fM []) e)] at e
   exact jw (Nat.zero_le _) (lW e).1
 · rw [hp b (dM (fM []) e)] at e
   exact (lW e).2.1
theorem iM (d : List TM) : ∀ b, b < 4 → (hP d).get b = gq[b]? := fun b hb => by rw [xy, if_pos hb]
def ru (a0 : List AV) (v0 : AV) (args : List AV) (H : AHeap) : Option (AV × AHeap) := cond (aq (AV.beqs args a0) (RE H)) (some (v0, H)) none
theorem xE {P : Program} {base f : Nat} {G : List Nat} {call : aa} (hG : ∀ g, G.contains g = true → g < 4) (hc : ct P base G call) {a0 : List AV} {v0 : AV} (hfl : QR v0 = true) (hin : dz 4 a0) (hself : br idN a0 = a0) (g : b9 (cg (call f a0 (hP [])) (hP []) v0 [] []))
 {args : List AV} {H H' : AHeap} {v : AV} (h : ru a0 v0 args H = some (v, H')) :
 bC P f ∧ ∀ ρ w args', HR base ρ H w → Gl G ρ → VRs ρ args args' → Calls P f (List.toArray args') w fun e w' => ∃ ρ' v', e = .returned v' ∧ VR ρ' v v' ∧ HR base ρ' H' w' ∧ Ext ρ H w ρ' H' w' := by
 unfold ru at h
 cases c : aq (AV.beqs args a0) (RE H) with
 | false => rw [c] at h; cases h
 | true =>
  rw [c] at h
  cases h
  obtain ⟨c1, c2⟩ := ak c
  obtain rfl := AV.beqs_eq c1
  obtain ⟨h', hcall, hl, hpre, _, _, _⟩ := DG (Nat.le_refl 4) (iM []) g
  have hv0 : rnV (sO 4 []) v0 = v0 := by cases v0 <;> first | rfl | cases hfl
  rw [hv0] at hcall
  obtain ⟨k1, k2⟩ := hc f _ _ _ _ hcall
  refine ⟨k1, fun ρ w args' hR hGl hA => ?_⟩
  have p := pR c2 hR.full (iM [])
  have W := v8 p hR.full hl.1 hl.2.1 hl.2.2
  have hGp : Gl G (ρp ρ idN (hP []).n) := fun g hg' => by
   obtain ⟨L, e1, e2⟩ := hGl g hg'
   refine ⟨L, ?_, e2⟩
   show (if g < (hP []).n then ρ g else none) = _
   rw [if_pos (show g < (hP []).n from hG g hg')]; exact e1
  have hAp : VRs (ρp ρ idN (hP []).n) args args' := j1 (ρ' := ρ) (ι := idN) (n := (hP []).n) (fun b L hb e1 => by show (if b < (hP []).n then ρ b else none) = _; rw [if_pos hb]; exact e1) hin (by rw [hself]; exact hA)
  refine (k2 _ w args' (p.toHR hR) hGp hAp).mono ?_
  rintro e1 w' ⟨ρs, v1, rfl, hv1, hR1, hE⟩
  obtain ⟨q1, q2, _⟩ := W.ok p hR hE.n hR1 hE
  obtain ⟨r1, r2⟩ := hR.cut q1 q2 fun b hb => by
   by_cases c4 : b < 4
   · exact W.same b c4 ((hpre b c4).trans (iM [] b c4).symm)
   · exact W.old b hb fun s hs e => by
      have hs : s < 4 := hs
      have e : s = b := e
      omega
  refine ⟨ρ, v1, rfl, ?_, r1, r2⟩
  cases v0 <;> (try cases hfl; done) <;> exact hv1
end
noncomputable section
def Rp (ok : List Int → Int → Int → Bool) (call : aa) (f : Nat) (B : Tr AObj) (m : Nat) (Y : Ys) (Z : Zs) (s : Int) (d : Tp) (l : Prs) (k : Prs → LkR) : LkR :=
 (fun h => (fun r => cond (ve ok h.n r) (Option.rec (motive := fun _ => LkR) noR (fun p => l8 qj h p.2 l k) r) noR) (call f [.ptr 4 0, .int .i64 s] h)) (hT B m Y Z d)
def EP (ok : List Int → Int → Int → Bool) (call : aa) (f : Nat) (B : Tr AObj) (m : Nat) (Y : Ys) (Z : Zs) (s : Int) (ds : List Row) : Prs → (Prs → LkR) → LkR :=
 List.rec (motive := fun _ => Prs → (Prs → LkR) → LkR) (fun l k => k l) (fun r _ ih l k => Rp ok call f B m Y Z s r.d l fun l => ih l k) ds
def Kd (ok : List Int → Int → Int → Bool) (call : aa) (f : Nat) (B : Tr AObj) (m : Nat) (Y : Ys) (Z : Zs) (s : Int) (ls : List (List Row)) : Prs → (Prs → LkR) → LkR :=
 List.rec (motive := fun _ => Prs → (Prs → LkR) → LkR) (fun l k => k l) (fun rs _ ih l k => EP ok call f B m Y Z s rs l fun l => ih l k) ls
section
variable {ok : List Int → Int → Int → Bool} {call : aa} {f : Nat} {B : Tr AObj} {m : Nat} {Y : Ys} {Z : Zs} {s : Int} {k : Prs → LkR}
def wD (ok : List Int → Int → Int → Bool) (call : aa) (f : Nat) (B : Tr AObj) (m : Nat) (Y : Ys) (Z : Zs) (s : Int) (d : Tp) : Prop :=
 ∃ a h', call f [.ptr 4 0, .int .i64 s] (hT B m Y Z d) = some (a, h') ∧ ir (hT B m Y Z d) h' ∧ Told1 ok (hT B m Y Z d).n a h'
theorem Kc (hB : StatB B m) (K : KP k) {d : Tp} {l : Prs} (g : b9 (Rp ok call f B m Y Z s d l k)) : AllEq l ∧ wD ok call f B m Y Z s d ∧ ∃ l', b9 (k l') := by
 have g : b9 (cond (ve ok (hT B m Y Z d).n (call f [.ptr 4 0, .int .i64 s] (hT B m Y Z d))) (Option.rec (motive := fun _ => LkR) noR (fun p => l8 qj (hT B m Y Z d) p.2 l k) (call f [.ptr 4 0, .int .i64 s] (hT B m Y Z d))) noR) := g
 cases c : ve ok (hT B m Y Z d).n (call f [.ptr 4 0, .int .i64 s] (hT B m Y Z d)) with
 | false => rw [c] at g; cases g.1
 | true =>
  obtain ⟨a, H, e, t, lf⟩ := wR c
  rw [c, e] at g
  have g : b9 (l8 qj (hT B m Y Z d) H l k) := g
  obtain ⟨g1, g2, g3⟩ := jf K g
  have h4 := hB.four
  exact ⟨g1, ⟨a, H, e, iJ lf (by rw [lL]; omega) fun b hb => g2 b (hJ hb), t⟩, g3⟩
theorem jc (hB : StatB B m) (K : KP k) : ∀ {ds : List Row} {l : Prs}, b9 (EP ok call f B m Y Z s ds l k) → AllEq l ∧ (∀ r ∈ ds, wD ok call f B m Y Z s r.d) ∧ ∃ l', b9 (k l')
 | [], l, g => ⟨K l g, fun r h => (by cases h), l, g⟩
 | r :: ds, l, g => by
  have g : b9 (Rp ok call f B m Y Z s r.d l fun l => EP ok call f B m Y Z s ds l k) := g
  obtain ⟨g1, g2, l2, g3⟩ := Kc hB (fun l g => (jc hB K g).1) g
  obtain ⟨_, g5, g6⟩ := jc hB K g3
  refine ⟨g1, fun x hx => ?_, g6⟩
  rcases List.mem_cons.1 hx with rfl | hx
  · exact g2
  · exact g5 x hx
theorem lQ (hB : StatB B m) (K : KP k) : ∀ {ls : List (List Row)} {l : Prs}, b9 (Kd ok call f B m Y Z s ls l k) → AllEq l ∧ (∀ rs ∈ ls, ∀ r ∈ rs, wD ok call f B m Y Z s r.d) ∧ ∃ l', b9 (k l')
 | [], l, g => ⟨K l g, fun r h => (by cases h), l, g⟩
 | rs :: ls, l, g => by
  have g : b9 (EP ok call f B m Y Z s rs l fun l => Kd ok call f B m Y Z s ls l k) := g
  obtain ⟨g1, g2, l2, g3⟩ := jc hB (fun l g => (lQ hB K g).1) g
  obtain ⟨_, g5, g6⟩ := lQ hB K g3
  refine ⟨g1, fun x hx => ?_, g6⟩
  rcases List.mem_cons.1 hx with rfl | hx
  · exact g2
  · exact g5 x hx
end
def stB (mv : Mv) (ok : List Int → Int → Int → Bool) (call : aa) (f : Nat) (B : Tr AObj) (m : Nat) (keep : List Nat) (st : List TM) (F : List Tp) (ls : List (List Row)) (Y : Ys) (Z : Zs) (s : Int) : LkR :=
 cond (aq (kF m F) (GM m ls)) (He mv B m keep st Y Z F ls [] fun l => Kd ok call f B m Y Z s ls l fin) noR
def hdD (ls : List (List Row)) : List Tp := List.rec (motive := fun _ => List Tp) [] (fun rs _ _ => dsL rs) ls
def aJ {α : Type} (n : Nat) : List α → List α := Nat.rec (motive := fun _ => List α → List α) (fun _ => []) (fun _ ih l => List.rec (motive := fun _ => List α) [] (fun a r _ => a :: ih r) l) n
theorem dr {α : Type} {x : α} : ∀ {n : Nat} {l : List α}, x ∈ aJ n l → x ∈ l
 | 0, l, h => by cases h
 | n + 1, [], h => by cases h
 | n + 1, a :: l, h => by
  rcases List.mem_cons.1 (show x ∈ a :: aJ n l from h) with rfl | h
  · exact List.mem_cons_self
  · exact List.mem_cons_of_mem _ (dr h)
theorem nH {d : Tp} : ∀ {l : List Row}, d ∈ dsL l → ∃ r ∈ l, r.d = d
 | [], h => by cases h
 | a :: l, h => by
  rcases List.mem_cons.1 (show d ∈ a.d :: dsL l from h) with e | h
  · exact ⟨a, List.mem_cons_self, e.symm⟩
  · obtain ⟨r, q1, q2⟩ := nH h
    exact ⟨r, List.mem_cons_of_mem _ q1, q2⟩
theorem T3 {d : Tp} {ls : List (List Row)} (h : d ∈ hdD ls) : InL ls d := by
 cases ls with
 | nil => cases h
 | cons rs ls =>
  obtain ⟨r, h1, h2⟩ := nH (show d ∈ dsL rs from h)
  exact ⟨rs, List.mem_cons_self, r, h1, h2⟩
structure Str (mv : Mv) (ok : List Int → Int → Int → Bool) (call : aa) (f : Nat) (B : Tr AObj) (m : Nat) (st : List TM) (S F : List Tp) (ls : List (List Row)) : Prop where
 first : ∀ d ∈ S, InL ls d
 okT : ∀ d, InL ls d → eW m d = true
 row : ∀ d, InL ls d → ∀ Y Z, ∃ ps, hgB m st d (Nat.add m (aC d.r)) ps 5 = true ∧ mv (hT B m Y Z d) ≠ [] ∧ ∀ x ∈ mv (hT B m Y Z d), (∃ b, x.1 = .bool b) ∧ ir (hT B m Y Z d) x.2 ∧ ∃ d2, (InL ls d2 ∨ d2 ∈ F) ∧ ∃ Y2 Z2 s, Part s (hT B m Y2 Z2 d2) x.2 ∧ ∀ b, b < m → s b = b
 told : ∀ d, InL ls d → ∀ Y Z s, wD ok call f B m Y Z s d
theorem U9 {mv : Mv} {ok : List Int → Int → Int → Bool} {call : aa} {f : Nat} {B : Tr AObj} {m : Nat} {st : List TM} {S F : List Tp} {ls : List (List Row)} (hB : StatB B m)
 (g : ∀ Y Z s, (stB mv ok call f B m (aL m) st F ls Y Z s, aJ (aC S) (hdD ls)) = ((true, (stB mv ok call f B m (aL m) st F ls Y Z s).2.1, (stB mv ok call f B m (aL m) st F ls Y Z s).2.1), S)) :
 Str mv ok call f B m st S F ls := by
 have g1 : ∀ Y Z s, b9 (stB mv ok call f B m (aL m) st F ls Y Z s) := fun Y Z s => fE (congrArg Prod.fst (g Y Z s))
 have g2 : aJ (aC S) (hdD ls) = S := congrArg Prod.snd (g Y0 Z0 0)
 have hok : aq (kF m F) (GM m ls) = true := by
  have := g1 Y0 Z0 0
  unfold stB at this
  cases c : aq (kF m F) (GM m ls) with
  | true => rfl
  | false => rw [c] at this; cases this.1
 obtain ⟨h1, h2⟩ := ak hok
 have h1 := fp h1
 have h2 := pZ h2
 have key : ∀ Y Z s, (∀ rs ∈ ls, ∀ r ∈ rs, tJ mv B m st Y Z (fun d => (∃ rs ∈ ls, d ∈ dsL rs) ∨ d ∈ F) r) ∧ ∀ rs ∈ ls, ∀ r ∈ rs, wD ok call f B m Y Z s r.d := fun Y Z s => by
  have := g1 Y Z s
  unfold stB at this
  rw [hok] at this
  obtain ⟨_, q1, l2, q2⟩ := nj (k := fun l => Kd ok call f B m Y Z s ls l fin) hB qi h1 (fun l g => (lQ hB kO g).1) h2 this
  exact ⟨q1, (lQ hB kO q2).2.1⟩
 refine ⟨fun d hd => ?_, fun d ⟨rs, a1, r, a2, e⟩ => ?_, fun d ⟨rs, a1, r, a2, e⟩ Y Z => ?_, fun d ⟨rs, a1, r, a2, e⟩ Y Z s => ?_⟩
 · rw [← g2] at hd
   exact T3 (dr hd)
 · rw [← e]; exact h2 rs a1 _ (rn a2)
 · obtain ⟨q2, q3, q4⟩ := (key Y Z 0).1 rs a1 r a2
   rw [← e]
   refine ⟨_, q2, q3, fun x hx => ?_⟩
   obtain ⟨b1, b2, d2, b3, b4⟩ := q4 x hx
   refine ⟨b1, b2, d2, ?_, b4⟩
   rcases b3 with ⟨rs2, u1, u2⟩ | h
   · obtain ⟨r2, u3, u4⟩ := nH u2
     exact .inl ⟨rs2, u1, r2, u3, u4⟩
   · exact .inr h
 · rw [← e]; exact (key Y Z s).2 rs a1 r a2
theorem aH {mv : Mv} {ok : List Int → Int → Int → Bool} {call : aa} {f : Nat} {B : Tr AObj} {m : Nat} {st : List TM} {S F : List Tp} {ls : List (List Row)} {R : Ys → Zs → Int → LkR} (hB : StatB B m)
 (hR : ∀ Y Z s, R Y Z s = stB mv ok call f B m (aL m) st F ls Y Z s) (g : ∀ Y Z s, (R Y Z s, aJ (aC S) (hdD ls)) = ((true, (R Y Z s).2.1, (R Y Z s).2.1), S)) : Str mv ok call f B m st S F ls :=
 U9 hB fun Y Z s => by have := g Y Z s; rw [hR] at this; exact this
inductive Chain (mv : Mv) (ok : List Int → Int → Int → Bool) (call : aa) (f : Nat) (B : Tr AObj) (m : Nat) (st : List TM) : List Tp → (Tp → Prop) → Prop
 | nil : Chain mv ok call f B m st [] (fun _ => False)
 | cons {S F : List Tp} {ls : List (List Row)} {A : Tp → Prop} (h : Str mv ok call f B m st S F ls) (t : Chain mv ok call f B m st F A) : Chain mv ok call f B m st S (fun d => InL ls d ∨ A d)
theorem Chain.ok {mv : Mv} {ok : List Int → Int → Int → Bool} {call : aa} {f : Nat} {B : Tr AObj} {m : Nat} {st : List TM} {S : List Tp} {A : Tp → Prop} (h : Chain mv ok call f B m st S A) :
 (∀ d ∈ S, A d) ∧ (∀ d, A d → eW m d = true) ∧
 (∀ d, A d → ∀ Y Z, ∃ ps, hgB m st d (Nat.add m (aC d.r)) ps 5 = true ∧ mv (hT B m Y Z d) ≠ [] ∧ ∀ x ∈ mv (hT B m Y Z d), (∃ b, x.1 = .bool b) ∧ ir (hT B m Y Z d) x.2 ∧ ∃ d2, A d2 ∧ ∃ Y2 Z2 s, Part s (hT B m Y2 Z2 d2) x.2 ∧ ∀ b, b < m → s b = b) ∧
 ∀ d, A d → ∀ Y Z s, wD ok call f B m Y Z s d := by
 induction h with
 | nil => exact ⟨fun d h => (by cases h), fun d h => h.elim, fun d h => h.elim, fun d h => h.elim⟩
 | cons h t ih =>
  obtain ⟨i1, i2, i3, i4⟩ := ih
  refine ⟨fun d hd => .inl (h.first d hd), fun d hd => hd.elim (h.okT d) (i2 d), fun d hd Y Z => ?_, fun d hd => hd.elim (h.told d) (i4 d)⟩
  rcases hd with hd | hd
  · obtain ⟨ps, q1, q2, q3⟩ := h.row d hd Y Z
    refine ⟨ps, q1, q2, fun x hx => ?_⟩
    obtain ⟨b1, b2, d2, b3, b4⟩ := q3 x hx
    exact ⟨b1, b2, d2, b3.elim .inl (fun hf => .inr (i1 d2 hf)), b4⟩
  · obtain ⟨ps, q1, q2, q3⟩ := i3 d hd Y Z
    refine ⟨ps, q1, q2, fun x hx => ?_⟩
    obtain ⟨b1, b2, d2, b3, b4⟩ := q3 x hx
    exact ⟨b1, b2, d2, .inr b3, b4⟩
theorem Chain.closed {mv : Mv} {ok : List Int → Int → Int → Bool} {call : aa} {f1 f2 : Nat} {st : List TM} {S : List Tp} {A : Tp → Prop} (hs : aq (okR (Nat.add 5 (aC st)) st) (c7 st) = true)
 (h : Chain mv ok call f2 (BT st) (Nat.add 5 (aC st)) st S A) (one : ∀ h, mv h ≠ [] → ∀ p : Nat, p ≤ 1000000000 → ∃ x ∈ mv h, call f1 [.ptr 4 0, .int .i64 (p : Int)] h = some x) :
 ClosedT call f1 f2 mv (BT st) (Nat.add 5 (aC st)) st A ok :=
 have q := h.ok
 ⟨uY hs, a6w (ak hs).2, q.2.1, q.2.2.1, one, q.2.2.2⟩
end
noncomputable section
def ovL (o : List (Nat × Nat)) : Nat → List Nat → List Nat := List.rec (motive := fun _ => Nat → List Nat → List Nat) (fun _ l => l)
 (fun p _ ih i l => (fun f => f (Nat.sub p.1 i) l (fun l => ih (Nat.succ p.1) l)) (fun (k : Nat) => Nat.rec (motive := fun _ => List Nat → (List Nat → List Nat) → List Nat) (fun l c => List.rec (motive := fun _ => List Nat) [] (fun _ r _ => p.2 :: c r) l)
  (fun _ ihk l c => List.rec (motive := fun _ => List Nat) [] (fun a r _ => a :: ihk r c) l) k)) o
def tpL (D : List TM) (l : List Nat) : Tp := (fun f => List.rec (motive := fun _ => Tp) ⟨.c 0 [], []⟩ (fun v r _ => ⟨f v, List.rec (motive := fun _ => List TM) [] (fun i _ ih => f i :: ih) r⟩) l) (fun i => Option.rec (motive := fun _ => TM) (.c 0 []) (fun x => x) (gu D i))
structure Rw where
 (v o tc : Nat) (td : List Nat)
def aK (D : List TM) (P : List (List Nat)) (O : List (List (Nat × Nat))) (bs : List (List Nat)) (ps : List Nat) (l : List Rw) : List Row := List.rec (motive := fun _ => List Row) []
 (fun r _ ih => (fun b p => fTp (tpL D (ovL (Option.rec (motive := fun _ => List (Nat × Nat)) [] (fun x => x) (gu O r.o)) 0 b)) fun d => ⟨d, Option.rec (motive := fun _ => List Nat) [] (fun x => x) (gu P p), r.tc, r.td⟩ :: ih)
  (Option.rec (motive := fun _ => List Nat) [] (fun x => x) (gu bs r.v)) (Option.rec (motive := fun _ => Nat) 0 (fun x => x) (gu ps r.v))) l
end
noncomputable section
abbrev rr (v o tc : Nat) (td : List Nat) : Rw := ⟨v, o, tc, td⟩
def DY {α : Type} (n : Nat) : List α → List α := Nat.rec (motive := fun _ => List α → List α) (fun l => l) (fun _ ih l => List.rec (motive := fun _ => List α) [] (fun _ r _ => ih r) l) n
theorem eR {α : Type} {x : α} : ∀ {n : Nat} {l : List α}, x ∈ l → x ∈ aJ n l ∨ x ∈ DY n l
 | 0, l, h => .inr h
 | n + 1, [], h => by cases h
 | n + 1, a :: l, h => by
  rcases List.mem_cons.1 h with rfl | h
  · exact .inl List.mem_cons_self
  · rcases eR (n := n) h with h | h
    · exact .inl (List.mem_cons_of_mem _ h)
    · exact .inr h
def hfB (mv : Mv) (ok : List Int → Int → Int → Bool) (call : aa) (f : Nat) (B : Tr AObj) (m : Nat) (keep : List Nat) (st : List TM) (F : List Tp) (rs part : List Row) (Y : Ys) (Z : Zs) (s : Int) : LkR :=
 cond (aq (kF m F) (kF m (dsL rs))) (vh mv B m keep st Y Z (dsL rs) F part [] fun l => EP ok call f B m Y Z s part l fin) noR
theorem QQ {mv : Mv} {ok : List Int → Int → Int → Bool} {call : aa} {f : Nat} {B : Tr AObj} {m : Nat} {st : List TM} {F : List Tp} {rs part : List Row} (hB : StatB B m)
 (g : ∀ Y Z s, b9 (hfB mv ok call f B m (aL m) st F rs part Y Z s)) :
 (∀ x ∈ F, eW m x = true) ∧ (∀ x ∈ dsL rs, eW m x = true) ∧ (∀ r ∈ part, ∀ Y Z, tJ mv B m st Y Z (fun d => d ∈ dsL rs ∨ d ∈ F) r) ∧ ∀ r ∈ part, ∀ Y Z s, wD ok call f B m Y Z s r.d := by
 have hok : aq (kF m F) (kF m (dsL rs)) = true := by
  have := g Y0 Z0 0
  unfold hfB at this
  cases c : aq (kF m F) (kF m (dsL rs)) with
  | true => rfl
  | false => rw [c] at this; cases this.1
 obtain ⟨h1, h2⟩ := ak hok
 have h1 := fp h1
 have h2 := fp h2
 have key : ∀ Y Z s, (∀ r ∈ part, tJ mv B m st Y Z (fun d => d ∈ dsL rs ∨ d ∈ F) r) ∧ ∀ r ∈ part, wD ok call f B m Y Z s r.d := fun Y Z s => by
  have := g Y Z s
  unfold hfB at this
  rw [hok] at this
  obtain ⟨_, q1, l2, q2⟩ := ji (k := fun l => EP ok call f B m Y Z s part l fin) hB qi h2 h1 (fun l g => (jc hB kO g).1) this
  exact ⟨q1, (jc hB kO q2).2.1⟩
 exact ⟨h1, h2, fun r hr Y Z => (key Y Z 0).1 r hr, fun r hr Y Z s => (key Y Z s).2 r hr⟩
theorem MJ {mv : Mv} {ok : List Int → Int → Int → Bool} {call : aa} {f : Nat} {B : Tr AObj} {m : Nat} {st : List TM} {S F : List Tp} {rs : List Row} {n : Nat} {R1 R2 : Ys → Zs → Int → LkR} (hB : StatB B m)
 (e1 : ∀ Y Z s, R1 Y Z s = hfB mv ok call f B m (aL m) st F rs (aJ n rs) Y Z s) (e2 : ∀ Y Z s, R2 Y Z s = hfB mv ok call f B m (aL m) st F rs (DY n rs) Y Z s)
 (g1 : ∀ Y Z s, R1 Y Z s = (true, (R1 Y Z s).2.1, (R1 Y Z s).2.1)) (g2 : ∀ Y Z s, R2 Y Z s = (true, (R2 Y Z s).2.1, (R2 Y Z s).2.1)) (hS : aJ (aC S) (dsL rs) = S) : Str mv ok call f B m st S F [rs] := by
 obtain ⟨a1, a2, a3, a4⟩ := QQ (rs := rs) (part := aJ n rs) hB fun Y Z s => by rw [← e1]; exact fE (g1 Y Z s)
 obtain ⟨_, _, b3, b4⟩ := QQ (rs := rs) (part := DY n rs) hB fun Y Z s => by rw [← e2]; exact fE (g2 Y Z s)
 have hd : ∀ {d}, InL [rs] d → ∃ r ∈ rs, r.d = d := fun ⟨x, hx, r, hr, e⟩ => by
  simp at hx; subst hx; exact ⟨r, hr, e⟩
 refine ⟨fun d h => ?_, fun d h => ?_, fun d h Y Z => ?_, fun d h Y Z s => ?_⟩
 · rw [← hS] at h
   obtain ⟨r, h1, h2⟩ := nH (dr h)
   exact ⟨rs, by simp, r, h1, h2⟩
 · obtain ⟨r, hr, rfl⟩ := hd h
   exact a2 _ (rn hr)
 · obtain ⟨r, hr, rfl⟩ := hd h
   have : tJ mv B m st Y Z (fun d => d ∈ dsL rs ∨ d ∈ F) r := (eR (n := n) hr).elim (fun h => a3 r h Y Z) (fun h => b3 r h Y Z)
   obtain ⟨q2, q3, q4⟩ := this
   refine ⟨_, q2, q3, fun x hx => ?_⟩
   obtain ⟨c1, c2, d2, c3, c4⟩ := q4 x hx
   refine ⟨c1, c2, d2, ?_, c4⟩
   rcases c3 with h | h
   · obtain ⟨r2, u1, u2⟩ := nH h
     exact .inl ⟨rs, by simp, r2, u1, u2⟩
   · exact .inr h
 · obtain ⟨r, hr, rfl⟩ := hd h
   exact (eR (n := n) hr).elim (fun h => a4 r h Y Z s) (fun h => b4 r h Y Z s)
end
end Go.Ab
