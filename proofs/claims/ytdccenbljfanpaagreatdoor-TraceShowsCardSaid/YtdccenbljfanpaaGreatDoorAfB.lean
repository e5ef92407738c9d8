/- Memory, looked at by lists: blocks of cells, slices, what an append comes to. -/
import Derived.Test.YtdccenbljfanpaaGreatDoorAfA
namespace Go.Ab
noncomputable section

theorem W_of {r r' : R} {Q : AV → AHeap → Prop} (h : r = r') (hw : W r' Q) : W r Q := by rw [h]; exact hw
theorem W_eq {r : R} {v : AV} {H : AHeap} {Q : AV → AHeap → Prop} (h : r = some (v, H)) (hq : Q v H) : W r Q := ⟨v, H, h, hq⟩
theorem flat2_get {α : Type} (a b : α → AV) : ∀ (l : List α) (i : Nat), (l.flatMap fun p => [a p, b p])[i * 2]? = l[i]?.map a ∧ (l.flatMap fun p => [a p, b p])[i * 2 + 1]? = l[i]?.map b
  | [], i => by simp
  | x :: l, 0 => by simp
  | x :: l, i + 1 => by
    have := flat2_get a b l i
    rw [show (i + 1) * 2 = i * 2 + 1 + 1 by omega]
    simpa using this

def WF (H : AHeap) : Prop := H.t.Full H.n
theorem WF.add {H : AHeap} (h : WF H) (o : AObj) : WF (H.add o) := Tr.Full.push h _
theorem WF.put {H : AHeap} (h : WF H) (b : Nat) (o : AObj) : WF (H.put b o) := Tr.Full.set h _ _
theorem WF.get {H : AHeap} (h : WF H) (o : AObj) (b : Nat) : (H.add o).get b = if b = H.n then some o else H.get b := Tr.get?_push _ h b
theorem WF.lt {H : AHeap} (h : WF H) {b : Nat} {o : AObj} (e : H.get b = some o) : b < H.n := (h b).1 (by show (H.get b).isSome = true; rw [e]; rfl)
theorem put_get {H : AHeap} {b : Nat} {x : AObj} (h : H.get b = some x) (o : AObj) (i : Nat) : (H.put b o).get i = if i = b then some o else H.get i := AHeap.get_put h i
@[simp] theorem put_n (H : AHeap) (b : Nat) (o : AObj) : (H.put b o).n = H.n := rfl
@[simp] theorem add_n (H : AHeap) (o : AObj) : (H.add o).n = H.n + 1 := rfl
theorem wf_get_n {H : AHeap} (h : WF H) : H.get H.n = none := by
  cases e : H.get H.n with
  | none => rfl
  | some o => have := h.lt e; omega

/-- What was there is there as it was. -/
structure Nu (H H' : AHeap) : Prop where
  n : H.n ≤ H'.n
  wf : WF H'
  old : ∀ b, b < H.n → H'.get b = H.get b
theorem Nu.refl {H : AHeap} (h : WF H) : Nu H H := ⟨Nat.le_refl _, h, fun _ _ => rfl⟩
theorem Nu.trans {H H1 H2 : AHeap} (h : Nu H H1) (k : Nu H1 H2) : Nu H H2 := ⟨Nat.le_trans h.n k.n, k.wf, fun b hb => (k.old b (Nat.lt_of_lt_of_le hb h.n)).trans (h.old b hb)⟩
theorem Nu.add {H : AHeap} (h : WF H) (o : AObj) : Nu H (H.add o) := ⟨Nat.le_succ _, h.add o, fun b hb => by rw [h.get]; exact if_neg (by omega)⟩

theorem rdN_of {t : Tr AV} {l : List AV} {o : Nat} (h : ∀ i, i < l.length → t.get? (o + i) = l[i]?) : t.rdN o l.length = some l := by
  induction l generalizing o with
  | nil => rfl
  | cons a l ih =>
    have h0 := h 0 (by simp)
    simp only [Nat.add_zero, List.getElem?_cons_zero] at h0
    simp only [List.length_cons, Tr.rdN, h0]
    rw [ih (o := o + 1) fun i hi => by rw [show o + 1 + i = o + (i + 1) by omega, h (i + 1) (by simpa using hi)]; simp]

theorem wrN_of {t : Tr AV} {n : Nat} (ht : t.Full n) {l : List AV} {o : Nat} (h : o + l.length ≤ n) : ∃ t', t.wrN o l = some t' ∧ t'.Full n ∧ ∀ i, t'.get? i = if o ≤ i ∧ i < o + l.length then l[i - o]? else t.get? i := by
  have key : ∀ {l : List AV} {o : Nat} {t : Tr AV}, t.Full n → o + l.length ≤ n → ∃ t', t.wrN o l = some t' ∧ t'.Full n := by
    intro l
    induction l with
    | nil => intro o t ht _; exact ⟨t, rfl, ht⟩
    | cons a l ih =>
      intro o t ht h
      simp only [List.length_cons] at h
      have hs : (t.get? o).isSome = true := (ht o).2 (by omega)
      obtain ⟨x, hx⟩ := Option.isSome_iff_exists.1 hs
      obtain ⟨t', e, f⟩ := ih (o := o + 1) (ht.set o a) (by omega)
      exact ⟨t', by simp only [Tr.wrN, hx, e], f⟩
  obtain ⟨t', e, f⟩ := key ht h
  exact ⟨t', e, f, (Tr.wrN_spec e).2⟩

/-- The block b holds the cells l. -/
def Cs (H : AHeap) (b : Nat) (ro : Bool) (e : Nat) (l : List AV) : Prop := ∃ t, H.get b = some (.cells ro e l.length t) ∧ t.Full l.length ∧ ∀ i, t.get? i = l[i]?

section
variable {H : AHeap} {b e : Nat} {ro : Bool} {l : List AV}
theorem Cs.same {H' : AHeap} (h : Cs H b ro e l) (k : H'.get b = H.get b) : Cs H' b ro e l := let ⟨t, h1, h2⟩ := h; ⟨t, k.trans h1, h2⟩
theorem Cs.lt (h : Cs H b ro e l) (w : WF H) : b < H.n := let ⟨_, h1, _⟩ := h; w.lt h1
theorem Cs.nu {H' : AHeap} (h : Cs H b ro e l) (w : WF H) (k : Nu H H') : Cs H' b ro e l := h.same (k.old b (h.lt w))
theorem Cs.rd (h : Cs H b ro e l) (i : Nat) : H.rd b i = l[i]? := let ⟨t, h1, _, h3⟩ := h; by unfold AHeap.rd; rw [h1]; exact h3 i
theorem Cs.rdl (h : Cs H b ro e l) {i : Nat} {v : AV} (k : l[i]? = some v) : H.rd b i = some v := (h.rd i).trans k
theorem Cs.rds (h : Cs H b ro e l) (i k : Nat) (hk : i + k ≤ l.length) : H.rds b i k = some ((l.drop i).take k) := by
  obtain ⟨t, h1, _, h3⟩ := h
  unfold AHeap.rds
  rw [h1]
  have hl : ((l.drop i).take k).length = k := by simp; omega
  show t.rdN i k = _
  have := rdN_of (t := t) (l := (l.drop i).take k) (o := i) fun j hj => by
    rw [h3, List.getElem?_take, if_pos (by omega), List.getElem?_drop]
  rwa [hl] at this
theorem Cs.wrs (h : Cs H b false e l) (i : Nat) (vs : List AV) (hk : i + vs.length ≤ l.length) :
    ∃ H', H.wrs b i vs = some H' ∧ Cs H' b false e (l.take i ++ (vs ++ l.drop (i + vs.length))) ∧ H'.n = H.n ∧ (WF H → WF H') ∧ ∀ b', b' ≠ b → H'.get b' = H.get b' := by
  obtain ⟨t, h1, h2, h3⟩ := h
  obtain ⟨t', e1, e2, e3⟩ := wrN_of h2 hk
  refine ⟨H.put b (.cells false e l.length t'), by unfold AHeap.wrs; simp only [h1, e1], ?_, rfl, fun w => w.put _ _, fun b' hb => by rw [put_get h1, if_neg hb]⟩
  have hl : (l.take i ++ (vs ++ l.drop (i + vs.length))).length = l.length := by simp; omega
  refine ⟨t', by rw [put_get h1, if_pos rfl, hl], by rw [hl]; exact e2, fun j => ?_⟩
  rw [e3]
  by_cases c : i ≤ j ∧ j < i + vs.length
  · rw [if_pos c, List.getElem?_append_right (by simp; omega), List.getElem?_append_left (by simp; omega)]
    congr 1; simp; omega
  · rw [if_neg c, h3]
    by_cases c2 : j < i
    · rw [List.getElem?_append_left (by simp; omega), List.getElem?_take, if_pos c2]
    · rw [List.getElem?_append_right (by simp; omega), List.getElem?_append_right (by simp; omega), List.getElem?_drop]
      congr 1; simp; omega
theorem Cs.new (w : WF H) (ro : Bool) (e : Nat) (l : List AV) : Cs (H.add (.cells ro e l.length (Tr.ofList l))) H.n ro e l :=
  ⟨Tr.ofList l, by rw [w.get, if_pos rfl], Tr.full_ofList l, Tr.get?_ofList l⟩
end

section
variable {H : AHeap} {c : Kv}
theorem pNew_eq (cs : List AV) : pNew cs H c = c (.ptr H.n 0) (H.add (.cells false 0 cs.length (Tr.ofList cs))) := rfl
theorem pBox_eq (x : AV) : pBox x H c = c (.ptr H.n 0) (H.add (.cells false 0 x.cells.length (Tr.ofList x.cells))) := rfl
theorem pNewB_eq (t : Nat) : pNewB t H c = c (.ptr H.n 0) (H.add (.bld t false none)) := rfl
theorem pN_some (o : AObj) (m : Mk) : pN (some (o, m)) H c = c (m.val H.n) (H.add o) := rfl
@[simp] theorem aLen_sl (b o n : Nat) (q : Option Nat) : aLen .sl H (.sl b o n q) = some (.int .i64 (n : Int)) := rfl
@[simp] theorem aLen_nil : aLen .sl H .nilsl = some (.int .i64 0) := rfl

theorem aBsl_of {esz len : Nat} {zs : List AV} {parts : List (Nat × Nat × AV)} {l : List AV} (h : aFill (List.replicate len zs).flatten parts = some l) (hs : len * esz ≤ 16777216) (hl : l.length = len * esz) : aBsl esz len zs parts = some (.cells false esz l.length (Tr.ofList l), .sl len len) := by
  unfold aBsl
  have : Nat.ble (Nat.mul len esz) 16777216 = true := by rw [ble_dec]; exact decide_eq_true hs
  rw [this, h]
  show some (AObj.cells false esz (len * esz) (Tr.ofList l), Mk.sl len len) = _
  rw [hl]
end

/-- The slice v holds l: esz cells each, appended to by whoever has it: its block is its own. -/
def Sl (H : AHeap) (v : AV) (esz n : Nat) (l : List AV) : Prop := l.length = n * esz ∧ ((v = .nilsl ∧ n = 0) ∨ ∃ b, v = .sl b 0 n none ∧ Cs H b false esz l)
def AV.blk : AV → Option Nat
  | .sl b _ _ _ => some b
  | _ => none
theorem Sl.nil (H : AHeap) (esz : Nat) : Sl H .nilsl esz 0 [] := ⟨by simp, .inl ⟨rfl, rfl⟩⟩
theorem Sl.same {H H' : AHeap} {v : AV} {esz n : Nat} {l : List AV} (h : Sl H v esz n l) (k : ∀ b, v.blk = some b → H'.get b = H.get b) : Sl H' v esz n l := by
  obtain ⟨h1, h2⟩ := h
  refine ⟨h1, ?_⟩
  rcases h2 with h2 | ⟨b, rfl, h3⟩
  · exact .inl h2
  · exact .inr ⟨b, rfl, h3.same (k b rfl)⟩
theorem Sl.lt {H : AHeap} {v : AV} {esz n : Nat} {l : List AV} (h : Sl H v esz n l) (w : WF H) {b : Nat} (hb : v.blk = some b) : b < H.n := by
  rcases h.2 with ⟨rfl, _⟩ | ⟨b', rfl, h3⟩
  · cases hb
  · cases hb; exact h3.lt w
theorem Sl.len {H : AHeap} {v : AV} {esz n : Nat} {l : List AV} (h : Sl H v esz n l) : aLen .sl H v = some (.int .i64 (n : Int)) := by
  rcases h.2 with ⟨rfl, rfl⟩ | ⟨b, rfl, _⟩ <;> rfl

/-- An append of k elements out of a literal. -/
theorem Sl.app {H : AHeap} (w : WF H) {v : AV} {esz bytes n : Nat} {l : List AV} (h : Sl H v esz n l) {bx k : Nat} {q : Option Nat} {ro : Bool} {ex : Nat} {news : List AV} (hx : Cs H bx ro ex news) (hk : news.length = k * esz) (hk0 : 0 < k) (he : 0 < esz)
    (hs : allScal news = true) (hb : (n + k) * bytes ≤ 140737488355328) (hb2 : n + k ≤ 1152921504606846976) :
    ∃ v' H', aApp esz bytes H v (.sl bx 0 k q) = some (v', H') ∧ Sl H' v' esz (n + k) (l ++ news) ∧ WF H' ∧ H'.n = H.n + 1 ∧ v' = .sl H.n 0 (n + k) none ∧ ∀ b, b < H.n → v.blk ≠ some b → H'.get b = H.get b := by
  obtain ⟨tx, x1, x2, x3⟩ := hx
  obtain ⟨k', rfl⟩ : ∃ k', k = k' + 1 := ⟨k - 1, by omega⟩
  have hsrc : tx.rdN 0 (Nat.mul (k' + 1) esz) = some news := by
    have := rdN_of (t := tx) (l := news) (o := 0) fun i _ => by rw [Nat.zero_add]; exact x3 i
    rwa [hk] at this
  have hneed : okNeed bytes (n + (k' + 1)) = true := by unfold okNeed; simp only [ble_dec, Bool.and_eq_true, decide_eq_true_eq]; exact ⟨hb2, hb⟩
  have hlen : (l ++ news).length = (n + (k' + 1)) * esz := by rw [List.length_append, h.1, hk, ← Nat.add_mul]
  unfold aApp
  simp only [aSrc, x1, hsrc, hs, cond_true]
  rcases h with ⟨h1, ⟨rfl, rfl⟩ | ⟨b, rfl, tb, h3, h4, h5⟩⟩
  · have hl0 : l = [] := List.eq_nil_of_length_eq_zero (by simpa using h1)
    subst hl0
    simp only [Nat.zero_add] at hneed
    simp only [hneed, cond_true]
    refine ⟨_, _, rfl, ⟨hlen, .inr ⟨H.n, by simp, ?_⟩⟩, w.add _, rfl, by simp, fun b hb _ => by rw [w.get, if_neg (by omega)]⟩
    have := Cs.new w false esz news
    rw [hk] at this
    simpa using this
  · have hnd : okNeed bytes (Nat.add n (k' + 1)) = true := hneed
    simp only [hnd, cond_true]
    unfold aAppSl
    have c1 : (Nat.beq esz esz && (Nat.ble 1 esz && !false)) = true := by simp [ble_dec]; omega
    have c2 : (Nat.beq 0 0 && Nat.beq l.length (Nat.mul n esz)) = true := by rw [h1]; simp
    simp only [h3, c1, cond_true, c2]
    refine ⟨_, _, rfl, ⟨hlen, .inr ⟨H.n, rfl, ?_⟩⟩, (w.put _ _).add _, rfl, rfl, fun b' hb' hne => ?_⟩
    · obtain ⟨p1, p2⟩ := Tr.pushAll_spec news (t := tb) (n := l.length) h4
      refine ⟨tb.pushAll l.length news, ?_, ?_, fun i => ?_⟩
      · rw [(w.put b .dead).get, if_pos (show H.n = (H.put b .dead).n from rfl), hlen]; rfl
      · rw [List.length_append]; exact p1
      · rw [p2]
        by_cases c : i < l.length
        · rw [List.getElem?_append_left c]
          first | rw [if_neg (by omega), h5] | simp [c, h5]
        · rw [List.getElem?_append_right (by omega)]
          first | rw [if_pos (by omega)] | simp [c]
    · rw [(w.put b .dead).get, if_neg (show ¬ b' = (H.put b .dead).n by show ¬ b' = H.n; omega), put_get h3, if_neg (fun e => hne (by rw [e]; rfl))]
end
end Go.Ab
namespace Go.Ab
noncomputable section
section
variable {H : AHeap} {c : Kv}
@[simp] theorem aFill_nil (cells : List AV) : aFill cells [] = some cells := rfl
@[simp] theorem aFill_cons (cells : List AV) (off sz : Nat) (v : AV) (r : List (Nat × Nat × AV)) : aFill cells ((off, sz, v) :: r) = if v.cells.length = sz ∧ off + sz ≤ cells.length then aFill (cells.take off ++ (v.cells ++ cells.drop (off + sz))) r else none := by
  show cond (Nat.beq v.cells.length sz && Nat.ble (off + sz) cells.length) _ _ = _
  rw [beq_dec, ble_dec]
  by_cases h1 : v.cells.length = sz <;> by_cases h2 : off + sz ≤ cells.length <;> simp [h1, h2]
@[simp] theorem cells_int (k : IntKind) (n : Int) : (AV.int k n).cells = [.int k n] := rfl
@[simp] theorem cells_str (s : List UInt8) : (AV.str s).cells = [.str s] := rfl
@[simp] theorem cells_bool (s : Bool) : (AV.bool s).cells = [.bool s] := rfl
@[simp] theorem cells_sl (b o n : Nat) (q : Option Nat) : (AV.sl b o n q).cells = [.sl b o n q] := rfl
@[simp] theorem cells_nilsl : AV.nilsl.cells = [.nilsl] := rfl
@[simp] theorem cells_ptr (b o : Nat) : (AV.ptr b o).cells = [.ptr b o] := rfl
@[simp] theorem cells_nilp : AV.nilp.cells = [.nilp] := rfl
@[simp] theorem cells_map (b : Nat) : (AV.map b).cells = [.map b] := rfl
@[simp] theorem cells_fn (f : Nat) (a b : List AV) : (AV.fn f a b).cells = [.fn f a b] := rfl
@[simp] theorem cells_agg (l : List AV) : (AV.agg l).cells = l := rfl
@[simp] theorem someAgg_some (l : List AV) : someAgg (some l) = some (.agg l) := rfl
@[simp] theorem allScal_nil : allScal [] = true := rfl
@[simp] theorem allScal_cons (a : AV) (l : List AV) : allScal (a :: l) = (isScal a && allScal l) := by show cond _ _ _ = _; cases isScal a <;> rfl
@[simp] theorem isScal_int (k : IntKind) (n : Int) : isScal (.int k n) = true := rfl
@[simp] theorem isScal_str (s : List UInt8) : isScal (.str s) = true := rfl
@[simp] theorem isScal_bool (s : Bool) : isScal (.bool s) = true := rfl
@[simp] theorem isScal_sl (b o n : Nat) (q : Option Nat) : isScal (.sl b o n q) = true := rfl
@[simp] theorem isScal_nilsl : isScal .nilsl = true := rfl
@[simp] theorem isScal_ptr (b o : Nat) : isScal (.ptr b o) = true := rfl
@[simp] theorem isScal_nilp : isScal .nilp = true := rfl
@[simp] theorem isScal_map (b : Nat) : isScal (.map b) = true := rfl
theorem stK_agg {n b i : Nat} {l : List AV} (hs : allScal l = true) (hl : l.length = n) : stK n H (.ptr b i) (.agg l) c = ob (H.wrs b i l) fun H' => c .undef H' := stK_cells hs hl
@[simp] theorem aLoad_none (b i : Nat) : aLoad .none H (.ptr b i) = H.rd b i := rfl
@[simp] theorem aLoad_some (n b i : Nat) : aLoad (.some n) H (.ptr b i) = (H.rds b i n).map .agg := by
  simp only [aLoad, AHeap.rds]
  cases H.get b with
  | none => rfl
  | some o =>
    cases o with
    | cells ro e m t => simp only; cases t.rdN i n <;> rfl
    | _ => rfl
@[simp] theorem allM_nil' {α β : Type} (f : α → Option β) : allM f [] = some [] := rfl
@[simp] theorem allM_cons' {α β : Type} (f : α → Option β) (a : α) (l : List α) : allM f (a :: l) = (f a).bind fun x => (allM f l).map (x :: ·) := by
  show (match f a with | none => none | some x => match allM f l with | none => none | some r => some (x :: r)) = _
  cases f a <;> try rfl
  cases allM f l <;> rfl
@[simp] theorem resV_one (v : AV) : resV [v] = v := rfl
theorem pEql_str {a b : List UInt8} : pEql (.str a) (.str b) H c = c (.bool (beqB a b)) H := by
  show ob (aBin .eql (.str a) (.str b)) (fun v => c v H) = _
  simp only [aBin, aBinS]; rfl
theorem pAdd_str {a b : List UInt8} (h : a.length + b.length ≤ 9223372036854775807) : pAdd (.str a) (.str b) H c = c (.str (a ++ b)) H := by
  show ob (aBin .add (.str a) (.str b)) (fun v => c v H) = _
  simp only [aBin, aBinS, ble_dec]
  rw [decide_eq_true (show Nat.add a.length b.length ≤ _ from h)]; rfl
@[simp] theorem aUn_neg (k : IntKind) (n : Int) : aUn .neg (.int k n) = some (.int k (k.wrap (-n))) := by show some (AV.int k (fwrap k (isub 0 n))) = _; rw [fwrap_eq, isub_eq, Int.zero_sub]
@[simp] theorem aFld_one (off : Nat) (l : List AV) : aFld off .none (.agg l) = l[off]? := rfl
theorem aBin_quo (k : IntKind) (a b : Int) (h : b ≠ 0) : aBin .quo (.int k a) (.int k b) = some (.int k (k.wrap (a.tdiv b))) := by
  simp only [aBin, isShift, cond_false, aBinI, ieq_eq, decide_eq_false h, fwrap_eq, show kindEq k k = true by simp [kindEq], cond_true]
theorem aBin_rem (k : IntKind) (a b : Int) (h : b ≠ 0) : aBin .rem (.int k a) (.int k b) = some (.int k (a.tmod b)) := by
  simp only [aBin, isShift, cond_false, aBinI, ieq_eq, decide_eq_false h, show kindEq k k = true by simp [kindEq], cond_true]
theorem aSliceS_of {s : List UInt8} {k k' : IntKind} {a b : Int} (h0 : 0 ≤ a) (h1 : a ≤ b) (h2 : b ≤ s.length) : aSliceS (.str s) (.some (.int k a)) (.some (.int k' b)) = some (.str ((s.drop a.toNat).take (b.toNat - a.toNat))) := by
  obtain ⟨n, rfl⟩ := Int.eq_ofNat_of_zero_le h0
  obtain ⟨m, rfl⟩ := Int.eq_ofNat_of_zero_le (Int.le_trans h0 h1)
  show cond (Nat.ble n m && Nat.ble m s.length) _ none = _
  rw [ble_dec, ble_dec, decide_eq_true (by omega), decide_eq_true (by omega)]; rfl
theorem wrap64 {n : Int} (h0 : -9223372036854775808 ≤ n) (h1 : n ≤ 9223372036854775807) : IntKind.i64.wrap n = n := wrap_in h0 h1
@[simp] theorem aUn_not (b : Bool) : aUn .not (.bool b) = some (.bool (!b)) := rfl
end
end
end Go.Ab
namespace Go.Ab
noncomputable section
section
variable {H : AHeap} {c : Kv} {Q : AV → AHeap → Prop}
theorem W_new {cs : List AV} (w : WF H) (h : ∀ H', Nu H H' → H'.n = H.n + 1 → Cs H' H.n false 0 cs → W (c (.ptr H.n 0) H') Q) : W (pNew cs H c) Q := h _ (Nu.add w _) rfl (Cs.new w false 0 cs)
theorem W_box {x : AV} (w : WF H) (h : ∀ H', Nu H H' → H'.n = H.n + 1 → Cs H' H.n false 0 x.cells → W (c (.ptr H.n 0) H') Q) : W (pBox x H c) Q := h _ (Nu.add w _) rfl (Cs.new w false 0 x.cells)
theorem W_bsl {esz len : Nat} {zs : List AV} {parts : List (Nat × Nat × AV)} {l : List AV} (w : WF H) (hf : aFill (List.replicate len zs).flatten parts = some l) (hs : len * esz ≤ 16777216) (hl : l.length = len * esz)
    (h : ∀ H', Nu H H' → H'.n = H.n + 1 → Cs H' H.n false esz l → W (c (.sl H.n 0 len (some len)) H') Q) : W (pN (aBsl esz len zs parts) H c) Q := by
  rw [aBsl_of hf hs hl]
  exact h _ (Nu.add w _) rfl (Cs.new w false esz l)
/-- A block of one's own turns; all else stays. -/
structure Tu (b : Nat) (H H' : AHeap) : Prop where
  n : H'.n = H.n
  wf : WF H → WF H'
  old : ∀ b', b' ≠ b → H'.get b' = H.get b'
theorem Tu.cs {b b' : Nat} {H H' : AHeap} {ro : Bool} {e : Nat} {l : List AV} (t : Tu b H H') (h : Cs H b' ro e l) (hne : b' ≠ b) : Cs H' b' ro e l := h.same (t.old b' hne)
theorem Nu.tu {b : Nat} {H H1 H2 : AHeap} (h : Nu H H1) (t : Tu b H1 H2) (hb : H.n ≤ b) : Nu H H2 := ⟨by rw [t.n]; exact h.n, t.wf h.wf, fun i hi => by rw [t.old i (by omega)]; exact h.old i hi⟩
theorem W_st {b e sz i : Nat} {l : List AV} {x : AV} (hc : Cs H b false e l) (hs : allScal x.cells = true) (hz : x.cells.length = sz) (hk : i + sz ≤ l.length)
    (h : ∀ H', Tu b H H' → Cs H' b false e (l.take i ++ (x.cells ++ l.drop (i + sz))) → W (c .undef H') Q) : W (stK sz H (.ptr b i) x c) Q := by
  rw [stK_cells hs hz]
  obtain ⟨H', e1, e2, e3, e4, e5⟩ := hc.wrs i x.cells (by rw [hz]; exact hk)
  rw [e1]
  rw [hz] at e2
  exact h H' ⟨e3, e4, e5⟩ e2
end
end
end Go.Ab
namespace Go.Ab
noncomputable section
theorem flatK_len {α : Type} {k : Nat} {f : α → List AV} (hf : ∀ a, (f a).length = k) : ∀ l : List α, (l.flatMap f).length = l.length * k
  | [] => by simp
  | a :: l => by simp [flatK_len hf l, hf, Nat.add_mul]; omega
theorem flatK_cut {α : Type} {k : Nat} {f : α → List AV} (hf : ∀ a, (f a).length = k) : ∀ (l : List α) (i : Nat) (a : α), l[i]? = some a → ((l.flatMap f).drop (i * k)).take k = f a
  | [], i, a, h => by simp at h
  | x :: l, 0, a, h => by
    simp at h; subst h
    simp [hf]
  | x :: l, i + 1, a, h => by
    have := flatK_cut hf l i a (by simpa using h)
    rw [List.flatMap_cons, show (i + 1) * k = (f x).length + i * k by rw [hf, Nat.add_mul]; omega, List.drop_append, List.drop_eq_nil_of_le (by omega), List.nil_append, Nat.add_sub_cancel_left]
    exact this
theorem flatK_get {α : Type} {k : Nat} {f : α → List AV} (hf : ∀ a, (f a).length = k) {l : List α} {i j : Nat} {a : α} (h : l[i]? = some a) (hj : j < k) : (l.flatMap f)[i * k + j]? = (f a)[j]? := by
  have := flatK_cut hf l i a h
  rw [← this, List.getElem?_take, if_pos hj, List.getElem?_drop]
/-- What lay below n0 lies as it lay. -/
structure Lo (n0 : Nat) (H H' : AHeap) : Prop where
  n : H.n ≤ H'.n
  wf : WF H'
  old : ∀ b, b < n0 → H'.get b = H.get b
theorem Lo.refl (n0 : Nat) {H : AHeap} (h : WF H) : Lo n0 H H := ⟨Nat.le_refl _, h, fun _ _ => rfl⟩
theorem Lo.trans {n0 : Nat} {H H1 H2 : AHeap} (h : Lo n0 H H1) (k : Lo n0 H1 H2) : Lo n0 H H2 := ⟨Nat.le_trans h.n k.n, k.wf, fun b hb => (k.old b hb).trans (h.old b hb)⟩
theorem Lo.less {n0 n1 : Nat} {H H' : AHeap} (h : Lo n1 H H') (hn : n0 ≤ n1) : Lo n0 H H' := ⟨h.n, h.wf, fun b hb => h.old b (by omega)⟩
theorem Nu.lo {n0 : Nat} {H H' : AHeap} (h : Nu H H') (hn : n0 ≤ H.n) : Lo n0 H H' := ⟨h.n, h.wf, fun b hb => h.old b (by omega)⟩
theorem Lo.nu {H H' : AHeap} (h : Lo H.n H H') : Nu H H' := ⟨h.n, h.wf, h.old⟩
theorem Tu.lo {n0 b : Nat} {H H' : AHeap} (t : Tu b H H') (w : WF H) (hb : n0 ≤ b) : Lo n0 H H' := ⟨by rw [t.n]; exact Nat.le_refl _, t.wf w, fun i hi => t.old i (by omega)⟩
theorem Lo.cs {n0 : Nat} {H H' : AHeap} (h : Lo n0 H H') {b e : Nat} {ro : Bool} {l : List AV} (hc : Cs H b ro e l) (hb : b < n0) : Cs H' b ro e l := hc.same (h.old b hb)
end
end Go.Ab
