/- TraceShows: what it comes to, in any world in which it is called. -/
import Derived.Test.YtdccenbljfanpaaGreatDoorShA
import Derived.Test.YtdccenbljfanpaaGreatDoorAfC
import Derived.Test.YtdccenbljfanpaaGreatDoorDoor
import Derived.Carry
import Derived.Test.YtdccenbljfanpaaGreatDoorVTab
import Derived.Test.YtdccenbljfanpaaGreatDoorAdY
/- TraceShows, run. -/
set_option linter.unusedVariables false
set_option linter.unusedSimpArgs false
namespace Go.Proofs.YtdccenbljfanpaaGreatDoor
open Go.Ab
noncomputable section
set_option maxRecDepth 100000

/-- The heap in which it begins: a table, the list's block. -/
def H0 (o : AObj) : AHeap := { n := 2, t := Tr.ofList [.tab pow10s, o] }
def lookA (r : R) : Option (Bool × Option AObj × Option AObj) := Option.rec (motive := fun _ => Option (Bool × Option AObj × Option AObj)) none
  (fun p => some (and2 (isB p.1 true) (and2 (Nat.ble 2 p.2.n) (fullB p.2.t p.2.n)), p.2.get 0, p.2.get 1)) r
theorem awake_look (o : AObj) : lookA (EE 999 n_gantlinelaw26_awake [] (H0 o)) = some (true, some (.tab pow10s), some o) := by kernel_rfl

theorem awake_spec (o : AObj) : W (EE 999 n_gantlinelaw26_awake [] (H0 o)) fun v H => v = .bool true ∧ WF H ∧ 2 ≤ H.n ∧ H.get 0 = some (.tab pow10s) ∧ H.get 1 = some o := by
  have h := awake_look o
  cases hr : EE 999 n_gantlinelaw26_awake [] (H0 o) with
  | none => rw [hr] at h; cases h
  | some p =>
    obtain ⟨v, H⟩ := p
    rw [hr] at h
    have h : some (and2 (isB v true) (and2 (Nat.ble 2 H.n) (fullB H.t H.n)), H.get 0, H.get 1) = some (true, some (.tab pow10s), some o) := h
    simp only [Option.some.injEq, Prod.mk.injEq] at h
    obtain ⟨h1, h2, h3⟩ := h
    obtain ⟨q1, q2⟩ := and2_eq h1
    obtain ⟨q2, q3⟩ := and2_eq q2
    refine W_eq rfl ⟨?_, fullB_spec q3, by simpa [ble_dec] using q2, h2, h3⟩
    cases v <;> simp only [isB] at q1 <;> (try cases q1; done)
    rename_i b
    rw [bbeq_eq] at q1
    simpa using q1
end
end Go.Proofs.YtdccenbljfanpaaGreatDoor
/- TraceShows, run: any list, any numbers. -/
namespace Go.Proofs.YtdccenbljfanpaaGreatDoor
open Go.Ab
noncomputable section
set_option maxRecDepth 100000

theorem sl_at {H : AHeap} {v : AV} {n : Nat} {l : List AV} (h : Sl H v 1 n l) {i : Nat} (hi : i < n) : ∃ b, v.blk = some b ∧ Cs H b false 1 l ∧ ∀ c : Kv, pIa 1 v (.int .i64 (i : Int)) H c = c (.ptr b i) H := by
  rcases h.2 with ⟨_, rfl⟩ | ⟨b, rfl, hc⟩
  · omega
  · exact ⟨b, rfl, hc, fun c => by rw [pIa_at hi]; simp⟩

theorem law_end (n : Nat) (A : List Ac) (hA : A.length ≤ 100) (hid : ∀ a ∈ A, okI a.id) (v : AV) (hv : actsV A v) (en tr : Int) (he : okI en) (ht : okI tr) (r : Nat) (H : AHeap) (w : WF H) (h2 : 2 ≤ H.n) (hc : Cs H 1 true 7 (acts A)) (h0 : H.get 0 = some (.tab pow10s))
    (hr : Cs H r false 0 [.nilsl, .int .i64 en, .int .i64 tr, .int .i64 0, .int .i64 0, .int .i64 0, v]) : W (S_gantlinelaw26_TraceShows_0 (EE (n + 21)) (.int .i64 en) (.int .i64 tr) (.ptr r 0) (.str (lines A)) H) fun x _ => x = .bool true := by
  unfold S_gantlinelaw26_TraceShows_0
  have l0 := lines_len hid
  have l1 := itoa_len he.1 he.2
  have l2 := itoa_len ht.1 ht.2
  have hrd := hr.rds 0 7 (by simp)
  simp at hrd
  simp [hrd]
  refine W_pC (show_spec (n + 16) A hA hid v hv en tr he ht _ _ _ _ H w h2 hc h0) ?_
  rintro _ H1 ⟨rfl, n1⟩
  rw [pAdd_str (by simp; omega)]
  simp only [pC, text_ref n en H1 he.1 he.2, ob2_some]
  rw [pAdd_str (by simp; omega), pAdd_str (by simp; omega), text_ref n tr H1 ht.1 ht.2, ob2_some, pAdd_str (by simp; omega), pAdd_str (by simp; omega), pEql_str]
  refine W_eq rfl ?_
  have : lines A ++ [101, 110, 100, 32] ++ Lib.itoa en ++ [32] ++ Lib.itoa tr ++ [10] = lines A ++ ending en tr := by simp [ending]
  rw [this, beqB_eq]; simp

theorem law_loop (n : Nat) (A : List Ac) (hA : A.length ≤ 100) (hid : ∀ a ∈ A, okI a.id) (v : AV) (hv : actsV A v) (en tr : Int) (he : okI en) (ht : okI tr) (r : Nat) (t9 : AV) : ∀ (m i : Nat) (H : AHeap), A.length - i < m → i ≤ A.length → WF H → 2 ≤ H.n → Cs H 1 true 7 (acts A) → H.get 0 = some (.tab pow10s) →
    Cs H r false 0 [.nilsl, .int .i64 en, .int .i64 tr, .int .i64 0, .int .i64 0, .int .i64 0, v] → Sl H t9 1 A.length (ids A) →
    W (S_gantlinelaw26_TraceShows_1 (EE (n + 21)) m v (.int .i64 en) (.int .i64 tr) (.ptr r 0) (.str (lines (A.take i))) t9 (.int .i64 (i : Int)) H) fun x _ => x = .bool true := by
  intro m
  induction m with
  | zero => intro i H h; omega
  | succ m ih =>
    intro i H hm hi w h2 hc h0 hr hs
    rw [L_gantlinelaw26_TraceShows_1]
    by_cases c : i < A.length
    · have ci : (i : Int) < (A.length : Int) := by omega
      have hai := hid A[i] (List.getElem_mem c)
      have r0 : H.rd 1 (i * 7) = some (.int .i64 A[i].id) := by
        rw [hc.rd, ← Nat.add_zero (i * 7)]
        exact (flatK_get Ac.len (List.getElem?_eq_getElem c) (by omega)).trans rfl
      have r1 : H.rd 1 (i * 7 + 1) = some (.int .i64 A[i].op) := by
        rw [hc.rd]
        exact (flatK_get Ac.len (List.getElem?_eq_getElem c) (by omega)).trans rfl
      have l0 : (lines (A.take i)).length ≤ 4000 := by
        have := lines_len (A := A.take i) fun a ha => hid a (List.mem_of_mem_take ha)
        simp at this; omega
      have l1 := itoa_len hai.1 hai.2
      have l2 := opName_len A[i].op
      simp [hv.len, ci, hv.at c, r0, r1, pC]
      rw [text_ref n A[i].id H hai.1 hai.2, ob2_some, r1]
      rw [pAdd_str (by first | omega | (simp; omega)), pAdd_str (by first | omega | (simp; omega))]
      simp only [ckV_some, beq_int, andR_true]
      refine W_ob2i (name_ref (n + 18) A[i].op H w) ?_
      rintro _ H1 ⟨rfl, n1⟩
      rw [pAdd_str (by first | omega | (simp; omega)), pAdd_str (by first | omega | (simp; omega))]
      have hc1 := hc.nu w n1
      have hs1 : Sl H1 t9 1 A.length (ids A) := hs.same fun b hb => n1.old b (hs.lt w hb)
      obtain ⟨b, _, hcb, hat⟩ := sl_at hs1 c
      have rb : H1.rd b i = some (.int .i64 A[i].id) := by rw [hcb.rd]; simp [ids, c]
      have r01 : H1.rd 1 (i * 7) = some (.int .i64 A[i].id) := by
        rw [hc1.rd, ← Nat.add_zero (i * 7)]
        exact (flatK_get Ac.len (List.getElem?_eq_getElem c) (by omega)).trans rfl
      have hl : lines (A.take i) ++ Lib.itoa A[i].id ++ [32] ++ opName A[i].op ++ [10] = lines (A.take (i + 1)) := by rw [lines_take c]; simp [line]
      rw [hl]
      rw [hat]
      simp [rb, hv.at c, r01, wrap64 (show -9223372036854775808 ≤ (i : Int) + 1 by omega) (show (i : Int) + 1 ≤ 9223372036854775807 by omega)]
      exact ih (i + 1) H1 (by omega) (by omega) n1.wf (by have := n1.n; omega) hc1 (by rw [n1.old 0 (by omega)]; exact h0) (hr.nu w n1) hs1
    · have hi' : i = A.length := by omega
      subst hi'
      rw [List.take_length]
      simp [hv.len]
      exact law_end n A hA hid v hv en tr he ht r H w h2 hc h0 hr

theorem law_run (A : List Ac) (hid : ∀ a ∈ A, okI a.id) (v : AV) (hv : actsV A v) (hlen : A.length < 9223372036854775808) (en tr : Int) (he : okI en) (ht : okI tr) (o : AObj) (ho : ∃ t, o = .cells true 7 (acts A).length t ∧ t.Full (acts A).length ∧ ∀ i, t.get? i = (acts A)[i]?) :
    W (EE 1000 n_gantlinelaw26_TraceShows [v, .int .i64 en, .int .i64 tr] (H0 o)) fun x _ => x = .bool true := by
  refine W_of (U_gantlinelaw26_TraceShows prims4 rfl 999 _ _ _ _) ?_
  unfold S_gantlinelaw26_TraceShows_2
  refine W_pC (awake_spec o) ?_
  rintro _ H ⟨rfl, w, h2, h0, h1⟩
  have hc : Cs H 1 true 7 (acts A) := by
    obtain ⟨t, rfl, q1, q2⟩ := ho
    exact ⟨t, h1, q1, q2⟩
  simp [hv.len]
  by_cases c : 100 < A.length
  · have : (100 : Int) < (A.length : Int) := by omega
    simp [this]
  · have cn : ¬ (100 : Int) < (A.length : Int) := by omega
    have hvc : v.cells = [v] := by rcases hv with ⟨rfl, _⟩ | rfl <;> rfl
    have hvs : isScal v = true := by rcases hv with ⟨rfl, _⟩ | rfl <;> rfl
    simp [cn, hvc]
    refine W_new w fun H1 n1 e1 c1 => ?_
    refine W_st c1 (by simp [hvs]) rfl (by simp) fun H2 t2 c2 => ?_
    have n2 : Nu H H2 := n1.tu t2 (Nat.le_refl _)
    have c2' : Cs H2 H.n false 0 [.nilsl, .int .i64 en, .int .i64 tr, .int .i64 0, .int .i64 0, .int .i64 0, v] := by simpa using c2
    have hrd := c2'.rds 0 7 (by simp)
    simp at hrd
    simp [hrd]
    refine W_pC (order_spec 998 A v hv (by omega) _ _ _ _ _ _ H2 n2.wf (by have := n2.n; omega) (hc.nu w n2)) ?_
    rintro t9 H3 ⟨n3, s3, _⟩
    have n4 := n2.trans n3
    simp [s3.len, hv.len]
    exact law_loop 978 A (by omega) hid v hv en tr he ht H.n t9 1000000 0 H3 (by omega) (by omega) n4.wf (by have := n4.n; omega) (hc.nu w n4) (by rw [n4.old 0 (by omega)]; exact h0) (c2'.nu n2.wf n3) s3
end
end Go.Proofs.YtdccenbljfanpaaGreatDoor
/- TraceShows: the world in which it is called. -/
namespace Go.Proofs.YtdccenbljfanpaaGreatDoor
open Go.ChangeShapes Go.WideShapes Go.RowKit Go.Ab
noncomputable section
set_option maxRecDepth 100000

/-- The cells of an array of numbers, out of its reading. -/
theorem ints_of_trod {H : Type} {enc : TypeId × Value → H} {P : Program} {w : World} {base : Nat} {sp : Nat → Bool} {hd : Bool} {m t k e : Nat} {kd : IntKind} {cs : List Value} {l : List Int} {q : List MemPlace}
    (ht : P.underlying t = some (.array k e)) (he : P.underlying e = some (.int kd)) (hc : P.cellsOf e = 1) (hz : P.cellsOf t = l.length)
    (h : DataW.trod enc P w base sp hd m t cs = some (.agg (l.map fun n => .lit (.int kd n)), q)) : cs = l.map fun n => Value.int kd n := by
  obtain ⟨xs, m', _, hx, hlen, hxl, hel⟩ := DataW.trod_array ht h
  simp only [Prod.mk.injEq, DataW.agg.injEq] at hx
  have hkl : l.length = k := by have := congrArg List.length hx.1; simpa [hxl] using this
  apply List.ext_getElem?
  intro i
  by_cases c : i < l.length
  · have hxs : (xs.map (·.1))[i]? = some (.lit (.int kd l[i])) := by rw [← hx.1, List.getElem?_map, List.getElem?_eq_getElem c]; rfl
    rw [List.getElem?_map, Option.map_eq_some_iff] at hxs
    obtain ⟨x, hx1, hx2⟩ := hxs
    have h1 := hel i (by omega)
    rw [hx1, hc, Nat.mul_one] at h1
    obtain ⟨n', e1, e2, _⟩ := DataW.trod_int he h1
    rw [e2] at hx2
    cases hx2
    have := congrArg (·[0]?) e1
    rw [List.getElem?_map, List.getElem?_eq_getElem c]
    simpa [List.getElem?_take, List.getElem?_drop] using this
  · rw [List.getElem?_eq_none (by omega), List.getElem?_eq_none (by simp; omega)]

def Ac.vals (a : Ac) : List Value := [.int .i64 a.id, .int .i64 a.op, .int .i64 a.fn, .int .i64 a.pc, .int .i64 a.cs, .int .i64 a.pa, .int .i64 a.pc2]

theorem Ac.rel (ρ : Ren) (a : Ac) : VRs ρ a.cells a.vals :=
  ⟨_, _, rfl, rfl, _, _, rfl, rfl, _, _, rfl, rfl, _, _, rfl, rfl, _, _, rfl, rfl, _, _, rfl, rfl, _, _, rfl, rfl, rfl⟩

theorem cells42 : Tryz.prog.cellsOf 42 = 7 := by kernel_rfl
theorem cells40 : Tryz.prog.cellsOf 40 = 3 := by kernel_rfl
theorem cells3 : Tryz.prog.cellsOf 3 = 1 := by kernel_rfl

theorem act_of_trod {H : Type} {enc : TypeId × Value → H} {w : World} {base : Nat} {sp : Nat → Bool} {hd : Bool} {n : Nat} {cs : List Value} {x : DataW H × List MemPlace} (h : DataW.trod enc Tryz.prog w base sp hd n 42 cs = some x) :
    ∃ a : Ac, cs = a.vals ∧ okI a.id := by
  obtain ⟨xs, m, _, _, hl, hxl, hf⟩ := DataW.trod_struct Tryz.underlying42 h
  rw [cells42] at hl
  match cs, hl, xs, hxl with
  | [c0, c1, c2, c3, c4, c5, c6], _, [x0, x1, x2, x3, x4], _ =>
    have h0 : DataW.trod enc Tryz.prog w base sp hd m 3 (([c0, c1, c2, c3, c4, c5, c6].drop 0).take (Tryz.prog.cellsOf 3)) = some x0 := hf 0 _ rfl
    have h1 : DataW.trod enc Tryz.prog w base sp hd m 3 (([c0, c1, c2, c3, c4, c5, c6].drop 1).take (Tryz.prog.cellsOf 3)) = some x1 := hf 1 _ rfl
    have h2 : DataW.trod enc Tryz.prog w base sp hd m 3 (([c0, c1, c2, c3, c4, c5, c6].drop 2).take (Tryz.prog.cellsOf 3)) = some x2 := hf 2 _ rfl
    have h3 : DataW.trod enc Tryz.prog w base sp hd m 3 (([c0, c1, c2, c3, c4, c5, c6].drop 3).take (Tryz.prog.cellsOf 3)) = some x3 := hf 3 _ rfl
    have h4 : DataW.trod enc Tryz.prog w base sp hd m 40 (([c0, c1, c2, c3, c4, c5, c6].drop 4).take (Tryz.prog.cellsOf 40)) = some x4 := hf 4 _ rfl
    rw [cells3] at h0 h1 h2 h3
    rw [cells40] at h4
    obtain ⟨a0, e0, _, w0⟩ := DataW.trod_int Tryz.underlying3 h0
    obtain ⟨a1, e1, _, _⟩ := DataW.trod_int Tryz.underlying3 h1
    obtain ⟨a2, e2, _, _⟩ := DataW.trod_int Tryz.underlying3 h2
    obtain ⟨a3, e3, _, _⟩ := DataW.trod_int Tryz.underlying3 h3
    obtain ⟨ys, m', _, _, _, hyl, hg⟩ := DataW.trod_struct Tryz.underlying40 h4
    match ys, hyl with
    | [y0, y1, y2], _ =>
      have g0 : DataW.trod enc Tryz.prog w base sp hd m' 3 (((([c0, c1, c2, c3, c4, c5, c6].drop 4).take 3).drop 0).take (Tryz.prog.cellsOf 3)) = some y0 := hg 0 _ rfl
      have g1 : DataW.trod enc Tryz.prog w base sp hd m' 3 (((([c0, c1, c2, c3, c4, c5, c6].drop 4).take 3).drop 1).take (Tryz.prog.cellsOf 3)) = some y1 := hg 1 _ rfl
      have g2 : DataW.trod enc Tryz.prog w base sp hd m' 3 (((([c0, c1, c2, c3, c4, c5, c6].drop 4).take 3).drop 2).take (Tryz.prog.cellsOf 3)) = some y2 := hg 2 _ rfl
      rw [cells3] at g0 g1 g2
      obtain ⟨b0, f0, _, _⟩ := DataW.trod_int Tryz.underlying3 g0
      obtain ⟨b1, f1, _, _⟩ := DataW.trod_int Tryz.underlying3 g1
      obtain ⟨b2, f2, _, _⟩ := DataW.trod_int Tryz.underlying3 g2
      simp at e0 e1 e2 e3 f0 f1 f2
      subst e0 e1 e2 e3 f0 f1 f2
      exact ⟨⟨a0, a1, a2, a3, b0, b1, b2⟩, rfl, bounds_i64 w0⟩

def oA (A : List Ac) : AObj := .cells true 7 (acts A).length (Tr.ofList (acts A))
def ρ2 (L : Option Go.Ab.Loc) : Ren := fun b => if b = 0 then some ⟨0, 0, 0, 0⟩ else if b = 1 then L else none

theorem H0_get (o : AObj) (b : Nat) : (H0 o).get b = if b = 0 then some (.tab pow10s) else if b = 1 then some o else none := by
  show (Tr.ofList [_, _]).get? b = _
  rw [Tr.get?_ofList]
  match b with
  | 0 => rfl
  | 1 => rfl
  | b + 2 => simp

theorem H0_HR {W : World} {A : List Ac} {c0 : List Value} {el0 : TypeId} {fr0 : Nat × Nat} (h0 : W.heap[0]? = some (.cells (List.toArray c0) el0 fr0)) (hc0 : ∀ ρ, VRs ρ pow10s c0) (L : Option Go.Ab.Loc)
    (hL : ∀ l, L = some l → l.esz = 7 ∧ ∃ (c : Array Value) (el : TypeId) (fr : Nat × Nat), W.heap[l.blk]? = some (.cells c el fr) ∧ c.size = l.top ∧ l.off + (acts A).length ≤ l.top ∧ ∀ i v, (acts A)[i]? = some v → ∃ v', c[l.off + i]? = some v' ∧ ∀ ρ, VR ρ v v') :
    HR W.heap.size (ρ2 L) (H0 (oA A)) W ∧ Gl [0] (ρ2 L) ∧ ∀ k, ¬ Owns (ρ2 L) (H0 (oA A)) k := by
  have hdom : ∀ b l, ρ2 L b = some l → (b = 0 ∧ l = ⟨0, 0, 0, 0⟩) ∨ (b = 1 ∧ L = some l) := fun b l e => by
    unfold ρ2 at e
    split at e
    · cases e; exact .inl ⟨by assumption, rfl⟩
    · split at e
      · exact .inr ⟨by assumption, e⟩
      · cases e
  have hno : ∀ b l o, ρ2 L b = some l → (H0 (oA A)).get b = some o → o.own = false := fun b l o e ho => by
    rw [H0_get] at ho
    rcases hdom b l e with ⟨rfl, _⟩ | ⟨rfl, _⟩
    · cases ho; rfl
    · cases ho; rfl
  refine ⟨⟨Tr.full_ofList [AObj.tab pow10s, oA A], Nat.le_refl _, fun b l e => ?_, fun b l o e ho => ?_, fun b b' l l' o o' e e' ho ho' h1 _ _ => ?_⟩, fun g hg => ?_, ?_⟩
  · rcases hdom b l e with ⟨rfl, rfl⟩ | ⟨rfl, e1⟩
    · exact ⟨by show 0 < 2; omega, lt_of_get h0⟩
    · obtain ⟨_, c, el, fr, hb, _⟩ := hL l e1
      exact ⟨by show 1 < 2; omega, lt_of_get hb⟩
  · rw [H0_get] at ho
    rcases hdom b l e with ⟨rfl, rfl⟩ | ⟨rfl, e1⟩
    · cases ho
      exact ⟨rfl, c0, el0, fr0, h0, hc0 _⟩
    · cases ho
      obtain ⟨q0, c, el, fr, hb, q1, q2, q3⟩ := hL l e1
      refine ⟨⟨q0, fun e => by cases e⟩, Tr.full_ofList _, q2, (fun e => by cases e), c, el, fr, hb, (fun e => by cases e), q1, fun i v hv => ?_⟩
      rw [Tr.get?_ofList] at hv
      obtain ⟨v', r1, r2⟩ := q3 i v hv
      exact ⟨v', r1, r2 _⟩
  · rw [hno b l o e ho] at h1; cases h1
  · simp at hg
    subst hg
    exact ⟨⟨0, 0, 0, 0⟩, rfl, rfl, rfl⟩
  · rintro k ⟨b, l, o, e, ho, hown, _⟩
    rw [hno b l o e ho] at hown; cases hown

theorem cells_at {w : World} {base n : Nat} {a : Addr} {cs : List Value} (h : w.cells? base a n = some cs) {i : Nat} (hi : i < n) : w.cell? (a.add i) = cs[i]? := by
  unfold World.cells? at h
  split at h
  · have := mapM_some_get h i i (by simp [hi])
    simpa using this
  · cases h

theorem acts_in {H : Type} {enc : TypeId × Value → H} {W : World} {b0 : Nat} {v0 : Value} {d0 : DataW H} {p0 : List MemPlace} (hv : Value.okWide Tryz.prog W .any b0 26 v0) (h : DataW.Trod enc Tryz.prog W 0 (fun _ => true) true 26 v0 d0 p0)
    {c0 : List Value} {el0 : TypeId} {fr0 : Nat × Nat} (h0 : W.heap[0]? = some (.cells (List.toArray c0) el0 fr0)) (hc0 : ∀ ρ, VRs ρ pow10s c0) :
    ∃ (A : List Ac) (v : AV) (ρ : Ren), (∀ a ∈ A, okI a.id) ∧ actsV A v ∧ A.length < 9223372036854775808 ∧ HR W.heap.size ρ (H0 (oA A)) W ∧ Gl [0] ρ ∧ (∀ k, ¬ Owns ρ (H0 (oA A)) k) ∧ VR ρ v v0 := by
  obtain ⟨m, h⟩ := h
  rcases DataW.trod_slice Tryz.underlying26 h with ⟨e, _⟩ | ⟨a, len, cap, elems, rest, n, _, e, _, _, hlc, hcm, hel, hE, hR, _⟩
  · have hv0 : v0 = .slice none 0 0 := by
      cases v0 <;> simp only [Value.cells] at e <;> first | (simp only [Value.okWide, Tryz.underlying26, Cell.okWide, Cell.ok] at hv; done) | simp_all
    subst hv0
    obtain ⟨q1, q2, q3⟩ := H0_HR (A := []) h0 hc0 none (fun l e => by cases e)
    exact ⟨[], .nilsl, _, (fun a ha => by cases ha), .inl ⟨rfl, rfl⟩, by simp, q1, q2, q3, rfl⟩
  · have hv0 : v0 = .slice (some a) len cap := by
      cases v0 <;> simp only [Value.cells] at e <;> first | (simp only [Value.okWide, Tryz.underlying26, Cell.okWide, Cell.ok] at hv; done) | simp_all
    subst hv0
    have hok : len ≤ cap ∧ (cap : Int) ≤ IntKind.i64.max ∧ Tryz.prog.depth = Tryz.prog.depth ∧ W.has Tryz.prog .any b0 a 42 cap := by
      simp only [Value.okWide, Tryz.underlying26, Cell.okWide, Cell.ok] at hv
      exact ⟨hv.1, hv.2.1, rfl, hv.2.2⟩
    obtain ⟨_, hmax, _, _, hsp, row, ncells, hshape, _⟩ := hok
    have hblk : ∃ c el fr, W.heap[a.block]? = some (.cells c el fr) := by
      unfold World.shape? at hshape
      split at hshape
      · exact ⟨_, _, _, by assumption⟩
      · cases hshape
    obtain ⟨c, el, fr, hb⟩ := hblk
    obtain ⟨ab, ao, asp⟩ := a
    simp only at hsp
    subst hsp
    have hadd : ∀ k, Addr.add ⟨ab, ao, none⟩ k = ⟨ab, ao + k, none⟩ := fun k => by
      unfold Addr.add
      split
      · next hk => rw [hk, Nat.add_zero]
      · rfl
    have hcell : ∀ k, W.cell? ⟨ab, k, none⟩ = c[k]? := fun k => by simp [World.cell?, hb]
    have hact : ∀ i, i < len → ∃ a : Ac, W.cells? 0 ⟨ab, ao + i * 7, none⟩ 7 = some a.vals ∧ okI a.id := fun i hi => by
      have := hE i hi
      rw [cells42, hadd, List.getElem?_eq_getElem (by omega)] at this
      obtain ⟨cs, e1, e2⟩ := Option.bind_eq_some_iff.1 this
      obtain ⟨a, rfl, ha⟩ := act_of_trod e2
      exact ⟨a, e1, ha⟩
    have htop : 0 < cap → ao + cap * 7 ≤ c.size := fun hc => by
      have hlast : ∃ cs, W.cells? 0 ⟨ab, ao + (cap - 1) * 7, none⟩ 7 = some cs ∧ cs.length = 7 := by
        by_cases hcl : cap - 1 < len
        · obtain ⟨a, e1, _⟩ := hact _ hcl
          exact ⟨_, e1, rfl⟩
        · obtain ⟨r1, r2⟩ := hR rfl
          have := r2 (cap - 1 - len) (by omega)
          rw [cells42, hadd, show len + (cap - 1 - len) = cap - 1 by omega, List.getElem?_eq_getElem (by omega)] at this
          obtain ⟨cs, e1, e2⟩ := Option.bind_eq_some_iff.1 this
          obtain ⟨a, rfl, ha⟩ := act_of_trod e2
          exact ⟨_, e1, rfl⟩
      obtain ⟨cs, e1, e2⟩ := hlast
      have := cells_at e1 (i := 6) (by omega)
      rw [show Addr.add ⟨ab, ao + (cap - 1) * 7, none⟩ 6 = ⟨ab, ao + (cap - 1) * 7 + 6, none⟩ from rfl, hcell, List.getElem?_eq_getElem (by omega)] at this
      have := lt_of_get this
      omega
    let A : List Ac := List.ofFn fun i : Fin len => Classical.choose (hact i.1 i.2)
    have hA : A.length = len := List.length_ofFn
    have hAt : ∀ i (hi : i < len), W.cells? 0 ⟨ab, ao + i * 7, none⟩ 7 = some (A[i]'(by omega)).vals ∧ okI (A[i]'(by omega)).id := fun i hi => by
      have := Classical.choose_spec (hact i hi)
      simpa [A] using this
    have hlenA : (acts A).length = A.length * 7 := flatK_len Ac.len A
    let l : Go.Ab.Loc := ⟨ab, if cap = 0 then 0 else ao, c.size, 7⟩
    obtain ⟨q1, q2, q3⟩ := H0_HR (A := A) h0 hc0 (some l) (fun l' e => by
      cases e
      refine ⟨rfl, c, el, fr, hb, rfl, ?_, fun i v hv => ?_⟩
      · rw [hlenA, hA]
        show (if cap = 0 then 0 else ao) + len * 7 ≤ c.size
        by_cases hc : cap = 0
        · rw [if_pos hc]; omega
        · rw [if_neg hc]
          have := htop (by omega)
          omega
      · have hi : i < A.length * 7 := by rw [← hlenA]; exact (List.getElem?_eq_some_iff.1 hv).1
        have hq : i / 7 < len := by omega
        have hcap : cap ≠ 0 := by omega
        obtain ⟨e1, _⟩ := hAt (i / 7) hq
        have e2 := cells_at e1 (i := i % 7) (Nat.mod_lt _ (by omega))
        have e3 := flatK_get Ac.len (List.getElem?_eq_getElem (show i / 7 < A.length by omega)) (Nat.mod_lt i (show 0 < 7 by omega))
        rw [show i / 7 * 7 + i % 7 = i by omega] at e3
        have hv' : (A[i / 7]'(by omega)).cells[i % 7]? = some v := by rw [← e3]; exact hv
        rw [show Addr.add ⟨ab, ao + i / 7 * 7, none⟩ (i % 7) = ⟨ab, ao + i / 7 * 7 + i % 7, none⟩ by
          unfold Addr.add
          split
          · next hk => rw [hk, Nat.add_zero]
          · rfl, hcell, show ao + i / 7 * 7 + i % 7 = ao + i by omega] at e2
        obtain ⟨y, y1, _⟩ := (Ac.rel (fun _ => none) (A[i / 7]'(by omega))).get hv'
        refine ⟨y, ?_, fun ρ => ?_⟩
        · show c[(if cap = 0 then 0 else ao) + i]? = some y
          rw [if_neg hcap, e2, y1]
        · obtain ⟨y', z1, z2⟩ := (Ac.rel ρ (A[i / 7]'(by omega))).get hv'
          rw [y1] at z1; cases z1; exact z2)
    refine ⟨A, .sl 1 0 A.length none, _, fun a ha => ?_, .inr rfl, ?_, q1, q2, q3, l, cap, ao, rfl, by rw [hA], by rw [hA]; exact hlc, fun hc => ?_, ?_⟩
    · obtain ⟨i, hi, rfl⟩ := List.mem_iff_getElem.1 ha
      exact (hAt i (by omega)).2
    · rw [hA]
      have : IntKind.i64.max = 9223372036854775807 := by decide
      omega
    · show ao = (if cap = 0 then 0 else ao) + 0
      rw [if_neg hc, Nat.add_zero]
    · show (if cap = 0 then 0 else ao) + 0 + cap * 7 ≤ c.size
      by_cases hc : cap = 0
      · rw [if_pos hc]; omega
      · rw [if_neg hc]; have := htop (by omega); omega
end
end Go.Proofs.YtdccenbljfanpaaGreatDoor
/- TraceShows: the primitives are sound; the table in words; the run. -/
namespace Go.Proofs.YtdccenbljfanpaaGreatDoor
open Go.ChangeShapes Go.WideShapes Go.RowKit Go.Ab
noncomputable section
set_option maxRecDepth 100000

theorem gPow : Tryz.prog.globalNamed "internal/strconv.uint64pow10" = some 0 := by kernel_rfl
theorem tPow : ∃ t, (Tryz.prog.globals[0]?).map (·.type) = some t ∧ ∃ e, Tryz.prog.underlying t = some (.array 20 e) ∧ Tryz.prog.underlying e = some (.int .u64) ∧ Tryz.prog.cellsOf e = 1 ∧ Tryz.prog.cellsOf t = 20 :=
  ⟨((Tryz.prog.globals[0]?).map (·.type)).getD 0, by kernel_rfl, 63, by kernel_rfl, by kernel_rfl, by kernel_rfl, by kernel_rfl⟩

theorem prims4_ok (base : Nat) : PrimOK Tryz.prog base [0] prims4 := by
  intro f args H v H' h
  unfold prims4 at h
  dsimp only at h
  cases c : Nat.beq f n_strconv_Itoa with
  | true =>
    rw [c] at h
    obtain rfl := Nat.eq_of_beq_eq_true c
    exact primItoa_ok Tryz.lays171 ⟨Tryz.f19, Tryz.func19, by kernel_rfl, by kernel_rfl⟩ rfl gPow h
  | false =>
    rw [c] at h
    exact prims_ok base [0] f args H v H' h

theorem vrs_map (ρ : Ren) (k : IntKind) : ∀ l : List Int, VRs ρ (l.map fun n => AV.int k n) (l.map fun n => Value.int k n)
  | [] => rfl
  | _ :: l => ⟨_, _, rfl, rfl, vrs_map ρ k l⟩

theorem pow_laid {W : World} (h : laidMetH Tryz.prog laidOne W) : ∃ (c0 : List Value) (el : TypeId) (fr : Nat × Nat), W.heap[0]? = some (.cells (List.toArray c0) el fr) ∧ ∀ ρ, VRs ρ pow10s c0 := by
  rw [MakeChecks.laidMetH_plain _ _ _ (by kernel_rfl)] at h
  obtain ⟨ps, ⟨_, _, _, _, _, _, _, _, _, _, ⟨_, _, _, _, _, _, _, _, _, _, ⟨g0, t0, cs0, f0, p0, q0, hg0, ht0, hv0, hd0, _, _⟩, _⟩, _⟩, _, _⟩ := h
  obtain rfl := Option.some.inj (gPow.symm.trans hg0)
  obtain ⟨t, ht, e, hte, hee, hce, hct⟩ := tPow
  obtain rfl := Option.some.inj (ht.symm.trans ht0)
  have hcells := ints_of_trod (l := Go.Lib.pow10Tab) hte hee hce hct hd0
  unfold World.var? at hv0
  rw [gPow] at hv0
  simp only [Option.bind_some] at hv0
  split at hv0
  · rename_i cs el fr hb
    obtain rfl := Option.some.inj hv0
    refine ⟨cs.toList, el, fr, by simpa using hb, fun ρ => ?_⟩
    rw [hcells]
    exact vrs_map ρ .u64 Go.Lib.pow10Tab
  · cases hv0

theorem Shows_run (A : List Ac) (hid : ∀ a ∈ A, okI a.id) (v : AV) (hv : actsV A v) (hlen : A.length < 9223372036854775808) (en tr : Int) (he : okI en) (ht : okI tr) :
    isTrue (evH V_tab prims4 1000 4 [v, .int .i64 en, .int .i64 tr] (H0 (oA A))) = true := by
  obtain ⟨v', H', e, rfl⟩ := (law_run A hid v hv hlen en tr he ht (oA A) ⟨_, rfl, Tr.full_ofList _, fun i => Tr.get?_ofList _ i⟩)
  have e : evH V_tab prims4 1000 4 [v, .int .i64 en, .int .i64 tr] (H0 (oA A)) = _ := e
  rw [e]; rfl
end
end Go.Proofs.YtdccenbljfanpaaGreatDoor
