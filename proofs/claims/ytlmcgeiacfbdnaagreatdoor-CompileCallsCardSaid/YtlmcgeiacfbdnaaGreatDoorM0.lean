/- The machine: its parts, its frames. -/
import Derived.Test.YtlmcgeiacfbdnaaGreatDoorVU
import Derived.Test.YtlmcgeiacfbdnaaGreatDoorA3
import Derived.Test.YtlmcgeiacfbdnaaGreatDoorA2
namespace Go.Proofs.YtlmcgeiacfbdnaaGreatDoor
open Go.Ab
noncomputable section
set_option maxRecDepth 100000
section
variable {pr : Prims}
abbrev Free (pr : Prims) : Prop := ∀ f, ¬ (f = n242 ∨ f = n324 ∨ f = n335 ∨ f = n8 ∨ f = n5) → pr f = none
theorem aBin_shl (k k' : IntKind) (a : Int) (n : Nat) : aBin .shl (.int k a) (.int k' (n : Int)) = some (.int k (k.wrap (a * 2 ^ (min n k.bits)))) := by
 show aShift .shl k a (Int.ofNat n) = _
 show some (AV.int k (fshl k a (Nat.min n k.bits))) = _
 rw [fshl_eq]
theorem aBin_shr (k k' : IntKind) (a : Int) (n : Nat) : aBin .shr (.int k a) (.int k' (n : Int)) = some (.int k (a.fdiv (2 ^ (min n k.bits)))) := by
 show aShift .shr k a (Int.ofNat n) = _
 show some (AV.int k (fshr a (Nat.min n k.bits))) = _
 rw [fshr_eq]
theorem wrapU {n : Int} (h0 : 0 ≤ n) (h1 : n ≤ 18446744073709551615) : IntKind.u64.wrap n = n := wrap_in h0 h1
def gWords (c : Int) : Int := if 0 ≤ c ∧ c < 6 then 2 * 2 ^ c.toNat else 0
theorem geom_Words (F : Free pr) (n : Nat) (c : Int) (H : AHeap) : VE pr (n + 1) n257 [.int .i64 c] H = some (.int .i64 (gWords c), H) := by
 refine (U257 pr (F _ (by decide)) n _ _).trans ?_
 unfold S257_1 gWords
 by_cases h0 : c < 0
 · have : ¬ (0 ≤ c ∧ c < 6) := by omega
   simp [h0, this, S257_0]
 · by_cases h1 : 6 ≤ c
   · have : ¬ (0 ≤ c ∧ c < 6) := by omega
     simp [h0, h1, this, S257_0]
   · have h2 : 0 ≤ c ∧ c < 6 := by omega
     obtain ⟨m, rfl⟩ := Int.eq_ofNat_of_zero_le h2.1
     have hm : m < 6 := by omega
     have : ∀ m : Fin 6, IntKind.i64.wrap (2 * 2 ^ (min m.1 64)) = 2 * 2 ^ m.1 := by decide
     have hw := this ⟨m, hm⟩
     simp only at hw
     simp [h0, h1, h2, S257_0, wrapU (n := (m : Int)) (by omega) (by omega), aBin_shl, hw, IntKind.bits]
def gSpan (a : Int) : Int := if 0 ≤ a ∧ a < 32768 then a / 64 else -1
def gPlace (a c : Int) : Int := if gWords c = 0 ∨ gSpan a = -1 then -1 else if (a % 64) % gWords c = 0 then (a % 64) / gWords c else -1
end
end
noncomputable section
set_option maxRecDepth 100000
structure Span where
 (cls : Int) (taken marked : Nat)
def Span.cells (s : Span) : List AV := [.int .i64 s.cls, .int .u64 s.taken, .int .u64 s.marked]
theorem Span.len (s : Span) : s.cells.length = 3 := rfl
structure Arn where
 (words : List Int) (spans : List Span)
structure Ar (H : AHeap) (a w s : Nat) (σ : Arn) : Prop where
 box : ∃ qw qs, Cs H a false 0 [.sl w 0 σ.words.length qw, .sl s 0 σ.spans.length qs]
 words : Cs H w false 1 (σ.words.map (.int .i64))
 spans : Cs H s false 3 (σ.spans.flatMap Span.cells)
 len : σ.words.length = 64 * σ.spans.length
 ne : a ≠ w ∧ a ≠ s ∧ w ≠ s
 ok : ∀ p ∈ σ.spans, p.taken < 2 ^ 64 ∧ p.marked < 2 ^ 64
def Arn.has (σ : Arn) (n : Int) : Bool := decide (1 ≤ n) && decide (n < σ.spans.length)
def Arn.at (σ : Arn) (n : Int) : Option Span := if σ.has n then σ.spans[n.toNat]? else none
def Arn.cls (σ : Arn) (n : Int) : Int := match σ.at n with | some s => s.cls | none => -1
section
variable {pr : Prims} {H : AHeap} {a w s : Nat} {σ : Arn}
theorem Ar.same (h : Ar H a w s σ) {H' : AHeap} (e1 : H'.get a = H.get a) (e2 : H'.get w = H.get w) (e3 : H'.get s = H.get s) : Ar H' a w s σ :=
 ⟨let ⟨qw, qs, c⟩ := h.box; ⟨qw, qs, c.same e1⟩, h.words.same e2, h.spans.same e3, h.len, h.ne, h.ok⟩
theorem Ar.r0 (h : Ar H a w s σ) : ∃ q, H.rd a 0 = some (.sl w 0 σ.words.length q) := let ⟨qw, _, c⟩ := h.box; ⟨qw, c.rd 0⟩
theorem Ar.r1 (h : Ar H a w s σ) : ∃ q, H.rd a 1 = some (.sl s 0 σ.spans.length q) := let ⟨_, qs, c⟩ := h.box; ⟨qs, c.rd 1⟩
theorem Ar.sp (h : Ar H a w s σ) {i k : Nat} {p : Span} (hi : σ.spans[i]? = some p) (hk : k < 3) : H.rd s (i * 3 + k) = p.cells[k]? := by
 rw [h.spans.rd]; exact flatK_get Span.len hi hk
theorem Ar.sp0 (h : Ar H a w s σ) {i : Nat} {p : Span} (hi : σ.spans[i]? = some p) : H.rd s (i * 3) = some (.int .i64 p.cls) := h.sp (k := 0) hi (by omega)
theorem arena_has (F : Free pr) (n : Nat) (h : Ar H a w s σ) (x : Int) : VE pr (n + 1) n363 [.ptr a 0, .int .i64 x] H = some (.bool (σ.has x), H) := by
 refine (U363 pr (F _ (by decide)) n _ _ _).trans ?_
 unfold S363_1 Arn.has
 obtain ⟨q, h1⟩ := h.r1
 by_cases h0 : 1 ≤ x
 · by_cases h2 : x < σ.spans.length <;> simp [h0, h1, h2, S363_0]
 · simp [h0, S363_0]
theorem Arn.has_of {x : Int} (h : σ.has x = true) : 1 ≤ x ∧ x < σ.spans.length := by simpa [Arn.has] using h
theorem Arn.at_of {x : Int} (h : σ.has x = true) : ∃ p, σ.spans[x.toNat]? = some p ∧ σ.at x = some p := by
 have := Arn.has_of h
 exact ⟨_, List.getElem?_eq_getElem (by omega), by unfold Arn.at; rw [if_pos h]; exact List.getElem?_eq_getElem (by omega)⟩
theorem arena_Class (F : Free pr) (n : Nat) (h : Ar H a w s σ) (x : Int) : VE pr (n + 2) n253 [.ptr a 0, .int .i64 x] H = some (.int .i64 (σ.cls x), H) := by
 refine (U253 pr (F _ (by decide)) (n + 1) _ _ _).trans ?_
 unfold S253_0 Arn.cls
 obtain ⟨q, h1⟩ := h.r1
 cases c : σ.has x with
 | false => simp [pC, arena_has F n h, c, Arn.at]
 | true =>
  obtain ⟨p, e1, e2⟩ := Arn.at_of c
  have := Arn.has_of c
  simp [pC, arena_has F n h, c, h1, pIa_int (show 0 ≤ x by omega) (show x < (σ.spans.length : Nat) by omega), h.sp0 e1, e2]
def Arn.find (σ : Arn) (addr : Int) : Option (Nat × Span × Nat) :=
 match σ.at (gSpan addr) with
 | some p => if gPlace addr p.cls < 0 then none else if p.taken.testBit (gPlace addr p.cls).toNat then some ((gSpan addr).toNat, p, (gPlace addr p.cls).toNat) else none
 | none => none
theorem fand_one (x : Nat) (hx : x < 2 ^ 64) : fbits .and .u64 (x : Int) 1 = ((x % 2 : Nat) : Int) := by
 show cond (Nat.ble x (lim .u64) && Nat.ble 1 (lim .u64)) (Int.ofNat (Nat.land x 1)) _ = _
 have h1 : Nat.ble x (lim .u64) = true := by rw [Nat.ble_eq]; show x ≤ 18446744073709551615; omega
 have h2 : Nat.ble 1 (lim .u64) = true := rfl
 rw [h1, h2]
 show Int.ofNat (x &&& 1) = _
 rw [Nat.and_one_is_mod]; rfl
@[simp] theorem aEq_pn (b o : Nat) : aEq false .ptr (.ptr b o) .nilp = some (.bool false) := rfl
@[simp] theorem aEq_nn : aEq false .ptr .nilp .nilp = some (.bool true) := rfl
theorem gWords_cases (c : Int) : gWords c = 0 ∨ gWords c = 2 ∨ gWords c = 4 ∨ gWords c = 8 ∨ gWords c = 16 ∨ gWords c = 32 ∨ gWords c = 64 := by
 unfold gWords
 by_cases h : 0 ≤ c ∧ c < 6
 · obtain ⟨m, rfl⟩ := Int.eq_ofNat_of_zero_le h.1
   have hm : m < 6 := by omega
   have : ∀ m : Fin 6, (2 : Int) * 2 ^ m.1 = 2 ∨ (2 : Int) * 2 ^ m.1 = 4 ∨ (2 : Int) * 2 ^ m.1 = 8 ∨ (2 : Int) * 2 ^ m.1 = 16 ∨ (2 : Int) * 2 ^ m.1 = 32 ∨ (2 : Int) * 2 ^ m.1 = 64 := by decide
   have := this ⟨m, hm⟩
   simp only at this
   simp only [h, and_self, if_true, Int.toNat_natCast]
   exact .inr this
 · simp [h]
theorem Arn.find_in {x : Int} {i k : Nat} {p : Span} (h : σ.find x = some (i, p, k)) : σ.spans[i]? = some p ∧ gSpan x = i ∧ 1 ≤ i ∧ gPlace x p.cls = k ∧ p.taken.testBit k = true ∧ 0 < gWords p.cls ∧ 0 ≤ x ∧ 64 * i ≤ x ∧ x + gWords p.cls ≤ 64 * (i + 1) ∧ i < σ.spans.length := by
 unfold Arn.find at h
 cases c : σ.has (gSpan x) with
 | false => simp [Arn.at, c] at h
 | true =>
  obtain ⟨q, e1, e2⟩ := Arn.at_of c
  have hr := Arn.has_of c
  rw [e2] at h
  simp only at h
  split at h
  · cases h
  · rename_i h0
    split at h
    · rename_i h1
      cases h
      have hx : 0 ≤ x ∧ x < 32768 := by
       have := hr.1
       unfold gSpan at this
       split at this <;> omega
      have hs : gSpan x = x / 64 := by simp [gSpan, hx]
      have hp : ¬ (gWords p.cls = 0 ∨ gSpan x = -1) ∧ (x % 64) % gWords p.cls = 0 := by
       unfold gPlace at h0
       split at h0
       · omega
       · rename_i hc
         split at h0
         · exact ⟨hc, by assumption⟩
         · omega
      obtain ⟨hp1, hp2⟩ := hp
      have hw : 0 < gWords p.cls ∧ x % 64 + gWords p.cls ≤ 64 := by
       rcases gWords_cases p.cls with e | e | e | e | e | e | e <;> rw [e] at hp1 hp2 ⊢ <;> omega
      refine ⟨e1, by omega, by omega, by omega, h1, hw.1, hx.1, by omega, by omega, by omega⟩
    · cases h
def Arn.word (σ : Arn) (x k : Int) : Option Nat :=
 match σ.find x with
 | some (_, p, _) => if 0 ≤ k ∧ k < gWords p.cls then some (x + k).toNat else none
 | none => none
def Arn.read (σ : Arn) (x k : Int) : Int × Int :=
 match σ.word x k with
 | some j => (σ.words.getD j 0, 0)
 | none => (0, 1)
theorem arena_Taken (F : Free pr) (n : Nat) (h : Ar H a w s σ) (x : Int) : VE pr (n + 3) n256 [.ptr a 0, .int .i64 x] H = some (.int .u64 ((match σ.at x with | some p => if p.cls = -1 then 0 else p.taken | none => 0 : Nat) : Int), H) := by
 refine (U256 pr (F _ (by decide)) (n + 2) _ _ _).trans ?_
 unfold S256_0
 obtain ⟨q, h1⟩ := h.r1
 simp only [pC, arena_Class F n h, ob2_some]
 cases c : σ.has x with
 | false => simp [Arn.at, Arn.cls, c]
 | true =>
  obtain ⟨p, e1, e2⟩ := Arn.at_of c
  have := Arn.has_of c
  have hsp : H.rd s (x.toNat * 3 + 1) = some (.int .u64 p.taken) := h.sp e1 (by omega)
  by_cases hc : p.cls = -1
  · simp [Arn.cls, e2, hc]
  · simp [Arn.cls, e2, hc, h1, pIa_int (show 0 ≤ x by omega) (show x < (σ.spans.length : Nat) by omega), hsp]
structure On (bs : List Nat) (H H' : AHeap) : Prop where
 n : H'.n = H.n
 wf : WF H → WF H'
 old : ∀ b, b ∉ bs → H'.get b = H.get b
theorem On.refl (bs : List Nat) (H : AHeap) : On bs H H := ⟨rfl, id, fun _ _ => rfl⟩
theorem On.trans {bs : List Nat} {H H1 H2 : AHeap} (h : On bs H H1) (k : On bs H1 H2) : On bs H H2 := ⟨k.n.trans h.n, fun w => k.wf (h.wf w), fun b hb => (k.old b hb).trans (h.old b hb)⟩
theorem On.mono {bs cs : List Nat} {H H1 : AHeap} (h : On bs H H1) (k : ∀ b ∈ bs, b ∈ cs) : On cs H H1 := ⟨h.n, h.wf, fun b hb => h.old b fun c => hb (k b c)⟩
theorem On.tu {b : Nat} {H H1 : AHeap} (t : Tu b H H1) : On [b] H H1 := ⟨t.n, t.wf, fun i hi => t.old i (by simpa using hi)⟩
def Arn.write (σ : Arn) (x k v : Int) : Arn × Int :=
 match σ.word x k with
 | some j => ({ σ with words := σ.words.set j v }, 0)
 | none => (σ, 1)
theorem flatK_set {α : Type} {f : α → List AV} {K : Nat} (hf : ∀ a, (f a).length = K) {v : AV} {k : Nat} (hk : k < K) {p p' : α} (hp : f p' = (f p).set k v) : ∀ {l : List α} {i : Nat}, l[i]? = some p → (l.flatMap f).set (i * K + k) v = (l.set i p').flatMap f
 | [], i, h => by simp at h
 | q :: l, 0, h => by
  simp at h; subst h
  simp only [List.flatMap_cons, List.set_cons_zero, Nat.zero_mul, Nat.zero_add, hp]
  rw [List.set_append_left _ _ (by rw [hf]; exact hk)]
 | q :: l, i + 1, h => by
  have ih := flatK_set hf hk hp (l := l) (i := i) (by simpa using h)
  simp only [List.flatMap_cons, List.set_cons_succ]
  rw [List.set_append_right _ _ (by rw [hf, Nat.succ_mul]; omega), ← ih, hf, show (i + 1) * K + k - K = i * K + k by rw [Nat.succ_mul]; omega]
theorem set_cut {l : List AV} {i : Nat} (h : i < l.length) (v : AV) : l.take i ++ ([v] ++ l.drop (i + 1)) = l.set i v := by
 rw [List.set_eq_take_append_cons_drop, if_pos h]; rfl
theorem Ar.turn (h : Ar H a w s σ) {i k : Nat} {p p' : Span} {v : AV} (hi : σ.spans[i]? = some p) (hk : k < 3) (hp : p'.cells = p.cells.set k v) (ho : p'.taken < 2 ^ 64 ∧ p'.marked < 2 ^ 64) {H' : AHeap} (t : Tu s H H')
 (c : Cs H' s false 3 ((σ.spans.flatMap Span.cells).take (i * 3 + k) ++ ([v] ++ (σ.spans.flatMap Span.cells).drop (i * 3 + k + 1)))) : Ar H' a w s { σ with spans := σ.spans.set i p' } := by
 obtain ⟨n1, n2, n3⟩ := h.ne
 obtain ⟨qw, qs, hb⟩ := h.box
 have hl : i < σ.spans.length := (List.getElem?_eq_some_iff.1 hi).1
 rw [set_cut (by rw [flatK_len Span.len]; omega), flatK_set Span.len hk hp hi] at c
 refine ⟨⟨qw, qs, ?_⟩, t.cs h.words n3, c, by simpa using h.len, h.ne, fun q hq => ?_⟩
 · simpa using t.cs hb n2
 · rcases List.mem_or_eq_of_mem_set hq with e | rfl
   · exact h.ok q e
   · exact ho
def Arn.mark (σ : Arn) (x : Int) : Arn × Bool :=
 match σ.find x with
 | some (i, p, k) => if p.marked.testBit k then (σ, false) else ({ σ with spans := σ.spans.set i { p with marked := p.marked ||| 2 ^ k } }, true)
 | none => (σ, false)
end
end
noncomputable section
set_option maxRecDepth 100000
@[congr] theorem pAdd_congr {x x' y y' : AV} {H : AHeap} {c : Kv} (h : x = x') (k : y = y') : pAdd x y H c = pAdd x' y' H c := by rw [h, k]
@[congr] theorem pSub_congr {x x' y y' : AV} {H : AHeap} {c : Kv} (h : x = x') (k : y = y') : pSub x y H c = pSub x' y' H c := by rw [h, k]
@[congr] theorem pMul_congr {x x' y y' : AV} {H : AHeap} {c : Kv} (h : x = x') (k : y = y') : pMul x y H c = pMul x' y' H c := by rw [h, k]
@[congr] theorem pAnd_congr {x x' y y' : AV} {H : AHeap} {c : Kv} (h : x = x') (k : y = y') : pAnd x y H c = pAnd x' y' H c := by rw [h, k]
@[congr] theorem pOr_congr {x x' y y' : AV} {H : AHeap} {c : Kv} (h : x = x') (k : y = y') : pOr x y H c = pOr x' y' H c := by rw [h, k]
@[congr] theorem pXor_congr {x x' y y' : AV} {H : AHeap} {c : Kv} (h : x = x') (k : y = y') : pXor x y H c = pXor x' y' H c := by rw [h, k]
@[congr] theorem pAndN_congr {x x' y y' : AV} {H : AHeap} {c : Kv} (h : x = x') (k : y = y') : pAndN x y H c = pAndN x' y' H c := by rw [h, k]
@[congr] theorem pEql_congr {x x' y y' : AV} {H : AHeap} {c : Kv} (h : x = x') (k : y = y') : pEql x y H c = pEql x' y' H c := by rw [h, k]
@[congr] theorem pNeq_congr {x x' y y' : AV} {H : AHeap} {c : Kv} (h : x = x') (k : y = y') : pNeq x y H c = pNeq x' y' H c := by rw [h, k]
@[congr] theorem pLss_congr {x x' y y' : AV} {H : AHeap} {c : Kv} (h : x = x') (k : y = y') : pLss x y H c = pLss x' y' H c := by rw [h, k]
@[congr] theorem pLeq_congr {x x' y y' : AV} {H : AHeap} {c : Kv} (h : x = x') (k : y = y') : pLeq x y H c = pLeq x' y' H c := by rw [h, k]
@[congr] theorem pGtr_congr {x x' y y' : AV} {H : AHeap} {c : Kv} (h : x = x') (k : y = y') : pGtr x y H c = pGtr x' y' H c := by rw [h, k]
@[congr] theorem pGeq_congr {x x' y y' : AV} {H : AHeap} {c : Kv} (h : x = x') (k : y = y') : pGeq x y H c = pGeq x' y' H c := by rw [h, k]
@[congr] theorem pNew_congr {cs cs' : List AV} {H : AHeap} {c : Kv} (h : cs = cs') : pNew cs H c = pNew cs' H c := by rw [h]
@[congr] theorem pBox_congr {x x' : AV} {H : AHeap} {c : Kv} (h : x = x') : pBox x H c = pBox x' H c := by rw [h]
@[congr] theorem pN_congr {o o' : Option (AObj × Mk)} {H : AHeap} {c : Kv} (h : o = o') : pN o H c = pN o' H c := by rw [h]
@[congr] theorem pW_congr {o o' : Option (AV × AHeap)} {c : Kv} (h : o = o') : pW o c = pW o' c := by rw [h]
@[congr] theorem pFa_congr {k : Nat} {x x' : AV} {H : AHeap} {c : Kv} (h : x = x') : pFa k x H c = pFa k x' H c := by rw [h]
@[congr] theorem pIa_congr {k : Nat} {x x' y y' : AV} {H : AHeap} {c : Kv} (h : x = x') (g : y = y') : pIa k x y H c = pIa k x' y' H c := by rw [h, g]
@[congr] theorem pExt_congr {k : Nat} {x x' : AV} {H : AHeap} {c : Kv} (h : x = x') : pExt x k H c = pExt x' k H c := by rw [h]
@[congr] theorem pPick_congr {x x' a a' b b' : AV} {H : AHeap} {c : Kv} (h : x = x') (g : a = a') (k : b = b') : pPick x a b H c = pPick x' a' b' H c := by rw [h, g, k]
@[congr] theorem pConv_congr {k : IntKind} {x x' : AV} {H : AHeap} {c : Kv} (h : x = x') : pConv k x H c = pConv k x' H c := by rw [h]
@[congr] theorem ldK_congr {o : Option Nat} {H : AHeap} {p p' : AV} {c : Kv} (h : p = p') : ldK o H p c = ldK o H p' c := by rw [h]
@[congr] theorem stK_congr {n : Nat} {H : AHeap} {p p' x x' : AV} {c : Kv} (h : p = p') (g : x = x') : stK n H p x c = stK n H p' x' c := by rw [h, g]
def sb : AV → Nat
 | .sl b _ _ _ => b
 | _ => 0
def so : AV → Nat
 | .sl _ o _ _ => o
 | _ => 0
def sn : AV → Nat
 | .sl _ _ n _ => n
 | _ => 0
def SV (H : AHeap) (v : AV) (e : Nat) (l : List AV) : Prop :=
 (v = .nilsl ∧ l = []) ∨ ∃ b o n q cs, v = .sl b o n q ∧ (∀ c, q = some c → c ≤ n) ∧ Cs H b false e cs ∧ l.length = n * e ∧ o + n * e ≤ cs.length ∧ ∀ i, i < n * e → cs[o + i]? = l[i]?
section
variable {H H' : AHeap} {v : AV} {e : Nat} {l : List AV} {c : Kv} {Q : AV → AHeap → Prop}
theorem SV.nil (H : AHeap) (e : Nat) : SV H .nilsl e [] := .inl ⟨rfl, rfl⟩
theorem SV.of {b n : Nat} {q : Option Nat} (h : Cs H b false e l) (hl : l.length = n * e) (hq : ∀ c, q = some c → c ≤ n) : SV H (.sl b 0 n q) e l :=
 .inr ⟨b, 0, n, q, l, rfl, hq, h, hl, by omega, fun i _ => by rw [Nat.zero_add]⟩
theorem SV.same (h : SV H v e l) (k : ∀ b, v.blk = some b → H'.get b = H.get b) : SV H' v e l := by
 rcases h with h | ⟨b, o, n, q, cs, rfl, h1, h2, h3⟩
 · exact .inl h
 · exact .inr ⟨b, o, n, q, cs, rfl, h1, h2.same (k b rfl), h3⟩
theorem SV.lt (h : SV H v e l) (w : WF H) {b : Nat} (hb : v.blk = some b) : b < H.n := by
 rcases h with ⟨rfl, _⟩ | ⟨b, o, n, q, cs, rfl, h1, h2, h3⟩
 · cases hb
 · cases hb; exact h2.lt w
theorem SV.num (h : SV H v e l) : l.length = sn v * e := by
 rcases h with ⟨rfl, rfl⟩ | ⟨b, o, n, q, cs, rfl, h1, h2, h3⟩
 · simp [sn]
 · exact h3.1
theorem SV.len (h : SV H v e l) : aLen .sl H v = some (.int .i64 (sn v : Int)) := by
 rcases h with ⟨rfl, rfl⟩ | ⟨b, o, n, q, cs, rfl, h1, h2, h3⟩ <;> rfl
theorem SV.len' (h : SV H v e l) (H0 : AHeap) : aLen .sl H0 v = some (.int .i64 (sn v : Int)) := by
 rcases h with ⟨rfl, rfl⟩ | ⟨b, o, n, q, cs, rfl, h1, h2, h3⟩ <;> rfl
theorem SV.blk (h : SV H v e l) (hn : 0 < sn v) : v.blk = some (sb v) := by
 rcases h with ⟨rfl, rfl⟩ | ⟨b, o, n, q, cs, rfl, h1, h2, h3⟩
 · simp [sn] at hn
 · rfl
theorem SV.ia (h : SV H v e l) {k : IntKind} {x : Int} (h0 : 0 ≤ x) (h1 : x < (sn v : Int)) (H0 : AHeap) : pIa e v (.int k x) H0 c = c (.ptr (sb v) (so v + x.toNat * e)) H0 := by
 rcases h with ⟨rfl, rfl⟩ | ⟨b, o, n, q, cs, rfl, h2, h3, h4⟩
 · simp [sn] at h1; omega
 · exact pIa_int h0 h1
theorem SV.rd (h : SV H v e l) {j : Nat} (hj : j < l.length) : H.rd (sb v) (so v + j) = l[j]? := by
 rcases h with ⟨rfl, rfl⟩ | ⟨b, o, n, q, cs, rfl, h2, h3, h4, h5, h6⟩
 · simp at hj
 · show H.rd b (o + j) = _
   rw [h3.rd]; exact h6 j (by omega)
theorem SV.rds (h : SV H v e l) {j k : Nat} (hj : j + k ≤ l.length) (hk : 0 < k) : H.rds (sb v) (so v + j) k = some ((l.drop j).take k) := by
 rcases h with ⟨rfl, rfl⟩ | ⟨b, o, n, q, cs, rfl, h2, h3, h4, h5, h6⟩
 · simp at hj; omega
 · show H.rds b (o + j) k = _
   rw [h3.rds _ _ (by omega)]
   congr 1
   apply List.ext_getElem?
   intro i
   rw [List.getElem?_take, List.getElem?_take, List.getElem?_drop, List.getElem?_drop]
   split
   · rw [show o + j + i = o + (j + i) by omega]; exact h6 _ (by omega)
   · rfl
theorem SV.st (h : SV H v e l) {j sz : Nat} {x : AV} (hs : allScal x.cells = true) (hz : x.cells.length = sz) (hj : j + sz ≤ l.length) (h0 : 0 < sz)
 (k : ∀ H', Tu (sb v) H H' → SV H' v e (l.take j ++ (x.cells ++ l.drop (j + sz))) → W (c .undef H') Q) : W (stK sz H (.ptr (sb v) (so v + j)) x c) Q := by
 rcases h with ⟨rfl, rfl⟩ | ⟨b, o, n, q, cs, rfl, h2, h3, h4, h5, h6⟩
 · simp at hj; omega
 · refine W_st h3 hs hz (by show o + j + sz ≤ _; omega) fun H' t c => k H' t (.inr ⟨b, o, n, q, _, rfl, h2, c, ?_, ?_, fun i hi => ?_⟩)
   · simp [hz]; omega
   · simp [hz, so]; omega
   · show (cs.take (o + j) ++ (x.cells ++ cs.drop (o + j + sz)))[o + i]? = _
     by_cases c1 : i < j
     · rw [List.getElem?_append_left (by simp; omega), List.getElem?_append_left (by simp; omega), List.getElem?_take, List.getElem?_take, if_pos (by omega), if_pos c1]
       exact h6 i (by omega)
     · have e1 : (cs.take (o + j)).length = o + j := by rw [List.length_take]; omega
       have e2 : (l.take j).length = j := by rw [List.length_take]; omega
       rw [List.getElem?_append_right (l₁ := cs.take (o + j)) (by rw [e1]; omega), List.getElem?_append_right (l₁ := l.take j) (by rw [e2]; omega), e1, e2, show o + i - (o + j) = i - j by omega]
       by_cases c2 : i - j < sz
       · rw [List.getElem?_append_left (by omega), List.getElem?_append_left (by omega)]
       · rw [List.getElem?_append_right (by omega), List.getElem?_append_right (by omega), List.getElem?_drop, List.getElem?_drop, hz, show o + j + sz + (i - j - sz) = o + i by omega, show j + sz + (i - j - sz) = i by omega]
         exact h6 i (by omega)
theorem SV.app (w : WF H) (h : SV H v e l) {bytes bx k : Nat} {q : Option Nat} {ro : Bool} {ex : Nat} {news : List AV} (hx : Cs H bx ro ex news) (hk : news.length = k * e) (hk0 : 0 < k) (he : 0 < e)
 (hs : allScal news = true) (hb : (sn v + k) * bytes ≤ 140737488355328) (hb2 : sn v + k ≤ 1152921504606846976)
 (K : ∀ H', WF H' → H'.n = H.n + 1 → Cs H' H.n false e (l ++ news) → (∀ b, b < H.n → v.blk ≠ some b → H'.get b = H.get b) → W (c (.sl H.n 0 (sn v + k) none) H') Q) :
 W (pW (aApp e bytes H v (.sl bx 0 k q)) c) Q := by
 obtain ⟨tx, x1, x2, x3⟩ := hx
 obtain ⟨k', rfl⟩ : ∃ k', k = k' + 1 := ⟨k - 1, by omega⟩
 have hsrc : tx.rdN 0 (Nat.mul (k' + 1) e) = some news := by
  have := rdN_of (t := tx) (l := news) (o := 0) fun i _ => by rw [Nat.zero_add]; exact x3 i
  rwa [hk] at this
 have hlen0 := h.num
 have hneed : okNeed bytes (sn v + (k' + 1)) = true := by unfold okNeed; simp only [ble_dec, Bool.and_eq_true, decide_eq_true_eq]; exact ⟨hb2, hb⟩
 have hlen : (l ++ news).length = (sn v + (k' + 1)) * e := by rw [List.length_append, hlen0, hk, ← Nat.add_mul]
 have hnew : Cs (H.add (.cells false e (l ++ news).length (Tr.ofList (l ++ news)))) H.n false e (l ++ news) := Cs.new w false e _
 unfold aApp
 simp only [aSrc, x1, hsrc, hs, cond_true]
 rcases h with ⟨rfl, rfl⟩ | ⟨b, o, n, q1, cs, rfl, h2, h3, h4, h5, h6⟩
 · simp only [sn, Nat.zero_add] at hneed
   simp only [hneed, cond_true, pW_eq, ob2_some]
   have := K _ (w.add _) rfl hnew (fun b hb _ => by rw [w.get, if_neg (by omega)])
   simpa [sn, hk] using this
 · have hnd : okNeed bytes (Nat.add n (k' + 1)) = true := hneed
   simp only [sn] at hlen hlen0 K
   obtain ⟨tb, b1, b2, b3⟩ := h3
   have hrd : tb.rdN o (Nat.mul n e) = some l := by
    have := rdN_of (t := tb) (l := l) (o := o) fun i hi => by rw [b3]; exact h6 i (by omega)
    rwa [hlen0] at this
   simp only [hnd, cond_true]
   unfold aAppSl
   simp only [b1]
   cases q1 with
   | some cp =>
    have hcp := h2 cp rfl
    have c0 : Nat.ble (Nat.add n (k' + 1)) cp = false := by rw [ble_dec]; exact decide_eq_false (by show ¬ (n + (k' + 1) ≤ cp); omega)
    simp only [c0, cond_false, hrd, pW_eq, ob2_some]
    have := K _ (w.add _) rfl hnew (fun b hb _ => by rw [w.get, if_neg (by omega)])
    rw [hlen] at this
    exact this
   | none =>
    have c1 : (Nat.beq e e && (Nat.ble 1 e && !false)) = true := by simp [ble_dec]; omega
    simp only [c1, cond_true]
    have hold : ∀ (o' : AObj), ∀ b', b' < H.n → (AV.sl b o n none).blk ≠ some b' → ((H.put b .dead).add o').get b' = H.get b' := fun o' b' hb' hne => by
     rw [(w.put b .dead).get, if_neg (show ¬ b' = (H.put b .dead).n by show ¬ b' = H.n; omega), put_get b1, if_neg (fun e => hne (by rw [e]; rfl))]
    cases c2 : (Nat.beq o 0 && Nat.beq cs.length (Nat.mul n e)) with
    | false =>
     simp only [cond_false, hrd, pW_eq, ob2_some]
     refine K _ ((w.put _ _).add _) rfl ?_ (hold _)
     have := Cs.new (w.put b .dead) false e (l ++ news)
     rw [hlen] at this
     exact this
    | true =>
     simp only [Bool.and_eq_true] at c2
     obtain rfl := Nat.eq_of_beq_eq_true c2.1
     have c3 : cs.length = n * e := Nat.eq_of_beq_eq_true c2.2
     have hcl : cs = l := by
      apply List.ext_getElem?
      intro i
      by_cases hi : i < n * e
      · have := h6 i hi; rwa [Nat.zero_add] at this
      · rw [List.getElem?_eq_none (by omega), List.getElem?_eq_none (by omega)]
     subst hcl
     simp only [cond_true, pW_eq, ob2_some]
     refine K _ ((w.put _ _).add _) rfl ?_ (hold _)
     obtain ⟨p1, p2⟩ := Tr.pushAll_spec news (t := tb) (n := cs.length) b2
     refine ⟨tb.pushAll cs.length news, ?_, ?_, fun i => ?_⟩
     · rw [(w.put b .dead).get, if_pos (show H.n = (H.put b .dead).n from rfl), hlen]; rfl
     · rw [List.length_append]; exact p1
     · rw [p2]
       by_cases c : i < cs.length
       · rw [List.getElem?_append_left c]
         first | rw [if_neg (by omega), b3] | simp [c, b3]
       · rw [List.getElem?_append_right (by omega)]
         first | rw [if_pos (by omega)] | simp [c]
theorem W_var {cs : List AV} {sz : Nat} {x : AV} (w : WF H) (hs : allScal x.cells = true) (hz : x.cells.length = sz) (hc : cs.length = sz) {c : AV → Kv}
 (k : ∀ H', Nu H H' → H'.n = H.n + 1 → Cs H' H.n false 0 x.cells → W (c (.ptr H.n 0) .undef H') Q) : W (pNew cs H fun t H => stK sz H t x (c t)) Q := by
 refine W_new w fun H1 u1 n1 c1 => ?_
 refine W_st c1 hs hz (by omega) fun H2 t2 c2 => ?_
 refine k H2 (u1.tu t2 (by omega)) (by rw [t2.n, n1]) ?_
 have : cs.take 0 ++ (x.cells ++ cs.drop (0 + sz)) = x.cells := by
  rw [List.drop_eq_nil_of_le (by omega)]; simp
 rwa [this] at c2
end
end
noncomputable section
set_option maxRecDepth 100000
abbrev I (n : Int) : AV := .int .i64 n
structure Ins where
 (op a b c d : Int)
 deriving DecidableEq, Repr
def Ins.cells (i : Ins) : List AV := [I i.op, I i.a, I i.b, I i.c, I i.d]
structure Fu where
 (params caught slots result : Int) (kinds : List Bool) (code : List Ins) (maps : List Nat)
structure Mo where
 (globals : List Bool) (consts : List Int) (funcs : List Fu)
def mapV (x : Nat) : AV := .int .u64 (x : Int)
structure FV where
 (k c m : AV)
def fuCells (p : Fu × FV) : List AV := [I p.1.params, I p.1.caught, I p.1.slots, I p.1.result, p.2.k, p.2.c, p.2.m]
structure Act where
 (id op fn pc case partner pcase : Int)
def Act.cells (a : Act) : List AV := [I a.id, I a.op, I a.fn, I a.pc, I a.case, I a.partner, I a.pcase]
structure Fr where
 (fn pc : Int) (slots : List Int)
def frCells (p : Fr × AV) : List AV := [I p.1.fn, I p.1.pc, p.2]
structure Bx where
 (v h c bl a w s l t mr q sd sm st : Nat) (vg vu vh ms mg mc mcs mf : AV) (main : Int) (fv : List FV)
def Bx.md (B : Bx) : List AV := [B.ms, B.mg, B.mc, B.mcs, B.mf, I B.main]
structure Lay where
 (vo va vq vf : AV) (sl : List AV)
structure St where
 (globals out : List Int) (acts : List Act) (en trap : Int)
 (forced : Int) (phase : Int) (black : Bool) (done used : Int)
 (ar : Arn) (uns : List Bool) (q : List Int) (gs : Option (List Fr))
inductive Ro where
 | v | vg | vo | va | h | c | bl | a | w | s | l | vu | mk | q | vq | sd | sm | st | vf
 | sl (k : Nat)
 deriving DecidableEq
inductive Gr where
 | v | h | c | a | l | mk | q | gg
 deriving DecidableEq
def grp : Ro → Gr
 | .v | .vg | .vo | .va => .v
 | .h => .h
 | .c | .bl => .c
 | .a | .w | .s => .a
 | .l | .vu => .l
 | .mk => .mk
 | .q | .vq => .q
 | .sd | .sm | .st | .vf | .sl _ => .gg
def pl (B : Bx) (L : Lay) : Ro → Option Nat
 | .v => some B.v
 | .vg => B.vg.blk
 | .vo => L.vo.blk
 | .va => L.va.blk
 | .h => some B.h
 | .c => some B.c
 | .bl => some B.bl
 | .a => some B.a
 | .w => some B.w
 | .s => some B.s
 | .l => some B.l
 | .vu => B.vu.blk
 | .mk => some B.mr
 | .q => some B.q
 | .vq => L.vq.blk
 | .sd => some B.sd
 | .sm => some B.sm
 | .st => some B.st
 | .vf => L.vf.blk
 | .sl k => (L.sl[k]?).bind AV.blk
def BlackIs (b : Bool) (es : List (AV × AV × Nat)) : Prop := match b with
 | true => ∃ k, es = [(I 1, .bool true, k)]
 | false => es = []
def FrOK (H : AHeap) (B : Bx) (L : Lay) (fs : List Fr) : Prop :=
 (∃ k ck, H.get B.sm = some (.map [(I 1, .ptr B.st 0, k)] ck) ∧ k < ck) ∧ Cs H B.st false 0 [L.vf] ∧ SV H L.vf 3 ((fs.zip L.sl).flatMap frCells) ∧ L.sl.length = fs.length ∧ (∀ (k : Nat) (p : Fr × AV), (fs.zip L.sl)[k]? = some p → SV H p.2 1 (p.1.slots.map I)) ∧ (1 < fs.length → ∃ b o n, L.vf = .sl b o n none)
def MG (B : Bx) (L : Lay) (s : St) (H : AHeap) : Gr → Prop
 | .v => Cs H B.v false 0 (B.md ++ [.ptr B.h 0, .ptr B.sd 0, B.vg, L.vo, L.va, I s.en, I s.trap]) ∧ SV H B.vg 1 (s.globals.map I) ∧ SV H L.vo 1 (s.out.map I) ∧ SV H L.va 7 (s.acts.flatMap Act.cells)
 | .h => Cs H B.h false 0 [.ptr B.c 0, B.vh, I s.forced]
 | .c => Cs H B.c false 0 [.ptr B.a 0, .ptr B.t 0, .ptr B.l 0, .ptr B.mr 0, I s.phase, .map B.bl, I s.done, I s.used] ∧ ∃ es ck, H.get B.bl = some (.map es ck) ∧ BlackIs s.black es
 | .a => Ar H B.a B.w B.s s.ar
 | .l => Cs H B.l false 0 [.ptr B.a 0, B.vu] ∧ SV H B.vu 1 (s.uns.map .bool) ∧ s.uns.length = s.ar.spans.length
 | .mk => Cs H B.mr false 0 [.ptr B.a 0, .ptr B.t 0, .ptr B.q 0]
 | .q => Cs H B.q false 0 [L.vq] ∧ SV H L.vq 1 (s.q.map I)
 | .gg => Cs H B.sd false 0 (B.md ++ [.map B.sm, I 1]) ∧ (match s.gs with
  | none => ∃ ck, H.get B.sm = some (.map [] ck)
  | some fs => FrOK H B L fs)
structure Md (Z : Nat → Prop) (H : AHeap) (B : Bx) (m : Mo) : Prop where
 mg : SV H B.mg 1 (m.globals.map .bool) ∧ ∀ b, B.mg.blk = some b → Z b
 mc : SV H B.mc 1 (m.consts.map I) ∧ ∀ b, B.mc.blk = some b → Z b
 mf : SV H B.mf 7 ((m.funcs.zip B.fv).flatMap fuCells) ∧ ∀ b, B.mf.blk = some b → Z b
 len : B.fv.length = m.funcs.length
 fk : ∀ (k : Nat) (p : Fu × FV), (m.funcs.zip B.fv)[k]? = some p → SV H p.2.k 1 (p.1.kinds.map .bool) ∧ ∀ b, p.2.k.blk = some b → Z b
 fc : ∀ (k : Nat) (p : Fu × FV), (m.funcs.zip B.fv)[k]? = some p → SV H p.2.c 5 (p.1.code.flatMap Ins.cells) ∧ ∀ b, p.2.c.blk = some b → Z b
 fm : ∀ (k : Nat) (p : Fu × FV), (m.funcs.zip B.fv)[k]? = some p → SV H p.2.m 1 (p.1.maps.map mapV) ∧ ∀ b, p.2.m.blk = some b → Z b
theorem Md.same {Z : Nat → Prop} {H H' : AHeap} {B : Bx} {m : Mo} (h : Md Z H B m) (k : ∀ b, Z b → H'.get b = H.get b) : Md Z H' B m :=
 ⟨⟨h.mg.1.same fun b e => k b (h.mg.2 b e), h.mg.2⟩, ⟨h.mc.1.same fun b e => k b (h.mc.2 b e), h.mc.2⟩, ⟨h.mf.1.same fun b e => k b (h.mf.2 b e), h.mf.2⟩, h.len,
  fun i p e => ⟨(h.fk i p e).1.same fun b e1 => k b ((h.fk i p e).2 b e1), (h.fk i p e).2⟩,
  fun i p e => ⟨(h.fc i p e).1.same fun b e1 => k b ((h.fc i p e).2 b e1), (h.fc i p e).2⟩,
  fun i p e => ⟨(h.fm i p e).1.same fun b e1 => k b ((h.fm i p e).2 b e1), (h.fm i p e).2⟩⟩
def Un (B : Bx) (Z : Nat → Prop) (L : Lay) (b : Nat) : Prop := (∀ r, pl B L r ≠ some b) ∧ ¬ Z b
structure M (B : Bx) (Z : Nat → Prop) (m : Mo) (L : Lay) (s : St) (H : AHeap) : Prop where
 wf : WF H
 lt : ∀ r b, pl B L r = some b → b < H.n
 inj : ∀ r r' b, pl B L r = some b → pl B L r' = some b → r = r'
 zlt : ∀ b, Z b → b < H.n
 zn : ∀ b, Z b → ∀ r, pl B L r ≠ some b
 md : Md Z H B m
 g : ∀ g, MG B L s H g
structure Go (B : Bx) (L : Lay) (H : AHeap) (L' : Lay) (H' : AHeap) : Prop where
 n : H.n ≤ H'.n
 old : ∀ b, b < H.n → (∀ r, pl B L r ≠ some b) → H'.get b = H.get b
 own : ∀ r b, pl B L' r = some b → (∃ r0, pl B L r0 = some b) ∨ H.n ≤ b
section
variable {B : Bx} {Z : Nat → Prop} {m : Mo} {L L' L2 : Lay} {s s' : St} {H H' H2 : AHeap}
def agL (L L' : Lay) : Gr → Prop
 | .v => L'.vo = L.vo ∧ L'.va = L.va
 | .q => L'.vq = L.vq
 | .gg => L'.vf = L.vf ∧ L'.sl = L.sl
 | _ => True
def agS (s s' : St) : Gr → Prop
 | .v => s'.globals = s.globals ∧ s'.out = s.out ∧ s'.acts = s.acts ∧ s'.en = s.en ∧ s'.trap = s.trap
 | .h => s'.forced = s.forced
 | .c => s'.phase = s.phase ∧ s'.black = s.black ∧ s'.done = s.done ∧ s'.used = s.used
 | .a => s'.ar = s.ar
 | .l => s'.uns = s.uns ∧ s'.ar.spans.length = s.ar.spans.length
 | .mk => True
 | .q => s'.q = s.q
 | .gg => s'.gs = s.gs
theorem MG.same : ∀ {g : Gr}, MG B L s H g → (∀ r, grp r = g → ∀ b, pl B L r = some b → H'.get b = H.get b) → agL L L' g → agS s s' g → MG B L' s' H' g
 | .v, ⟨h1, h2, h3, h4⟩, k, ⟨a1, a2⟩, ⟨b1, b2, b3, b4, b5⟩ => by
  simp only [MG, a1, a2, b1, b2, b3, b4, b5]
  exact ⟨h1.same (k .v rfl _ rfl), h2.same (k .vg rfl), h3.same (k .vo rfl), h4.same (k .va rfl)⟩
 | .h, h1, k, _, b1 => by
  simp only [agS] at b1
  simp only [MG, b1]
  exact Cs.same h1 (k .h rfl _ rfl)
 | .c, ⟨h1, es, ck, h2, h3⟩, k, _, ⟨b1, b2, b3, b4⟩ => by
  simp only [MG, b1, b2, b3, b4]
  exact ⟨h1.same (k .c rfl _ rfl), es, ck, (k .bl rfl _ rfl).trans h2, h3⟩
 | .a, h1, k, _, b1 => by
  simp only [agS] at b1
  simp only [MG, b1]
  exact Ar.same h1 (k .a rfl _ rfl) (k .w rfl _ rfl) (k .s rfl _ rfl)
 | .l, ⟨h1, h2, h3⟩, k, _, ⟨b1, b2⟩ => by
  simp only [MG, b1, b2]
  exact ⟨h1.same (k .l rfl _ rfl), h2.same (k .vu rfl), h3⟩
 | .mk, h1, k, _, _ => Cs.same h1 (k .mk rfl _ rfl)
 | .q, ⟨h1, h2⟩, k, a1, b1 => by
  simp only [agS] at b1
  simp only [agL] at a1
  simp only [MG, b1, a1]
  exact ⟨h1.same (k .q rfl _ rfl), h2.same (k .vq rfl)⟩
 | .gg, ⟨h1, h2⟩, k, ⟨a1, a2⟩, b1 => by
  simp only [agS] at b1
  simp only [MG, b1]
  refine ⟨h1.same (k .sd rfl _ rfl), ?_⟩
  cases hg : s.gs with
  | none =>
   rw [hg] at h2
   obtain ⟨ck, e⟩ := h2
   exact ⟨ck, (k .sm rfl _ rfl).trans e⟩
  | some fs =>
   rw [hg] at h2
   obtain ⟨⟨x, ck, e, e2⟩, h3, h4, h5, h6, h7⟩ := h2
   simp only [FrOK, a1, a2]
   refine ⟨⟨x, ck, (k .sm rfl _ rfl).trans e, e2⟩, h3.same (k .st rfl _ rfl), h4.same (k .vf rfl), h5, fun i p hp => (h6 i p hp).same fun b hb => k (.sl i) rfl b ?_, h7⟩
   have : L.sl[i]? = some p.2 := by
    rw [List.getElem?_zip_eq_some] at hp
    exact hp.2
   simp only [pl, this]; exact hb
theorem M.un (h : M B Z m L s H) {b : Nat} (hb : H.n ≤ b) : Un B Z L b := ⟨fun r e => by have := h.lt r b e; omega, fun z => by have := h.zlt b z; omega⟩
theorem Go.refl : Go B L H L H := ⟨Nat.le_refl _, fun _ _ _ => rfl, fun r _b e => .inl ⟨r, e⟩⟩
theorem Go.trans {L1 : Lay} {H1 : AHeap} (h : Go B L H L1 H1) (k : Go B L1 H1 L2 H2) : Go B L H L2 H2 := by
 refine ⟨Nat.le_trans h.n k.n, fun b hb hn => (k.old b (Nat.lt_of_lt_of_le hb h.n) fun r e => ?_).trans (h.old b hb hn), fun r b e => ?_⟩
 · rcases h.own r b e with ⟨r0, e0⟩ | c
   · exact hn r0 e0
   · omega
 · rcases k.own r b e with ⟨r0, e0⟩ | c
   · exact h.own r0 b e0
   · exact .inr (Nat.le_trans h.n c)
theorem _root_.Go.Ab.Nu.go (u : Nu H H') : Go B L H L H' := ⟨u.n, fun b hb _ => u.old b hb, fun r _b e => .inl ⟨r, e⟩⟩
theorem Go.keep (g : Go B L H L' H') {b : Nat} (hb : b < H.n) (hn : ∀ r, pl B L r ≠ some b) : H'.get b = H.get b ∧ b < H'.n ∧ ∀ r, pl B L' r ≠ some b :=
 ⟨g.old b hb hn, Nat.lt_of_lt_of_le hb g.n, fun r e => by
  rcases g.own r b e with ⟨r0, e0⟩ | c
  · exact hn r0 e0
  · omega⟩
theorem M.nu (h : M B Z m L s H) (u : Nu H H') : M B Z m L s H' :=
 ⟨u.wf, fun r b e => Nat.lt_of_lt_of_le (h.lt r b e) u.n, h.inj, fun b z => Nat.lt_of_lt_of_le (h.zlt b z) u.n, h.zn, h.md.same fun b z => u.old b (h.zlt b z),
  fun g => (h.g g).same (L' := L) (s' := s) (fun r _ b e => u.old b (h.lt r b e)) (by cases g <;> simp [agL]) (by cases g <;> simp [agS])⟩
theorem M.upd (h : M B Z m L s H) (X : Gr) (w : WF H') (n : H.n ≤ H'.n) (old : ∀ b, b < H.n → (∀ r, grp r = X → pl B L r ≠ some b) → H'.get b = H.get b)
 (hr : ∀ r b, pl B L' r = some b → pl B L r = some b ∨ Un B Z L b ∧ b < H'.n) (hu : ∀ r r' b, Un B Z L b → pl B L' r = some b → pl B L' r' = some b → r = r')
 (ag : ∀ g, g ≠ X → agL L L' g ∧ agS s s' g) (new : MG B L' s' H' X) : M B Z m L' s' H' := by
 refine ⟨w, fun r b e => ?_, fun r r' b e e' => ?_, fun b z => Nat.lt_of_lt_of_le (h.zlt b z) n, fun b z r e => ?_, h.md.same fun b z => old b (h.zlt b z) fun r _ => h.zn b z r, fun g => ?_⟩
 · rcases hr r b e with k | k
   · exact Nat.lt_of_lt_of_le (h.lt r b k) n
   · exact k.2
 · rcases hr r b e with k | k
   · rcases hr r' b e' with k' | k'
     · exact h.inj r r' b k k'
     · exact absurd k (k'.1.1 r)
   · exact hu r r' b k.1 e e'
 · rcases hr r b e with k | k
   · exact h.zn b z r k
   · exact k.1.2 z
 · by_cases c : g = X
   · rw [c]; exact new
   · obtain ⟨a1, a2⟩ := ag g c
     refine (h.g g).same (fun r e b k => old b (h.lt r b k) fun r' e' k' => ?_) a1 a2
     have := h.inj r r' b k k'
     subst this
     exact c (e.symm.trans e')
theorem M.upd0 (h : M B Z m L s H) (X : Gr) (w : WF H') (n : H.n ≤ H'.n) (old : ∀ b, b < H.n → (∀ r, grp r = X → pl B L r ≠ some b) → H'.get b = H.get b)
 (ag : ∀ g, g ≠ X → agS s s' g) (new : MG B L s' H' X) : M B Z m L s' H' :=
 h.upd X w n old (fun _ _ e => .inl e) (fun r _ b u e _ => absurd e (u.1 r)) (fun g hg => ⟨by cases g <;> simp [agL], ag g hg⟩) new
theorem M.turn (h : M B Z m L s H) {b : Nat} (r : Ro) (hb : pl B L r = some b) (t : Tu b H H') (ag : ∀ g, g ≠ grp r → agS s s' g) (new : MG B L s' H' (grp r)) : M B Z m L s' H' :=
 h.upd0 (grp r) (t.wf h.wf) (by rw [t.n]; exact Nat.le_refl _) (fun b' _ k => t.old b' fun e => by subst e; exact k r rfl hb) ag new
theorem M.ne (h : M B Z m L s H) (r r' : Ro) (k : r ≠ r') {b b' : Nat} (e : pl B L r = some b) (e' : pl B L r' = some b') : b ≠ b' := fun c => by
 subst c; exact k (h.inj r r' b e e')
theorem M.cs (h : M B Z m L s H) (r r' : Ro) (k : r' ≠ r) {b b' e : Nat} {ro : Bool} {l : List AV} (hb : pl B L r = some b) (hb' : pl B L r' = some b') (t : Tu b H H') (c : Cs H b' ro e l) : Cs H' b' ro e l := t.cs c (h.ne r' r k hb' hb)
theorem M.sv (h : M B Z m L s H) (r r' : Ro) (k : r' ≠ r) {v : AV} {b e : Nat} {l : List AV} (hb : pl B L r = some b) (hv : pl B L r' = v.blk) (t : Tu b H H') (c : SV H v e l) : SV H' v e l :=
 c.same fun b' e' => t.old b' (h.ne r' r k (hv.trans e') hb)
theorem M.get (h : M B Z m L s H) (r r' : Ro) (k : r' ≠ r) {b b' : Nat} (hb : pl B L r = some b) (hb' : pl B L r' = some b') (t : Tu b H H') : H'.get b' = H.get b' := t.old b' (h.ne r' r k hb' hb)
theorem _root_.Go.Ab.Tu.go {b : Nat} (r : Ro) (hb : pl B L r = some b) (t : Tu b H H') : Go B L H L H' := ⟨by rw [t.n]; exact Nat.le_refl _, fun b' _ k => t.old b' fun e => by subst e; exact k r hb, fun r b e => .inl ⟨r, e⟩⟩
def Ex (B : Bx) (Z : Nat → Prop) (m : Mo) (L : Lay) (H : AHeap) (v : AV) (s' : St) (r : AV) (H' : AHeap) : Prop := r = v ∧ ∃ L', Go B L H L' H' ∧ M B Z m L' s' H'
theorem Ex.here {v : AV} (h : M B Z m L s H) : Ex B Z m L H v s v H := ⟨rfl, L, Go.refl, h⟩
theorem Ex.nu {v : AV} (h : M B Z m L s H) (u : Nu H H') : Ex B Z m L H v s v H' := ⟨rfl, L, u.go, h.nu u⟩
theorem Ex.next {v r : AV} (g : Go B L H L' H') (k : Ex B Z m L' H' v s' r H2) : Ex B Z m L H v s' r H2 := let ⟨e, L2, g2, h2⟩ := k; ⟨e, L2, g.trans g2, h2⟩
theorem M.v (h : M B Z m L s H) : Cs H B.v false 0 [B.ms, B.mg, B.mc, B.mcs, B.mf, I B.main, .ptr B.h 0, .ptr B.sd 0, B.vg, L.vo, L.va, I s.en, I s.trap] := (h.g .v).1
theorem M.vg (h : M B Z m L s H) : SV H B.vg 1 (s.globals.map I) := (h.g .v).2.1
theorem M.vo (h : M B Z m L s H) : SV H L.vo 1 (s.out.map I) := (h.g .v).2.2.1
theorem M.va (h : M B Z m L s H) : SV H L.va 7 (s.acts.flatMap Act.cells) := (h.g .v).2.2.2
theorem M.h (h : M B Z m L s H) : Cs H B.h false 0 [.ptr B.c 0, B.vh, I s.forced] := h.g .h
theorem M.c (h : M B Z m L s H) : Cs H B.c false 0 [.ptr B.a 0, .ptr B.t 0, .ptr B.l 0, .ptr B.mr 0, I s.phase, .map B.bl, I s.done, I s.used] := (h.g .c).1
theorem M.bl (h : M B Z m L s H) : ∃ es ck, H.get B.bl = some (.map es ck) ∧ BlackIs s.black es := (h.g .c).2
theorem M.ar (h : M B Z m L s H) : Ar H B.a B.w B.s s.ar := h.g .a
theorem M.l (h : M B Z m L s H) : Cs H B.l false 0 [.ptr B.a 0, B.vu] := (h.g .l).1
theorem M.vu (h : M B Z m L s H) : SV H B.vu 1 (s.uns.map .bool) := (h.g .l).2.1
theorem M.ul (h : M B Z m L s H) : s.uns.length = s.ar.spans.length := (h.g .l).2.2
theorem M.mr (h : M B Z m L s H) : Cs H B.mr false 0 [.ptr B.a 0, .ptr B.t 0, .ptr B.q 0] := h.g .mk
theorem M.q (h : M B Z m L s H) : Cs H B.q false 0 [L.vq] := (h.g .q).1
theorem M.vq (h : M B Z m L s H) : SV H L.vq 1 (s.q.map I) := (h.g .q).2
theorem M.sd (h : M B Z m L s H) : Cs H B.sd false 0 [B.ms, B.mg, B.mc, B.mcs, B.mf, I B.main, .map B.sm, I 1] := (h.g .gg).1
theorem M.fr (h : M B Z m L s H) {fs : List Fr} (e : s.gs = some fs) : FrOK H B L fs := by have := (h.g .gg).2; rw [e] at this; exact this
@[simp] theorem aEq_pn' (b o : Nat) : aEq true .ptr (.ptr b o) .nilp = some (.bool true) := rfl
@[simp] theorem aEq_nn2 : aEq true .ptr .nilp .nilp = some (.bool false) := rfl
theorem set_same {α : Type} {l : List α} {i : Nat} {a : α} (h : l[i]? = some a) : l.set i a = l := by
 obtain ⟨h1, rfl⟩ := List.getElem?_eq_some_iff.1 h
 exact List.set_getElem_self h1
theorem zipcells_len {α : Type} {K : Nat} {f : α × AV → List AV} (hf : ∀ p, (f p).length = K) {l : List α} {k : List AV} (h : k.length = l.length) : ((l.zip k).flatMap f).length = l.length * K := by
 rw [flatK_len hf, List.length_zip, h, Nat.min_self]
structure TopF (H : AHeap) (L : Lay) (fs : List Fr) (k : Nat) (f : Fr) (v : AV) : Prop where
 n : sn L.vf = fs.length
 hk : fs.length = k + 1
 at' : fs[k]? = some f
 sl : L.sl[k]? = some v
 r0 : H.rd (sb L.vf) (so L.vf + k * 3) = some (I f.fn)
 r1 : H.rd (sb L.vf) (so L.vf + k * 3 + 1) = some (I f.pc)
 r2 : H.rd (sb L.vf) (so L.vf + k * 3 + 2) = some v
 rs : H.rds (sb L.vf) (so L.vf + k * 3) 3 = some [I f.fn, I f.pc, v]
 sv : SV H v 1 (f.slots.map I)
 vn : sn v = f.slots.length
theorem FrOK.top {fs : List Fr} (h : FrOK H B L fs) {k : Nat} {f : Fr} (hk : fs.length = k + 1) (hf : fs[k]? = some f) : ∃ v, TopF H L fs k f v := by
 obtain ⟨_, h1, h2, h3, h4, _⟩ := h
 have hl : k < L.sl.length := by omega
 have hv : L.sl[k]? = some L.sl[k] := List.getElem?_eq_getElem hl
 have hz : (fs.zip L.sl)[k]? = some (f, L.sl[k]) := by rw [List.getElem?_zip_eq_some]; exact ⟨hf, hv⟩
 have hlen := zipcells_len (f := frCells) (K := 3) (fun _ => rfl) h3
 have hs := h2.num
 have hget : ∀ j, j < 3 → ((fs.zip L.sl).flatMap frCells)[k * 3 + j]? = (frCells (f, L.sl[k]))[j]? := fun j hj => flatK_get (f := frCells) (fun _ => rfl) hz hj
 have hn : sn L.vf = fs.length := by rw [hlen] at hs; omega
 have hv4 := h4 k _ hz
 have hvn := hv4.num
 refine ⟨L.sl[k], hn, hk, hf, hv, ?_, ?_, ?_, ?_, hv4, by simpa using hvn.symm⟩
 · rw [h2.rd (by rw [hlen]; omega)]; exact hget 0 (by omega)
 · rw [Nat.add_assoc, h2.rd (by rw [hlen]; omega)]; exact hget 1 (by omega)
 · rw [Nat.add_assoc, h2.rd (by rw [hlen]; omega)]; exact hget 2 (by omega)
 · rw [h2.rds (by rw [hlen]; omega) (by omega), flatK_cut (f := frCells) (k := 3) (fun _ => rfl) _ _ _ hz]; rfl
end
end
noncomputable section
set_option maxRecDepth 100000
section
variable {pr : Prims} {B : Bx} {Z : Nat → Prop} {m : Mo} {L : Lay} {s : St} {H H' : AHeap} {fs : List Fr} {k : Nat} {f : Fr} {v : AV}
theorem vm_End (F : Free pr) (n : Nat) (h : M B Z m L s H) : VE pr (n + 1) n52 [.ptr B.v 0] H = some (.tup [I s.en, I s.trap], H) := by
 refine (U52 pr (F _ (by decide)) n _ _).trans ?_
 simp -implicitDefEqProofs [S52_0, h.v.rd]
theorem frame_top (F : Free pr) (n : Nat) (h : M B Z m L s H) (hg : s.gs = some fs) (t : TopF H L fs k f v) (hb : k < 256) : VE pr (n + 1) n170 [.ptr B.st 0] H = some (.ptr (sb L.vf) (so L.vf + k * 3), H) := by
 obtain ⟨_, h1, h2, h3, h4, _⟩ := h.fr hg
 have hn : sn L.vf = k + 1 := by rw [t.n, t.hk]
 refine (U170 pr (F _ (by decide)) n _ _).trans ?_
 simp -implicitDefEqProofs [S170_0, h1.rd, h2.len, hn, wrap64 (n := (k : Int)) (by omega) (by omega), h2.ia (k := .i64) (x := (k : Int)) (by omega) (by rw [hn]; omega), show ¬ ((k : Int) + 1 = 0) by omega]
theorem frame_Depth (F : Free pr) (n : Nat) (h : M B Z m L s H) (hg : s.gs = some fs) : VE pr (n + 1) n112 [.ptr B.st 0] H = some (I fs.length, H) := by
 obtain ⟨_, h1, h2, h3, h4, _⟩ := h.fr hg
 have hn : sn L.vf = fs.length := by have := h2.num; rw [zipcells_len (f := frCells) (K := 3) (fun _ => rfl) h3] at this; omega
 refine (U112 pr (F _ (by decide)) n _ _).trans ?_
 simp -implicitDefEqProofs [S112_0, h1.rd, h2.len, hn]
def Fr.get (f : Fr) (x : Int) : Int := if 0 ≤ x then f.slots.getD x.toNat 0 else 0
def Fr.set (f : Fr) (x w : Int) : Fr := if 0 ≤ x then { f with slots := f.slots.set x.toNat w } else f
theorem frame_Get (F : Free pr) (n : Nat) (h : M B Z m L s H) (hg : s.gs = some fs) (t : TopF H L fs k f v) (hb : k < 256) (x : Int) : VE pr (n + 2) n176 [.ptr B.st 0, I x] H = some (I (f.get x), H) := by
 refine (U176 pr (F _ (by decide)) (n + 1) _ _ _).trans ?_
 have hc := frame_top F n h hg t hb
 have hvn := t.vn
 by_cases h0 : x < 0
 · have : ¬ (0 ≤ x) := by omega
   simp -implicitDefEqProofs [S176_0, S176_1, S176_2, pC, hc, h0, Fr.get, this]
 · by_cases h1 : (f.slots.length : Int) ≤ x
   · have h2 : f.slots[x.toNat]? = none := List.getElem?_eq_none (by omega)
     have h3 : 0 ≤ x := by omega
     simp -implicitDefEqProofs [S176_0, S176_1, S176_2, pC, hc, h0, t.r2, t.sv.len, hvn, h1, Fr.get, h3]
   · have h3 : 0 ≤ x := by omega
     have h4 : x.toNat < f.slots.length := by omega
     have hr := t.sv.rd (j := x.toNat) (by simpa using h4)
     simp -implicitDefEqProofs [S176_0, S176_1, S176_2, pC, hc, h0, t.r2, t.sv.len, hvn, h1, Fr.get, h3, h4, t.sv.ia (k := .i64) (x := x) h3 (by rw [hvn]; omega), hr]
theorem zip_set {f' : Fr} {v : AV} : ∀ {fs : List Fr} {l : List AV} {k : Nat}, l[k]? = some v → (fs.zip l).set k (f', v) = (fs.set k f').zip l
 | [], _, _, _ => by simp
 | a :: fs, [], k, h => by simp at h
 | a :: fs, b :: l, 0, h => by simp at h; subst h; rfl
 | a :: fs, b :: l, k + 1, h => by
  have := zip_set (f' := f') (fs := fs) (l := l) (k := k) (by simpa using h)
  simp -implicitDefEqProofs [this]
theorem M.setF (h : M B Z m L s H) (hg : s.gs = some fs) (t : TopF H L fs k f v) {f' : Fr} (hsl : f'.slots = f.slots) {j : Nat} {x : AV} (hj : j < 3) (hc : frCells (f', v) = (frCells (f, v)).set j x)
 (T : Tu (sb L.vf) H H') (c : SV H' L.vf 3 (((fs.zip L.sl).flatMap frCells).take (k * 3 + j) ++ ([x] ++ ((fs.zip L.sl).flatMap frCells).drop (k * 3 + j + 1)))) : M B Z m L { s with gs := some (fs.set k f') } H' ∧ Go B L H L H' := by
 obtain ⟨⟨a, ck, e1, e2⟩, h1, h2, h3, h4, h5⟩ := h.fr hg
 have hb : pl B L .vf = some (sb L.vf) := h2.blk (by rw [t.n, t.hk]; omega)
 have hz : (fs.zip L.sl)[k]? = some (f, v) := by rw [List.getElem?_zip_eq_some]; exact ⟨t.at', t.sl⟩
 have hlen := zipcells_len (f := frCells) (K := 3) (fun _ => rfl) h3
 have hk := t.hk
 rw [set_cut (by rw [hlen]; omega), flatK_set (f := frCells) (K := 3) (fun _ => rfl) hj hc hz, zip_set t.sl] at c
 refine ⟨h.turn .vf hb T (fun g hg => by cases g <;> simp_all [agS, grp]) ?_, T.go .vf hb⟩
 refine ⟨h.cs .vf .sd (by decide) hb rfl T (h.g .gg).1, ⟨a, ck, (h.get .vf .sm (by decide) hb rfl T).trans e1, e2⟩, h.cs .vf .st (by decide) hb rfl T h1, c, by simpa using h3, fun i p hp => ?_, by simpa using h5⟩
 have hs : SV H p.2 1 (p.1.slots.map I) := by
  rw [← zip_set t.sl, List.getElem?_set] at hp
  split at hp
  · rename_i e
    subst e
    split at hp
    · cases hp; show SV H v 1 (f'.slots.map I); rw [hsl]; exact t.sv
    · cases hp
  · exact h4 i p hp
 have hp2 : L.sl[i]? = some p.2 := by rw [List.getElem?_zip_eq_some] at hp; exact hp.2
 exact h.sv .vf (.sl i) (by simp) hb (by simp -implicitDefEqProofs [pl, hp2]) T hs
def St.top (s : St) (fs : List Fr) (k : Nat) (f : Fr) : St := { s with gs := some (fs.set k f) }
theorem frame_Jump (F : Free pr) (n : Nat) (h : M B Z m L s H) (hg : s.gs = some fs) (t : TopF H L fs k f v) (hb : k < 256) (x : Int) :
 W (VE pr (n + 2) n260 [.ptr B.st 0, I x] H) fun r H' => Ex B Z m L H (.tup []) (s.top fs k { f with pc := x }) r H' := by
 refine W_of (U260 pr (F _ (by decide)) (n + 1) _ _ _) ?_
 obtain ⟨_, h1, h2, h3, h4, _⟩ := h.fr hg
 have hlen := zipcells_len (f := frCells) (K := 3) (fun _ => rfl) h3
 have hk := t.hk
 simp -implicitDefEqProofs [S260_0, pC, frame_top F n h hg t hb, -stK_int]
 rw [Nat.add_assoc]
 refine h2.st (x := I x) (sz := 1) rfl rfl (by rw [hlen]; omega) (by omega) fun H' T c => ?_
 obtain ⟨hM, g⟩ := h.setF hg t (f' := { f with pc := x }) rfl (j := 1) (by omega) rfl T c
 simp only [W_some]
 exact ⟨rfl, L, g, hM⟩
theorem frame_Set (F : Free pr) (n : Nat) (h : M B Z m L s H) (hg : s.gs = some fs) (t : TopF H L fs k f v) (hb : k < 256) (x w : Int) :
 W (VE pr (n + 2) n366 [.ptr B.st 0, I x, I w] H) fun r H' => Ex B Z m L H (.tup []) (s.top fs k (f.set x w)) r H' := by
 refine W_of (U366 pr (F _ (by decide)) (n + 1) _ _ _ _) ?_
 have hc := frame_top F n h hg t hb
 have hvn := t.vn
 have hk := t.hk
 have same : s.top fs k f = s := by
  have : fs.set k f = fs := set_same t.at'
  simp -implicitDefEqProofs [St.top, this, ← hg]
 by_cases h0 : x < 0
 · have : ¬ (0 ≤ x) := by omega
   simp -implicitDefEqProofs [S366_0, S366_1, S366_2, pC, hc, this, Fr.set, same]
   exact .here h
 · have h3 : 0 ≤ x := by omega
   by_cases h1 : (f.slots.length : Int) ≤ x
   · have h2 : ¬ (x < (f.slots.length : Int)) := by omega
     have h5 : f.slots.set x.toNat w = f.slots := List.set_eq_of_length_le (by omega)
     simp -implicitDefEqProofs [S366_0, S366_1, S366_2, pC, hc, h3, t.r2, t.sv.len, hvn, h2, Fr.set, h5, same]
     exact .here h
   · have h2 : x < (f.slots.length : Int) := by omega
     have h4 : x.toNat < f.slots.length := by omega
     simp -implicitDefEqProofs [S366_0, S366_1, S366_2, pC, hc, h3, t.r2, t.sv.len, hvn, h2, Fr.set, t.sv.ia (k := .i64) (x := x) h3 (by rw [hvn]; omega), -stK_int]
     refine t.sv.st (x := I w) (sz := 1) rfl rfl (by simp; omega) (by omega) fun H' T c => ?_
     simp only [W_some]
     have hb2 : pl B L (.sl k) = some (sb v) := by simp only [pl, t.sl]; exact t.sv.blk (by rw [hvn]; omega)
     obtain ⟨⟨a, ck, e1, e2⟩, g1, g2, g3, g4, g5⟩ := h.fr hg
     refine ⟨rfl, L, T.go (.sl k) hb2, h.turn (.sl k) hb2 T (fun g hg => by cases g <;> simp_all [agS, grp, St.top]) ?_⟩
     have hcl : (fs.zip L.sl).flatMap frCells = ((fs.set k { f with slots := f.slots.set x.toNat w }).zip L.sl).flatMap frCells := by
      rw [← zip_set t.sl]
      have hz : (fs.zip L.sl)[k]? = some (f, v) := by rw [List.getElem?_zip_eq_some]; exact ⟨t.at', t.sl⟩
      have := flatK_set (f := frCells) (K := 3) (fun _ => rfl) (k := 0) (by omega) (p := (f, v)) (p' := ({ f with slots := f.slots.set x.toNat w }, v)) (v := I f.fn) rfl hz
      rw [← this]
      have h00 : ((fs.zip L.sl).flatMap frCells)[k * 3 + 0]? = some (I f.fn) := (flatK_get (f := frCells) (k := 3) (fun _ => rfl) hz (by omega)).trans rfl
      exact (set_same h00).symm
     refine ⟨h.cs (.sl k) .sd (by simp) hb2 rfl T (h.g .gg).1, ⟨a, ck, (h.get (.sl k) .sm (by simp) hb2 rfl T).trans e1, e2⟩, h.cs (.sl k) .st (by simp) hb2 rfl T g1, ?_, by simpa using g3, fun i p hp => ?_, by simpa using g5⟩
     · rw [← hcl]; exact h.sv (.sl k) .vf (by simp) hb2 rfl T g2
     · have hp2 : L.sl[i]? = some p.2 := by rw [List.getElem?_zip_eq_some] at hp; exact hp.2
       rw [← zip_set t.sl, List.getElem?_set] at hp
       split at hp
       · rename_i e
         subst e
         split at hp
         · cases hp
           show SV H' v 1 ((f.slots.set x.toNat w).map I)
           rw [List.map_set]
           simp only [cells_int] at c
           rw [set_cut (by simpa using h4)] at c
           exact c
         · cases hp
       · rename_i e
         exact h.sv (.sl k) (.sl i) (by simpa using fun h => e h.symm) hb2 (by simp -implicitDefEqProofs [pl, hp2]) T (g4 i p hp)
end
end
noncomputable section
set_option maxRecDepth 100000
section
variable {pr : Prims} {B : Bx} {Z : Nat → Prop} {m : Mo} {L : Lay} {s : St} {H H' : AHeap} {fs : List Fr} {k : Nat} {f : Fr} {v : AV}
structure FnAt (H : AHeap) (B : Bx) (m : Mo) (x : Int) (u : Fu) (w : FV) : Prop where
 ge : 0 ≤ x
 lt : x < (m.funcs.length : Nat)
 at' : m.funcs[x.toNat]? = some u
 n : sn B.mf = m.funcs.length
 ia : ∀ (c : Kv) (H0 : AHeap), pIa 7 B.mf (I x) H0 c = c (.ptr (sb B.mf) (so B.mf + x.toNat * 7)) H0
 r0 : H.rd (sb B.mf) (so B.mf + x.toNat * 7) = some (I u.params)
 r2 : H.rd (sb B.mf) (so B.mf + x.toNat * 7 + 2) = some (I u.slots)
 r5 : H.rd (sb B.mf) (so B.mf + x.toNat * 7 + 5) = some w.c
 r6 : H.rd (sb B.mf) (so B.mf + x.toNat * 7 + 6) = some w.m
 rs : H.rds (sb B.mf) (so B.mf + x.toNat * 7) 7 = some [I u.params, I u.caught, I u.slots, I u.result, w.k, w.c, w.m]
 k : SV H w.k 1 (u.kinds.map .bool)
 c : SV H w.c 5 (u.code.flatMap Ins.cells)
 cn : sn w.c = u.code.length
 m : SV H w.m 1 (u.maps.map mapV)
 mn : sn w.m = u.maps.length
theorem Md.fn (h : Md Z H B m) {x : Int} {u : Fu} (h0 : 0 ≤ x) (e : m.funcs[x.toNat]? = some u) : ∃ w, FnAt H B m x u w := by
 have hx := (List.getElem?_eq_some_iff.1 e).1
 have hl : x.toNat < B.fv.length := by rw [h.len]; exact hx
 have hz : (m.funcs.zip B.fv)[x.toNat]? = some (u, B.fv[x.toNat]) := by rw [List.getElem?_zip_eq_some]; exact ⟨e, List.getElem?_eq_getElem hl⟩
 have hlen : ((m.funcs.zip B.fv).flatMap fuCells).length = m.funcs.length * 7 := by rw [flatK_len (k := 7) (fun _ => rfl), List.length_zip, h.len, Nat.min_self]
 have hs := h.mf.1.num
 have hn : sn B.mf = m.funcs.length := by rw [hlen] at hs; omega
 have hget : ∀ j, j < 7 → ((m.funcs.zip B.fv).flatMap fuCells)[x.toNat * 7 + j]? = (fuCells (u, B.fv[x.toNat]))[j]? := fun j hj => flatK_get (f := fuCells) (fun _ => rfl) hz hj
 have hc : SV H B.fv[x.toNat].c 5 (u.code.flatMap Ins.cells) := (h.fc _ _ hz).1
 have hm : SV H B.fv[x.toNat].m 1 (u.maps.map mapV) := (h.fm _ _ hz).1
 have hcn := hc.num
 have hmn := hm.num
 refine ⟨B.fv[x.toNat], h0, by omega, e, hn, fun c H0 => h.mf.1.ia h0 (by rw [hn]; omega) H0, ?_, ?_, ?_, ?_, ?_, (h.fk _ _ hz).1, hc, ?_, hm, by simpa using hmn.symm⟩
 · rw [h.mf.1.rd (by rw [hlen]; omega)]; exact hget 0 (by omega)
 · rw [Nat.add_assoc, h.mf.1.rd (by rw [hlen]; omega)]; exact hget 2 (by omega)
 · rw [Nat.add_assoc, h.mf.1.rd (by rw [hlen]; omega)]; exact hget 5 (by omega)
 · rw [Nat.add_assoc, h.mf.1.rd (by rw [hlen]; omega)]; exact hget 6 (by omega)
 · rw [h.mf.1.rds (by rw [hlen]; omega) (by omega), flatK_cut (f := fuCells) (k := 7) (fun _ => rfl) _ _ _ hz]; rfl
 · rw [flatK_len (k := 5) (fun _ => rfl)] at hcn; omega
def Mo.ins (m : Mo) (f : Fr) : Option Ins := if 0 ≤ f.fn ∧ 0 ≤ f.pc then (m.funcs[f.fn.toNat]?).bind fun u => u.code[f.pc.toNat]? else none
theorem Mo.ins_of {i : Ins} (h : m.ins f = some i) : 0 ≤ f.fn ∧ 0 ≤ f.pc ∧ ∃ u, m.funcs[f.fn.toNat]? = some u ∧ u.code[f.pc.toNat]? = some i := by
 unfold Mo.ins at h
 split at h
 · rename_i c
   cases e : m.funcs[f.fn.toNat]? with
   | none => rw [e] at h; cases h
   | some u => rw [e] at h; exact ⟨c.1, c.2, u, rfl, h⟩
 · cases h
theorem TopF.re {L' : Lay} {s' : St} (h : M B Z m L' s' H') (hg : s'.gs = some fs) (hk : fs.length = k + 1) (hf : fs[k]? = some f) : ∃ v, TopF H' L' fs k f v := (h.fr hg).top hk hf
theorem frame_At (F : Free pr) (n : Nat) (h : M B Z m L s H) (hg : s.gs = some fs) (hk : fs.length = k + 1) (hf : fs[k]? = some f) (hb : k < 256) {i : Ins} (hi : m.ins f = some i) :
 W (VE pr (n + 2) n109 [.ptr B.st 0, .agg B.md] H) fun r H' => r = .tup [.agg i.cells, .bool true] ∧ Nu H H' := by
 refine W_of (U109 pr (F _ (by decide)) (n + 1) _ _ _) ?_
 unfold S109_33
 refine W_box h.wf fun H1 u1 n1 c1 => ?_
 refine W_new u1.wf fun H2 u2 n2 c2 => ?_
 have u := u1.trans u2
 have h2 := h.nu u
 obtain ⟨v, t⟩ := TopF.re h2 hg hk hf
 have c1' := c1.nu u1.wf u2
 obtain ⟨hf0, hp0, fu, e1, e2⟩ := Mo.ins_of hi
 obtain ⟨w, q⟩ := h2.md.fn hf0 e1
 have hpl := (List.getElem?_eq_some_iff.1 e2).1
 have hia : ∀ (c : Kv) (H0 : AHeap), pIa 5 w.c (I f.pc) H0 c = c (.ptr (sb w.c) (so w.c + f.pc.toNat * 5)) H0 := fun c H0 => q.c.ia hp0 (by rw [q.cn]; omega) H0
 have hrs : H2.rds (sb w.c) (so w.c + f.pc.toNat * 5) 5 = some i.cells := by
  rw [q.c.rds (by rw [flatK_len (k := 5) (fun _ => rfl)]; omega) (by omega), flatK_cut (f := Ins.cells) (k := 5) (fun _ => rfl) _ _ _ e2]
 have g1 : ¬ (f.fn < 0) := by omega
 have g2 : ¬ ((m.funcs.length : Int) ≤ f.fn) := by have := q.lt; omega
 have g3 : ¬ (f.pc < 0) := by omega
 have g4 : ¬ ((fu.code.length : Int) ≤ f.pc) := by omega
 simp -implicitDefEqProofs [S109_0, S109_1, S109_2, S109_3, S109_4, S109_5, S109_6, S109_7, S109_8, S109_9, S109_10, S109_11, S109_12, S109_13, S109_14, S109_15, S109_16, S109_17, S109_18, S109_19, S109_20, S109_21, S109_22, S109_23, S109_24, S109_25, S109_26, S109_27, S109_28, S109_29, S109_30, S109_31, S109_32, pC, frame_top F n h2 hg t hb, t.r0, t.r1, c1'.rd, Bx.md, h2.md.mf.1.len, q.n, g1, g2, q.ia, q.r5, q.c.len, q.cn, g3, g4, hia, hrs, -stK_int]
 refine W_st c2 (x := .agg i.cells) rfl rfl (by simp) fun H3 t3 c3 => ?_
 have := c3.rds 0 5 (by simp -implicitDefEqProofs [Ins.cells])
 simp -implicitDefEqProofs [this, Ins.cells, resV]
 exact u.tu t3 (by omega)
theorem allScal_map {α : Type} (g : α → AV) (hg : ∀ a, isScal (g a) = true) : ∀ l : List α, allScal (l.map g) = true
 | [] => rfl
 | a :: l => by simp -implicitDefEqProofs [hg, allScal_map g hg l]
theorem allScal_append : ∀ {a b : List AV}, allScal a = true → allScal b = true → allScal (a ++ b) = true
 | [], b, _, h => h
 | x :: a, b, h1, h2 => by
  simp only [allScal_cons, Bool.and_eq_true] at h1
  simp only [List.cons_append, allScal_cons, Bool.and_eq_true]
  exact ⟨h1.1, allScal_append h1.2 h2⟩
theorem allScal_flatMap {α : Type} (g : α → List AV) (hg : ∀ a, allScal (g a) = true) : ∀ l : List α, allScal (l.flatMap g) = true
 | [] => rfl
 | a :: l => by rw [List.flatMap_cons]; exact allScal_append (hg a) (allScal_flatMap g hg l)
def Copied (H : AHeap) (e : Nat) (l : List AV) (r : AV) (H' : AHeap) : Prop := Nu H H' ∧ SV H' r e l ∧ ∀ b, r.blk = some b → H.n ≤ b
theorem W_clone {c : Kv} {Q : AV → AHeap → Prop} {e bytes : Nat} {l zs : List AV} (w : WF H) (h : SV H v e l) (_he : 0 < e) (hv : v ≠ .nilsl) (hs : allScal l = true) (hb : sn v * bytes ≤ 140737488355328) (hb2 : sn v ≤ 1152921504606846976)
 (K : ∀ r H2, Copied H e l r H2 → (∀ n, sn v = n + 1 → ∃ b, r = .sl b 0 (n + 1) none ∧ H.n ≤ b ∧ b < H2.n ∧ Cs H2 b false e l) → W (c r H2) Q) : W (pN (aBsl e 0 zs []) H fun t5 H => pW (aApp e bytes H t5 v) c) Q := by
 refine W_bsl w (l := []) (by simp) (by omega) (by simp) fun H1 u1 n1 c1 => ?_
 rcases h with ⟨rfl, rfl⟩ | ⟨b, o, n, q, cs, rfl, h2, h3, h4, h5, h6⟩
 · exact absurd rfl hv
 · obtain ⟨tb, b1, b2, b3⟩ := h3.nu w u1
   obtain ⟨t1, a1, a2, a3⟩ := c1
   cases n with
   | zero =>
    simp only [aApp, aSrc, pW_eq, ob2_some]
    have hl : l = [] := List.eq_nil_of_length_eq_zero (by omega)
    subst hl
    exact K _ _ ⟨u1, .inr ⟨H.n, 0, 0, some 0, [], rfl, fun c e => by cases e; omega, ⟨t1, a1, a2, a3⟩, by simp, by simp, fun i hi => by omega⟩, fun b e => by cases e; exact Nat.le_refl _⟩ (fun n e => by cases e)
   | succ n =>
    have hrd : tb.rdN o (Nat.mul (n + 1) e) = some l := by
     have := rdN_of (t := tb) (l := l) (o := o) fun i hi => by rw [b3]; exact h6 i (by omega)
     rwa [h4] at this
    have e0 : Nat.add 0 (n + 1) = n + 1 := Nat.zero_add _
    have hneed : okNeed bytes (n + 1) = true := by unfold okNeed; simp only [ble_dec, Bool.and_eq_true, decide_eq_true_eq]; exact ⟨by simpa [sn] using hb2, by simpa [sn] using hb⟩
    have c0 : Nat.ble (n + 1) 0 = false := rfl
    have r0 : t1.rdN 0 (Nat.mul 0 e) = some [] := by rw [show Nat.mul 0 e = 0 from Nat.zero_mul e]; rfl
    simp only [aApp, aSrc, b1, hrd, hs, cond_true, e0, hneed, aAppSl, a1, c0, cond_false, r0, List.nil_append, pW_eq, ob2_some]
    have hnew := Cs.new u1.wf false e l
    rw [h4] at hnew
    refine K _ _ ⟨u1.trans (Nu.add u1.wf _), SV.of hnew h4 (fun c e => nomatch e), fun b e => by cases e; omega⟩ fun n' e' => ⟨H1.n, ?_, u1.n, by simp, hnew⟩
    have : n' = n := by simp only [sn] at e'; omega
    subst this
    rfl
@[simp] theorem aEq_sn (b o n : Nat) (q : Option Nat) : aEq false .sl (.sl b o n q) .nilsl = some (.bool false) := rfl
@[simp] theorem aEq_nn' : aEq false .sl .nilsl .nilsl = some (.bool true) := rfl
theorem SV.nilv {e : Nat} {l : List AV} (h : SV H .nilsl e l) : l = [] := by
 rcases h with ⟨_, e⟩ | ⟨b, o, n, q, cs, e, _⟩
 · exact e
 · cases e
theorem SV.nn {e : Nat} {l : List AV} (h : SV H v e l) (c : v ≠ .nilsl) : aEq false .sl v .nilsl = some (.bool false) := by
 rcases h with ⟨e, _⟩ | ⟨b, o, n, q, cs, rfl, _⟩
 · exact absurd e c
 · rfl
theorem clone_int64 (F : Free pr) (n : Nat) (w : WF H) {l : List Int} (h : SV H v 1 (l.map I)) (hb : l.length ≤ 10000000) :
 W (VE pr (n + 1) n98 [v] H) fun r H' => Copied H 1 (l.map I) r H' := by
 refine W_of (U98 pr (F _ (by decide)) n _ _) ?_
 have hsn := h.num
 simp at hsn
 unfold S98_0
 by_cases c : v = .nilsl
 · subst c
   have : l = [] := by simpa using h.nilv
   subst this
   simp -implicitDefEqProofs
   exact ⟨.refl w, .nil _ _, fun b e => by cases e⟩
 · have := h.nn c
   simp only [this, pO_eq, ob_some, onBool_false]
   exact W_clone w h (by omega) c (allScal_map _ (fun _ => rfl) _) (by omega) (by omega) fun r H2 q _ => by simpa using q
theorem clone_int1 (F : Free pr) (n : Nat) (w : WF H) {b : Nat} {x : Int} {q : Option Nat} (c : Cs H b false 1 [I x]) (hq : ∀ c, q = some c → c ≤ 1) :
 W (VE pr (n + 1) n246 [.sl b 0 1 q] H) fun r H' => ∃ b', r = .sl b' 0 1 none ∧ H.n ≤ b' ∧ b' < H'.n ∧ Nu H H' ∧ Cs H' b' false 1 [I x] := by
 refine W_of (U246 pr (F _ (by decide)) n _ _) ?_
 unfold S246_0
 simp only [aEq_sn, pO_eq, ob_some, onBool_false]
 refine W_clone w (SV.of (n := 1) c rfl hq) (by omega) (by simp) rfl (by simp -implicitDefEqProofs [sn]) (by simp -implicitDefEqProofs [sn]) fun r H2 q e => ?_
 obtain ⟨b', rfl, e1, e2, e3⟩ := e 0 rfl
 simp only [W_some]
 exact ⟨b', rfl, e1, e2, q.1, e3⟩
theorem clone_Act (F : Free pr) (n : Nat) (w : WF H) {l : List Act} (h : SV H v 7 (l.flatMap Act.cells)) (hb : l.length ≤ 10000000) :
 W (VE pr (n + 1) n114 [v] H) fun r H' => Copied H 7 (l.flatMap Act.cells) r H' := by
 refine W_of (U114 pr (F _ (by decide)) n _ _) ?_
 have hsn := h.num
 rw [flatK_len (k := 7) (fun _ => rfl)] at hsn
 unfold S114_0
 by_cases c : v = .nilsl
 · subst c
   rw [h.nilv]
   simp -implicitDefEqProofs
   exact ⟨.refl w, .nil _ _, fun b e => by cases e⟩
 · have := h.nn c
   simp only [this, pO_eq, ob_some, onBool_false]
   exact W_clone w h (by omega) c (allScal_flatMap _ (fun _ => rfl) _) (by omega) (by omega) fun r H2 q _ => by simpa using q
theorem frame_clone (F : Free pr) (n : Nat) (w : WF H) {l : List Int} (h : SV H v 1 (l.map I)) (hb : l.length ≤ 10000000) (a b : Int) :
 W (VE pr (n + 2) n171 [.agg [I a, I b, v]] H) fun r H' => ∃ v', r = .agg [I a, I b, v'] ∧ Copied H 1 (l.map I) v' H' := by
 refine W_of (U171 pr (F _ (by decide)) (n + 1) _ _) ?_
 unfold S171_0
 refine W_box w fun H1 u1 n1 c1 => ?_
 refine W_new u1.wf fun H2 u2 n2 c2 => ?_
 have c1' := c1.nu u1.wf u2
 simp -implicitDefEqProofs [c1'.rd, -stK_int]
 have u := u1.trans u2
 refine W_pC (clone_int64 F n u2.wf (h.same fun b e => u.old b (h.lt w e)) hb) fun v' H3 ⟨u3, s3, f3⟩ => ?_
 have c1'' := c1'.nu u2.wf u3
 have hsc : allScal v'.cells = true ∧ v'.cells.length = 1 ∧ v'.cells = [v'] := by
  rcases s3 with ⟨rfl, _⟩ | ⟨b, o, n, q, cs, rfl, _⟩ <;> simp
 refine W_st c1'' hsc.1 hsc.2.1 (by simp) fun H4 t4 c4 => ?_
 rw [hsc.2.2] at c4
 simp at c4
 have := c4.rds 0 3 (by simp)
 simp -implicitDefEqProofs [this]
 have hne : H1.n ≠ H.n := by omega
 have c2' := t4.cs (c2.nu u2.wf u3) hne
 have hsc2 : isScal v' = true := by have := hsc.1; rw [hsc.2.2] at this; simpa using this
 refine W_st c2' (x := .agg [I a, I b, v']) (by simp -implicitDefEqProofs [hsc2]) rfl (by simp) fun H5 t5 c5 => ?_
 simp at c5
 have := c5.rds 0 3 (by simp)
 simp -implicitDefEqProofs [this, resV]
 refine ⟨((u.trans u3).tu t4 (by omega)).tu t5 (by omega), s3.same fun b e => ?_, fun b e => by have := f3 b e; have := u.n; omega⟩
 have := f3 b e
 rw [t5.old b (by omega), t4.old b (by omega)]
theorem frame_Top (F : Free pr) (n : Nat) (h : M B Z m L s H) (hg : s.gs = some fs) (hk : fs.length = k + 1) (hf : fs[k]? = some f) (hb : k < 256) (hb2 : f.slots.length ≤ 10000000) :
 W (VE pr (n + 3) n110 [.ptr B.st 0] H) fun r H' => ∃ v', r = .tup [.agg [I f.fn, I f.pc, v'], .bool true] ∧ Copied H 1 (f.slots.map I) v' H' := by
 refine W_of (U110 pr (F _ (by decide)) (n + 2) _ _) ?_
 unfold S110_0
 refine W_new h.wf fun H1 u1 n1 c1 => ?_
 have h1 := h.nu u1
 obtain ⟨v, t⟩ := TopF.re h1 hg hk hf
 simp -implicitDefEqProofs [pC, frame_top F (n + 1) h1 hg t hb, t.rs, -stK_int]
 refine W_ob2i (frame_clone F n h1.wf t.sv hb2 f.fn f.pc) fun _ H2 ⟨v', e, u2, s2, f2⟩ => ?_
 subst e
 have hsc2 : isScal v' = true := by rcases s2 with ⟨rfl, _⟩ | ⟨b, o, n, q, cs, rfl, _⟩ <;> rfl
 refine W_st (c1.nu u1.wf u2) (x := .agg [I f.fn, I f.pc, v']) (by simp -implicitDefEqProofs [hsc2]) rfl (by simp) fun H3 t3 c3 => ?_
 simp at c3
 have := c3.rds 0 3 (by simp)
 simp -implicitDefEqProofs [this, resV]
 refine ⟨(u1.trans u2).tu t3 (by omega), s2.same fun b e => t3.old b (by have := f2 b e; omega), fun b e => by have := f2 b e; omega⟩
@[simp] theorem guardA_U (t : Bool) (a b : R) : guardA U t a b = b := by cases t <;> rfl
def isAct (op depth : Int) : Bool := (decide (23 ≤ op) && decide (op ≤ 42) && !decide (op = 36)) || (decide (op = 22) && decide (depth = 1))
theorem vm_isAct (F : Free pr) (n : Nat) (op d : Int) (H : AHeap) : VE pr (n + 1) n111 [I op, I d] H = some (.bool (isAct op d), H) := by
 refine (U111 pr (F _ (by decide)) n _ _ _).trans ?_
 unfold isAct
 by_cases a : 23 ≤ op
 · have : ¬ (op = 22) := by omega
   by_cases b : op ≤ 42 <;> by_cases c : op = 36 <;> simp -implicitDefEqProofs [S111_0, S111_1, S111_2, S111_3, S111_4, S111_5, a, b, c, this]
 · by_cases b : op = 22 <;> by_cases c : d = 1 <;> simp -implicitDefEqProofs [S111_0, S111_1, S111_2, S111_3, S111_4, S111_5, a, b, c]
end
end
noncomputable section
set_option maxRecDepth 100000
section
variable {pr : Prims} {B : Bx} {Z : Nat → Prop} {m : Mo} {L : Lay} {s : St} {H H' : AHeap} {fs : List Fr} {k : Nat} {f : Fr} {v : AV}
abbrev Srt (pr : Prims) : Prop := pr n242 = some (primSorted n350)
theorem evH_pr {tab : Nat → Option Ff} {prim : Prims} {n f : Nat} {p : List AV → AHeap → R} (hp : prim f = some p) (args : List AV) (H : AHeap) : evH tab prim (n + 1) f args H = p args H := by
 show (Option.rec (motive := fun _ => R) (ob (tab f) fun ff => ff.run (evH tab prim n) args H) (fun p => p args H) (prim f) : R) = _
 rw [hp]
def New1 (H : AHeap) (x : Int) (r : AV) (H' : AHeap) : Prop := ∃ b, r = .sl b 0 1 none ∧ H.n ≤ b ∧ b < H'.n ∧ Nu H H' ∧ Cs H' b false 1 [I x]
theorem sched_IDs (F : Free pr) (SP : Srt pr) (n : Nat) (h : M B Z m L s H) (hg : s.gs = some fs) :
 W (VE pr (n + 2) n159 [.ptr B.sd 0] H) fun r H' => New1 H 1 r H' := by
 refine W_of (U159 pr (F _ (by decide)) (n + 1) _ _) ?_
 simp -implicitDefEqProofs [S159_0, h.sd.rd]
 refine W_ob2i (Q0 := fun v H' => v = .fn n350 [] [.ptr H.n 0] ∧ H'.n = H.n + 1 ∧ Nu H H' ∧ Cs H' H.n false 0 [.map B.sm]) (W_of (U243 pr (F _ (by decide)) n _ _) ?_) ?_
 · unfold S243_0
   refine W_box h.wf fun H1 u1 n1 c1 => ?_
   simp -implicitDefEqProofs
   exact ⟨n1, u1, c1⟩
 · rintro _ H1 ⟨rfl, n1, u1, c1⟩
   obtain ⟨⟨a, ck, e1, e2⟩, _⟩ := (h.nu u1).fr hg
   obtain ⟨t, c1, c2, c3⟩ := c1
   have c4 := c3 0
   have k1 : (Nat.ble 1 1000000 && (cond (Nat.ble 0 a && Nat.ble (Nat.succ a) ck) true false)) = true := by
    simp -implicitDefEqProofs [ble_dec]; omega
   have : VE pr (n + 1) n242 [.fn n350 [] [.ptr H.n 0]] H1 = some (.sl H1.n 0 1 none, H1.add (.cells false 1 1 (Tr.ofList [I 1]))) := by
    refine (evH_pr SP _ _).trans ?_
    show primSorted n350 _ H1 = _
    unfold primSorted
    simp only [c1, c4, e1, List.getElem?_cons_zero]
    simp only [List.length_cons, List.length_nil, bornUp, keysI]
    simp -implicitDefEqProofs [ble_dec, kindEq, insI, okKs, risesI, sortedTo, intAVs, ile_eq, show a + 1 ≤ ck by omega]
   simp -implicitDefEqProofs [this, pC]
   exact ⟨H1.n, rfl, u1.n, by simp, u1.trans (Nu.add u1.wf _), Cs.new u1.wf false 1 [I 1]⟩
theorem delete_none (F : Free pr) (n : Nat) {b : Nat} {x : Int} {g : AV} (_w : WF H) (c : Cs H b false 1 [I x]) (q : Option Nat)
 (hg : ∀ (c : Kv) (Q : AV → AHeap → Prop), (∀ H2, Nu H H2 → W (c (.bool false) H2) Q) → W (pV (VE pr n) g [I x] H c) Q) :
 W (VE pr (n + 2) n158 [.sl b 0 1 q, g] H) fun r H' => r = .sl b 0 1 q ∧ Nu H H' := by
 refine W_of (U158 pr (F _ (by decide)) (n + 1) _ _ _) ?_
 unfold S158_3
 refine W_pC (Q0 := fun r H' => r = I (-1) ∧ Nu H H') (W_of (U241 pr (F _ (by decide)) n _ _ _) ?_) ?_
 · unfold S241_1
   generalize e : (1000000 : Nat) = mm
   obtain ⟨mm, rfl⟩ : ∃ k, mm = k + 2 := ⟨mm - 2, by omega⟩
   simp only [aLen_sl, pO_eq, ob_some]
   rw [L241_0]
   have h0 : pIa 1 (.sl b 0 1 q) (.int .i64 (0 : Int)) H = fun c => c (.ptr b 0) H := by
    funext c
    exact pIa_at (n := 0) (by omega)
   simp -implicitDefEqProofs [h0, c.rd]
   refine hg _ _ fun H2 u2 => ?_
   simp -implicitDefEqProofs
   rw [L241_0]
   simp -implicitDefEqProofs [wrap64 (n := 1) (by omega) (by omega)]
   exact u2
 · rintro _ H2 ⟨rfl, u2⟩
   simp -implicitDefEqProofs
   exact u2
theorem delete_one (F : Free pr) (n : Nat) {b : Nat} {x : Int} {g : AV} (w : WF H) (c : Cs H b false 1 [I x])
 (hg : ∀ (c : Kv) (Q : AV → AHeap → Prop), (∀ H2, Nu H H2 → W (c (.bool true) H2) Q) → W (pV (VE pr n) g [I x] H c) Q) :
 W (VE pr (n + 2) n158 [.sl b 0 1 none, g] H) fun r H' => r = .sl b 0 0 none ∧ ∃ H2, Nu H H2 ∧ Tu b H2 H' := by
 refine W_of (U158 pr (F _ (by decide)) (n + 1) _ _ _) ?_
 unfold S158_3
 refine W_pC (Q0 := fun r H' => r = I 0 ∧ Nu H H') (W_of (U241 pr (F _ (by decide)) n _ _ _) ?_) ?_
 · unfold S241_1
   generalize e : (1000000 : Nat) = mm
   obtain ⟨mm, rfl⟩ : ∃ k, mm = k + 2 := ⟨mm - 2, by omega⟩
   simp only [aLen_sl, pO_eq, ob_some]
   rw [L241_0]
   have h0 : pIa 1 (.sl b 0 1 none) (.int .i64 (0 : Int)) H = fun c => c (.ptr b 0) H := by
    funext c
    exact pIa_at (n := 0) (by omega)
   simp -implicitDefEqProofs [h0, c.rd]
   refine hg _ _ fun H2 u2 => ?_
   simp -implicitDefEqProofs
   exact u2
 · rintro _ H2 ⟨rfl, u2⟩
   generalize e : (1000000 : Nat) = mm
   obtain ⟨mm, rfl⟩ : ∃ k, mm = k + 2 := ⟨mm - 2, by omega⟩
   simp -implicitDefEqProofs [wrap64 (n := 1) (by omega) (by omega)]
   rw [L158_1]
   simp -implicitDefEqProofs [S158_0]
   obtain ⟨t, c1, c2, c3⟩ := c.nu w u2
   have c1 : H2.get b = some (.cells false 1 1 t) := c1
   have c2 : t.Full 1 := c2
   have hb10 : Nat.beq 1 0 = false := rfl
   have s1 : aSlice 1 H2 (.sl b 0 1 none) (.some (.int .i64 (0 : Int))) .none .none = some (.sl b 0 1 none) := by
    simp -implicitDefEqProofs [aSlice, aOpt, aNat, c1, ble_dec]
   obtain ⟨t', e1, e2, e3⟩ := wrN_of (l := [.int .i64 (0 : Int)]) (o := 0) c2 (by simp)
   have s2 : aClearS [.int .i64 (0 : Int)] H2 (.sl b 0 1 none) = some (H2.put b (.cells false 1 1 t')) := by
    simp -implicitDefEqProofs [aClearS, c1, e1, hb10]
   have s3 : aSlice 1 (H2.put b (.cells false 1 1 t')) (.sl b 0 1 none) .none (.some (.int .i64 (0 : Int))) .none = some (.sl b 0 0 none) := by
    have : (H2.put b (.cells false 1 1 t')).get b = some (.cells false 1 1 t') := by rw [put_get c1, if_pos rfl]
    simp -implicitDefEqProofs [aSlice, aOpt, aNat, this, ble_dec]
   simp -implicitDefEqProofs [s1, s2, s3, unitW]
   exact ⟨H2, u2, rfl, fun w => w.put _ _, fun b' hb => by rw [put_get c1, if_neg hb]⟩
end
end
noncomputable section
set_option maxRecDepth 100000
@[simp] theorem beq_ptr (b o : Nat) : AV.beq (.ptr b o) (.ptr b o) = true := by simp -implicitDefEqProofs [AV.beq]
@[simp] theorem beq_int (k : IntKind) (n : Int) : AV.beq (.int k n) (.int k n) = true := by cases k <;> simp -implicitDefEqProofs [AV.beq, kindEq, ieq_eq]
theorem SV.beq {H : AHeap} {v : AV} {e : Nat} {l : List AV} (h : SV H v e l) : AV.beq v v = true := by
 rcases h with ⟨rfl, _⟩ | ⟨b, o, n, q, cs, rfl, _⟩
 · rfl
 · cases q <;> simp -implicitDefEqProofs [AV.beq, capEq]
def wr (v : Int) : Int := (IntKind.i64.wrap (v * 2)).fdiv 2
theorem bits_Wrap {pr : Prims} (F : Free pr) (n : Nat) (v : Int) (H : AHeap) : VE pr (n + 1) n182 [I v] H = some (I (wr v), H) := by
 refine (U182 pr (F _ (by decide)) n _ _).trans ?_
 have h1 := aBin_shl .i64 .u64 v 1
 have h2 := aBin_shr .i64 .u64 (IntKind.i64.wrap (v * 2)) 1
 simp -implicitDefEqProofs [IntKind.bits] at h1 h2
 simp -implicitDefEqProofs [S182_0, h1, h2, wr]
def reck (op a b : Int) : Option Int :=
 if op = 3 then some (wr (IntKind.i64.wrap (a + b))) else if op = 4 then some (wr (IntKind.i64.wrap (a - b))) else if op = 5 then some (wr (IntKind.i64.wrap (a * b)))
 else if op = 13 then some (if a < b then 1 else 0) else if op = 14 then some (if a ≤ b then 1 else 0) else if op = 15 then some (if a = b then 1 else 0) else if op = 16 then some (if a = b then 1 else 0) else none
theorem vm_one {pr : Prims} (F : Free pr) (n : Nat) (b : Bool) (H : AHeap) : VE pr (n + 1) n259 [.bool b] H = some (I (if b then 1 else 0), H) := by
 refine (U259 pr (F _ (by decide)) n _ _).trans ?_
 cases b <;> simp -implicitDefEqProofs [S259_0]
theorem vm_reckon {pr : Prims} (F : Free pr) (n : Nat) {op a b w : Int} (h : reck op a b = some w) (H : AHeap) : VE pr (n + 3) n261 [I op, I a, I b] H = some (.tup [I w, .bool true], H) := by
 refine (U261 pr (F _ (by decide)) (n + 2) _ _ _ _).trans ?_
 have e1 : ∀ x y : Int, VE pr (n + 2) n367 [I x, I y] H = some (I (wr (IntKind.i64.wrap (x + y))), H) := fun x y => by
  refine (U367 pr (F _ (by decide)) (n + 1) _ _ _).trans ?_
  simp -implicitDefEqProofs [S367_0, pC, bits_Wrap F n]
 have e2 : ∀ x y : Int, VE pr (n + 2) n368 [I x, I y] H = some (I (wr (IntKind.i64.wrap (x - y))), H) := fun x y => by
  refine (U368 pr (F _ (by decide)) (n + 1) _ _ _).trans ?_
  simp -implicitDefEqProofs [S368_0, pC, bits_Wrap F n]
 have e3 : ∀ x y : Int, VE pr (n + 2) n369 [I x, I y] H = some (I (wr (IntKind.i64.wrap (x * y))), H) := fun x y => by
  refine (U369 pr (F _ (by decide)) (n + 1) _ _ _).trans ?_
  simp -implicitDefEqProofs [S369_0, pC, bits_Wrap F n]
 unfold reck at h
 by_cases h3 : op = 3
 · subst h3; simp at h; subst h; simp -implicitDefEqProofs [S261_0, pC, e1]
 by_cases h4 : op = 4
 · subst h4; simp at h; subst h; simp -implicitDefEqProofs [S261_0, pC, e2]
 by_cases h5 : op = 5
 · subst h5; simp at h; subst h; simp -implicitDefEqProofs [S261_0, pC, e3]
 by_cases h13 : op = 13
 · subst h13; simp at h; subst h; simp -implicitDefEqProofs [S261_0, pC, vm_one F (n + 1)]
 by_cases h14 : op = 14
 · subst h14; simp at h; subst h; simp -implicitDefEqProofs [S261_0, pC, vm_one F (n + 1)]
 by_cases h15 : op = 15
 · subst h15; simp at h; subst h; simp -implicitDefEqProofs [S261_0, pC, vm_one F (n + 1)]
 by_cases h16 : op = 16
 · subst h16; simp at h; subst h; simp -implicitDefEqProofs [S261_0, pC, vm_one F (n + 1)]
 · simp -implicitDefEqProofs [h3, h4, h5, h13, h14, h15, h16] at h
section
variable {pr : Prims} {B : Bx} {Z : Nat → Prop} {m : Mo} {L L' : Lay} {s s' : St} {H H' : AHeap} {fs : List Fr} {k : Nat} {f : Fr} {v : AV} {d : Nat} {i : Ins} {u : Fu} {w : FV} {pc : Int}
def doCells (B : Bx) (i : Ins) (u : Fu) (w : FV) (pc : Int) : List AV := [.ptr B.v 0, I 1, .ptr B.st 0, I i.op, I i.a, I i.b, I i.c, I i.d, I u.params, I u.caught, I u.slots, I u.result, w.k, w.c, w.m, I pc, I (-1), I 0, I (-1)]
structure Dg (B : Bx) (Z : Nat → Prop) (m : Mo) (L : Lay) (s : St) (H : AHeap) (d : Nat) (i : Ins) (u : Fu) (w : FV) (pc : Int) (fs : List Fr) (k : Nat) (f : Fr) : Prop where
 h : M B Z m L s H
 hg : s.gs = some fs
 hk : fs.length = k + 1
 hf : fs[k]? = some f
 hb : k < 256
 c : Cs H d false 0 (doCells B i u w pc)
 dl : d < H.n
 dn : ∀ r, pl B L r ≠ some d
theorem Dg.go (q : Dg B Z m L s H d i u w pc fs k f) {fs' : List Fr} {f' : Fr} (g : Go B L H L' H') (h' : M B Z m L' s' H') (hg : s'.gs = some fs') (hk : fs'.length = k + 1) (hf : fs'[k]? = some f') : Dg B Z m L' s' H' d i u w pc fs' k f' :=
 let ⟨a, b, c⟩ := g.keep q.dl q.dn
 ⟨h', hg, hk, hf, q.hb, q.c.same a, b, c⟩
theorem Dg.nu (q : Dg B Z m L s H d i u w pc fs k f) (u1 : Nu H H') : Dg B Z m L s H' d i u w pc fs k f := q.go u1.go (q.h.nu u1) q.hg q.hk q.hf
theorem Dg.turned (q : Dg B Z m L s H d i u w pc fs k f) {f' : Fr} (g : Go B L H L' H') (h' : M B Z m L' (s.top fs k f') H') : Dg B Z m L' (s.top fs k f') H' d i u w pc (fs.set k f') k f' :=
 q.go g h' rfl (by simpa using q.hk) (by have := q.hk; rw [List.getElem?_set_self (by omega)])
theorem Dg.top (q : Dg B Z m L s H d i u w pc fs k f) : ∃ v, TopF H L fs k f v := (q.h.fr q.hg).top q.hk q.hf
def Fr.to (f : Fr) (x : Int) : Fr := { f with pc := x }
theorem St.top_top (s : St) (fs : List Fr) (k : Nat) (f f' : Fr) : (s.top fs k f).top (fs.set k f) k f' = s.top fs k f' := by simp -implicitDefEqProofs [St.top]
theorem doing_on (F : Free pr) (n : Nat) (q : Dg B Z m L s H d i u w pc fs k f) (hp : 0 ≤ pc) (hp2 : pc ≤ 1000000) :
 W (VE pr (n + 3) n177 [.ptr d 0] H) fun r H' => Ex B Z m L H (.tup []) (s.top fs k (f.to (pc + 1))) r H' := by
 refine W_of (U177 pr (F _ (by decide)) (n + 2) _ _) ?_
 obtain ⟨v, t⟩ := q.top
 simp -implicitDefEqProofs [S177_0, q.c.rd, doCells, wrap64 (n := pc + 1) (by omega) (by omega)]
 refine W_ob2i (frame_Jump F n q.h q.hg t q.hb (pc + 1)) fun r H1 hx => ?_
 simp -implicitDefEqProofs
 exact ⟨rfl, hx.2⟩
theorem doing_give (F : Free pr) (n : Nat) (q : Dg B Z m L s H d i u w pc fs k f) (hp : 0 ≤ pc) (hp2 : pc ≤ 1000000) (x : Int) :
 W (VE pr (n + 4) n258 [.ptr d 0, I x] H) fun r H' => Ex B Z m L H (.tup []) (s.top fs k ((f.set i.a x).to (pc + 1))) r H' := by
 refine W_of (U258 pr (F _ (by decide)) (n + 3) _ _ _) ?_
 obtain ⟨v, t⟩ := q.top
 simp -implicitDefEqProofs [S258_0, q.c.rd, doCells]
 refine W_ob2i (frame_Set F (n + 1) q.h q.hg t q.hb i.a x) fun r H1 hx => ?_
 obtain ⟨rfl, L1, g1, h1⟩ := hx
 refine W_pC (doing_on F n (q.turned g1 h1) hp hp2) fun r H2 hx => ?_
 simp -implicitDefEqProofs
 rw [St.top_top] at hx
 exact ⟨rfl, (Ex.next g1 hx).2⟩
def plainTo (m : Mo) (i : Ins) (f : Fr) (pc : Int) : Option Fr :=
 if i.op = 0 then (if 0 ≤ i.b then m.consts[i.b.toNat]? else none).map fun w => (f.set i.a w).to (pc + 1)
 else if i.op = 1 then some ((f.set i.a (f.get i.b)).to (pc + 1))
 else if i.op = 2 then some ((f.set i.a 0).to (pc + 1))
 else if i.op = 17 then some ((f.set i.a (if f.get i.b = 0 then 1 else 0)).to (pc + 1))
 else if i.op = 18 then some (f.to i.a)
 else if i.op = 19 then some (f.to (if f.get i.a = 0 then pc + 1 else i.b))
 else if i.op = 43 then some (f.to (pc + 1))
 else (reck i.op (f.get i.b) (f.get i.c)).map fun w => (f.set i.a w).to (pc + 1)
end
end
noncomputable section
set_option maxRecDepth 100000
section
variable {pr : Prims} {B : Bx} {Z : Nat → Prop} {m : Mo} {L L' : Lay} {s s' : St} {H H' : AHeap} {fs : List Fr} {k : Nat} {f : Fr} {v : AV} {d : Nat} {i : Ins} {u : Fu} {w : FV} {pc : Int}
theorem doing_plain (F : Free pr) (n : Nat) (q : Dg B Z m L s H d i u w pc fs k f) (hp : 0 ≤ pc) (hp2 : pc ≤ 1000000) {f' : Fr} (e : plainTo m i f pc = some f') :
 W (VE pr (n + 5) n172 [.ptr d 0] H) fun r H' => Ex B Z m L H (.tup []) (s.top fs k f') r H' := by
 refine W_of (U172 pr (F _ (by decide)) (n + 4) _ _) ?_
 have r3 := q.c.rds 3 5 (by simp -implicitDefEqProofs [doCells])
 simp -implicitDefEqProofs [S172_0, q.c.rd, doCells, r3, -stK_int]
 simp only [doCells, List.drop_succ_cons, List.drop_zero, List.take_succ_cons, List.take_zero] at r3
 refine W_var q.h.wf (x := .agg [I i.op, I i.a, I i.b, I i.c, I i.d]) (by rfl) (by rfl) (by rfl) fun H1 u1 n1 c1 => ?_
 have q1 := q.nu u1
 obtain ⟨v, t⟩ := q1.top
 have gt := fun x => frame_Get F (n + 2) q1.h q1.hg t q1.hb x
 simp only [cells_agg] at c1
 have giv : ∀ x, W (VE pr (n + 4) n258 [.ptr d 0, I x] H1) fun r H' => Ex B Z m L H (.tup []) (s.top fs k ((f.set i.a x).to (pc + 1))) r H' :=
  fun x => (doing_give F n q1 hp hp2 x).mono fun r H2 hx => Ex.next u1.go hx
 have fin : ∀ {x : Fr} {r : AV} {H2 : AHeap}, Ex B Z m L H (.tup []) (s.top fs k x) r H2 → x = f' → W (some (.tup [], H2)) fun r H' => Ex B Z m L H (.tup []) (s.top fs k f') r H' := fun hx e => by
  subst e; simp; exact ⟨rfl, hx.2⟩
 unfold plainTo at e
 simp -implicitDefEqProofs [c1.rd, q1.c.rd, doCells]
 by_cases o0 : i.op = 0
 · simp only [o0, if_true] at e
   by_cases b0 : 0 ≤ i.b
   · cases hc : m.consts[i.b.toNat]? with
     | none => simp -implicitDefEqProofs [b0, hc] at e
     | some w0 =>
      simp -implicitDefEqProofs [b0, hc] at e
      have hl := (List.getElem?_eq_some_iff.1 hc).1
      have mc := q1.h.md.mc.1
      have mn := mc.num
      simp at mn
      have hr := mc.rd (j := i.b.toNat) (by simpa using hl)
      simp -implicitDefEqProofs [hc] at hr
      simp -implicitDefEqProofs [o0, q1.h.v.rd, mc.ia (k := .i64) (x := i.b) b0 (by omega), hr]
      exact W_pC (giv w0) fun r H2 hx => fin hx e
   · simp -implicitDefEqProofs [b0] at e
 by_cases o1 : i.op = 1
 · simp -implicitDefEqProofs [o1] at e
   simp -implicitDefEqProofs [o1, pC, gt]
   exact W_ob2i (giv _) fun r H2 hx => fin hx e
 by_cases o2 : i.op = 2
 · simp -implicitDefEqProofs [o2] at e
   simp -implicitDefEqProofs [o2]
   exact W_pC (giv _) fun r H2 hx => fin hx e
 by_cases o17 : i.op = 17
 · simp -implicitDefEqProofs [o17] at e
   simp -implicitDefEqProofs [o17, pC, gt, vm_one F (n + 3)]
   exact W_ob2i (giv _) fun r H2 hx => fin hx e
 by_cases o18 : i.op = 18
 · simp -implicitDefEqProofs [o18] at e
   simp -implicitDefEqProofs [o18]
   exact W_pC ((frame_Jump F (n + 2) q1.h q1.hg t q1.hb i.a).mono fun r H2 hx => Ex.next u1.go hx) fun r H2 hx => fin hx e
 by_cases o19 : i.op = 19
 · simp -implicitDefEqProofs [o19] at e
   simp -implicitDefEqProofs [o19]
   refine W_pC (doing_on F (n + 1) q1 hp hp2) fun r H2 hx => ?_
   obtain ⟨rfl, L2, g2, h2⟩ := hx
   have q2 := q1.turned g2 h2
   have c2 := c1.same (g2.keep (by omega : H.n < H1.n) fun r e => by have := q.h.lt r _ e; omega).1
   obtain ⟨v2, t2⟩ := q2.top
   have gt2 := fun x => frame_Get F (n + 2) q2.h q2.hg t2 q2.hb x
   have gto : ∀ x, (f.to (pc + 1)).get x = f.get x := fun x => rfl
   by_cases z : f.get i.a = 0
   · simp -implicitDefEqProofs [z] at e
     simp -implicitDefEqProofs [c2.rd, pC, gt2, gto, z]
     subst e; exact ⟨rfl, L2, u1.go.trans g2, h2⟩
   · simp -implicitDefEqProofs [z] at e
     simp -implicitDefEqProofs [c2.rd, pC, gt2, gto, z]
     refine W_ob2i (frame_Jump F (n + 2) q2.h q2.hg t2 q2.hb i.b) fun r H3 hx => ?_
     rw [St.top_top] at hx
     exact fin (Ex.next (u1.go.trans g2) hx) e
 by_cases o43 : i.op = 43
 · simp -implicitDefEqProofs [o43] at e
   simp -implicitDefEqProofs [o43]
   exact W_pC ((doing_on F (n + 1) q1 hp hp2).mono fun r H2 hx => Ex.next u1.go hx) fun r H2 hx => fin hx e
 simp -implicitDefEqProofs [o0, o1, o2, o17, o18, o19, o43] at e
 obtain ⟨w0, e1, e2⟩ := e
 simp -implicitDefEqProofs [o0, o1, o2, o17, o18, o19, o43, pC, gt, c1.rd, vm_reckon F (n + 1) e1]
 exact W_ob2i (giv _) fun r H2 hx => fin hx e2
end
end
end Go.Proofs.YtlmcgeiacfbdnaaGreatDoor
