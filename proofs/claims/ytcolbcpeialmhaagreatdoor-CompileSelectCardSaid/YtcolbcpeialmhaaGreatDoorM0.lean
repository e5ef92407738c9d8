/- The machine's steps; a run; what a law does with it. -/
import Derived.Test.YtcolbcpeialmhaaGreatDoorA5
import Derived.Test.YtcolbcpeialmhaaGreatDoorVU
namespace Go.Proofs.YtcolbcpeialmhaaGreatDoor
open Go.Ab
noncomputable section
set_option maxRecDepth 100000
abbrev I (n : Int) : AV := .int .i64 n
abbrev U (n : Int) : AV := .int .u64 n
abbrev P (b : Nat) : AV := .ptr b 0
abbrev S (b n : Nat) : AV := .sl b 0 n none
abbrev N : AV := .nilif
abbrev Ls : AV := .nilsl
def Hk (v : AV) : Bool := AV.beq v (I 1)
def Hi (v : AV) : Bool := AV.beq v (I 2)
def Hl (v : AV) : Bool := AV.beq v (I 0)
def mvs (E : aa) (h : AHeap) : List (AV × AHeap) := match E n55 [.ptr 4 0] h with
 | some (.tup [en, _], h1) => cond (Hl en) (match E n56 [.ptr 4 0] h1 with
  | some (.sl b 0 1 _q, h2) => (match h2.rd b 0 with
   | some id => (match E n57 [.ptr 4 0] h2 with
    | some c => (match E n59 [.ptr 4 0, id] h2 with
     | some (w, h3) => (match h3.rd b 0 with
      | some id2 => cond (AV.beq id2 id) (match E n58 [.ptr 4 0, id, I 0] h3 with
       | some x => cond (Hk w) [c, x] (cond (Hi w) (match E n58 [.ptr 4 0, id, I 1] h3 with
        | some y => [c, x, y]
        | none => []) [])
       | none => []) []
      | none => [])
     | none => [])
    | none => [])
   | none => [])
  | _ => []) (match en with
   | .int .i64 _ => [(.bool false, h1)]
   | _ => [])
 | _ => []
theorem Lu {pr : di} (hp : pr n24 = none) (n : Nat) {h : AHeap} (hm : mvs (VE pr n) h ≠ []) (p : Nat) (hpb : p ≤ 1000000000) : ∃ x ∈ mvs (VE pr n) h, VE pr (n + 1) n24 [.ptr 4 0, .int .i64 (p : Int)] h = some x := by
 have hU := U24 pr hp n (.ptr 4 0) (.int .i64 (p : Int)) h
 rw [hU]
 generalize VE pr n = E at hm ⊢
 unfold mvs at hm ⊢
 cases e0 : E n55 [.ptr 4 0] h with
 | none => rw [e0] at hm; exact absurd rfl hm
 | some x0 =>
  obtain ⟨v0, h1⟩ := x0
  rw [e0] at hm
  split at hm <;> try exact absurd rfl hm
  rename_i en tr h1' he
  cases he
  cases ce : Hl en with
  | false =>
   rw [ce] at hm
   simp only [cond_false] at hm ⊢
   split at hm
   · rename_i z
     refine ⟨_, List.mem_singleton_self _, ?_⟩
     have hz : z ≠ 0 := fun e => by subst e; cases ce
     simp -implicitDefEqProofs [wG, pC, e0, hz]
   · exact absurd rfl hm
  | true =>
   obtain rfl := AV.beq_eq ce
   rw [ce] at hm
   simp only [cond_true] at hm ⊢
   cases e1 : E n56 [.ptr 4 0] h1 with
   | none => rw [e1] at hm; exact absurd rfl hm
   | some x1 =>
    obtain ⟨v1, h2⟩ := x1
    rw [e1] at hm
    split at hm <;> try exact absurd rfl hm
    rename_i b q h2' he
    cases he
    cases e2 : h2.rd b 0 with
    | none => rw [e2] at hm; exact absurd rfl hm
    | some id =>
     rw [e2] at hm
     dsimp only at hm ⊢
     cases e3 : E n57 [.ptr 4 0] h2 with
     | none => rw [e3] at hm; exact absurd rfl hm
     | some c =>
      rw [e3] at hm
      dsimp only at hm ⊢
      cases e4 : E n59 [.ptr 4 0, id] h2 with
      | none => rw [e4] at hm; exact absurd rfl hm
      | some x4 =>
       obtain ⟨w, h3⟩ := x4
       rw [e4] at hm
       dsimp only at hm ⊢
       cases e5 : h3.rd b 0 with
       | none => rw [e5] at hm; exact absurd rfl hm
       | some id2 =>
        rw [e5] at hm
        dsimp only at hm ⊢
        cases c5 : AV.beq id2 id with
        | false => rw [c5] at hm; exact absurd rfl hm
        | true =>
         obtain rfl := AV.beq_eq c5
         rw [c5] at hm
         simp only [cond_true] at hm ⊢
         cases e6 : E n58 [.ptr 4 0, id2, I 0] h3 with
         | none => rw [e6] at hm; exact absurd rfl hm
         | some x =>
          rw [e6] at hm
          dsimp only at hm ⊢
          obtain ⟨cv, ch⟩ := c
          obtain ⟨xv, xh⟩ := x
          have ib : ∀ (k : Kv) (H0 : AHeap), pIa 1 (.sl b 0 1 q) (I 0) H0 k = k (.ptr b 0) H0 := fun k H0 => xa (n := 0) (by omega)
          have ld : ah .none h3 (.ptr b 0) = some id2 := by
           have := Hd (H := h3) (c := fun v H => some (v, H)) b 0
           rw [qT, e5] at this
           cases hl : ah .none h3 (.ptr b 0) with
           | none => rw [hl] at this; cases this
           | some v => rw [hl] at this; simp at this; rw [this]
          have q2 : aW .quo (I (p : Int)) (I 2) = some (I ((p / 2 : Nat) : Int)) := by
           rw [HY _ _ _ (by decide), show (p : Int).tdiv 2 = ((p / 2 : Nat) : Int) by rw [Int.tdiv_eq_ediv_of_nonneg (by omega)]; rfl, iF (by omega) (by omega)]
          have r2 : ∀ k : Nat, aW .rem (I (k : Int)) (I 2) = some (I ((k % 2 : Nat) : Int)) := fun k => by
           rw [wz _ _ _ (by decide), Int.tmod_eq_emod_of_nonneg (by omega)]; rfl
          have r1 : ∀ k : Nat, aW .rem (I (k : Int)) (I 1) = some (I 0) := fun k => by
           rw [wz _ _ _ (by decide), Int.tmod_one]
          have base : ∀ K : List (AV × AHeap), (∃ y ∈ K, iE E (.ptr 4 0) (I (p : Int)) h1 = some y) → ∃ y ∈ K, wG E (.ptr 4 0) (.int .i64 (p : Int)) h = some y := by
           rintro K ⟨y, hy, e⟩
           refine ⟨y, hy, ?_⟩
           rw [← e]
           simp -implicitDefEqProofs [wG, pC, e0, show ¬ ((p : Int) = -9223372036854775808) by omega, show ¬ ((p : Int) < 0) by omega]
          rcases Nat.mod_two_eq_zero_or_one p with hp0 | hp1
          ·
           have rq1 := r1 (p / 2)
           have rq2 := r2 (p / 2)
           generalize ((p / 2 : Nat) : Int) = z at q2 rq1 rq2
           have key : ∀ wv jv y, w = I wv → aW .rem (I z) (I wv) = some jv → E n58 [.ptr 4 0, id2, jv] h3 = some y → iE E (.ptr 4 0) (I (p : Int)) h1 = some y := by
            rintro wv jv ⟨y1, y2⟩ rfl ej ed
            have rp := r2 p
            rw [hp0] at rp
            simp -implicitDefEqProofs [iE, pC, e1, rp, iF (n := 2) (by omega) (by omega), ib, e2, q2, e4, ld, c5, show AV.beq (.int .i64 1) (.int .i64 1) = true from rfl, ej, ed]
           cases c1 : Hk w with
           | true =>
            rw [c1] at hm
            simp only [cond_true] at hm ⊢
            exact base _ ⟨_, by simp, key 1 _ _ (AV.beq_eq c1) rq1 e6⟩
           | false =>
            rw [c1] at hm
            simp only [cond_false] at hm ⊢
            cases c2 : Hi w with
            | false => rw [c2] at hm; exact absurd rfl hm
            | true =>
             rw [c2] at hm
             simp only [cond_true] at hm ⊢
             cases e7 : E n58 [.ptr 4 0, id2, I 1] h3 with
             | none => rw [e7] at hm; exact absurd rfl hm
             | some y =>
              dsimp only
              rcases Nat.mod_two_eq_zero_or_one (p / 2) with hq | hq
              · rw [hq] at rq2
                exact base _ ⟨_, by simp, key 2 _ _ (AV.beq_eq c2) rq2 e6⟩
              · rw [hq] at rq2
                exact base _ ⟨_, by simp, key 2 _ _ (AV.beq_eq c2) rq2 e7⟩
          ·
           have e8 : iE E (.ptr 4 0) (I (p : Int)) h1 = some (cv, ch) := by
            have rp := r2 p
            rw [hp1] at rp
            simp -implicitDefEqProofs [iE, pC, e1, rp, iF (n := 2) (by omega) (by omega), e3]
           cases c1 : Hk w with
           | true =>
            rw [c1] at hm
            simp only [cond_true] at hm ⊢
            exact base _ ⟨_, by simp, e8⟩
           | false =>
            rw [c1] at hm
            simp only [cond_false] at hm ⊢
            cases c2 : Hi w with
            | false => rw [c2] at hm; exact absurd rfl hm
            | true =>
             rw [c2] at hm
             simp only [cond_true] at hm ⊢
             cases e7 : E n58 [.ptr 4 0, id2, I 1] h3 with
             | none => rw [e7] at hm; exact absurd rfl hm
             | some y => exact base _ ⟨_, by simp, e8⟩
end
noncomputable section
set_option maxRecDepth 100000
@[congr] theorem RS {x x' y y' : AV} {H : AHeap} {c : Kv} (h : x = x') (k : y = y') : ay x y H c = ay x' y' H c := by rw [h, k]
@[congr] theorem RG {x x' y y' : AV} {H : AHeap} {c : Kv} (h : x = x') (k : y = y') : db x y H c = db x' y' H c := by rw [h, k]
@[congr] theorem RJ {x x' y y' : AV} {H : AHeap} {c : Kv} (h : x = x') (k : y = y') : kC x y H c = kC x' y' H c := by rw [h, k]
@[congr] theorem RR {x x' y y' : AV} {H : AHeap} {c : Kv} (h : x = x') (k : y = y') : dG x y H c = dG x' y' H c := by rw [h, k]
@[congr] theorem YL {x x' y y' : AV} {H : AHeap} {c : Kv} (h : x = x') (k : y = y') : pOr x y H c = pOr x' y' H c := by rw [h, k]
@[congr] theorem RF {x x' y y' : AV} {H : AHeap} {c : Kv} (h : x = x') (k : y = y') : wZ x y H c = wZ x' y' H c := by rw [h, k]
@[congr] theorem QE {x x' y y' : AV} {H : AHeap} {c : Kv} (h : x = x') (k : y = y') : jl x y H c = jl x' y' H c := by rw [h, k]
@[congr] theorem RP {x x' y y' : AV} {H : AHeap} {c : Kv} (h : x = x') (k : y = y') : aj x y H c = aj x' y' H c := by rw [h, k]
@[congr] theorem RI {x x' y y' : AV} {H : AHeap} {c : Kv} (h : x = x') (k : y = y') : aQ x y H c = aQ x' y' H c := by rw [h, k]
@[congr] theorem RK {x x' y y' : AV} {H : AHeap} {c : Kv} (h : x = x') (k : y = y') : aE x y H c = aE x' y' H c := by rw [h, k]
@[congr] theorem RL {x x' y y' : AV} {H : AHeap} {c : Kv} (h : x = x') (k : y = y') : dv x y H c = dv x' y' H c := by rw [h, k]
@[congr] theorem RM {x x' y y' : AV} {H : AHeap} {c : Kv} (h : x = x') (k : y = y') : dj x y H c = dj x' y' H c := by rw [h, k]
@[congr] theorem RN {x x' y y' : AV} {H : AHeap} {c : Kv} (h : x = x') (k : y = y') : aZ x y H c = aZ x' y' H c := by rw [h, k]
@[congr] theorem RH {cs cs' : List AV} {H : AHeap} {c : Kv} (h : cs = cs') : aB cs H c = aB cs' H c := by rw [h]
@[congr] theorem RQ {x x' : AV} {H : AHeap} {c : Kv} (h : x = x') : ba x H c = ba x' H c := by rw [h]
@[congr] theorem Zq {o o' : Option (AObj × Mk)} {H : AHeap} {c : Kv} (h : o = o') : pN o H c = pN o' H c := by rw [h]
@[congr] theorem Zk {o o' : Option (AV × AHeap)} {c : Kv} (h : o = o') : pW o c = pW o' c := by rw [h]
@[congr] theorem YN {k : Nat} {x x' : AV} {H : AHeap} {c : Kv} (h : x = x') : pFa k x H c = pFa k x' H c := by rw [h]
@[congr] theorem YM {k : Nat} {x x' y y' : AV} {H : AHeap} {c : Kv} (h : x = x') (g : y = y') : pIa k x y H c = pIa k x' y' H c := by rw [h, g]
@[congr] theorem RO {k : Nat} {x x' : AV} {H : AHeap} {c : Kv} (h : x = x') : ao x k H c = ao x' k H c := by rw [h]
@[congr] theorem QC {x x' a a' b b' : AV} {H : AHeap} {c : Kv} (h : x = x') (g : a = a') (k : b = b') : ai x a b H c = ai x' a' b' H c := by rw [h, g, k]
@[congr] theorem QD {k : IntKind} {x x' : AV} {H : AHeap} {c : Kv} (h : x = x') : aU k x H c = aU k x' H c := by rw [h]
@[congr] theorem YR {o : Option Nat} {H : AHeap} {p p' : AV} {c : Kv} (h : p = p') : ldK o H p c = ldK o H p' c := by rw [h]
@[congr] theorem YK {n : Nat} {H : AHeap} {p p' x x' : AV} {c : Kv} (h : p = p') (g : x = x') : stK n H p x c = stK n H p' x' c := by rw [h, g]
def sb : AV → Nat
 | .sl b _ _ _ => b
 | _ => 0
def so : AV → Nat
 | .sl _ o _ _ => o
 | _ => 0
def sn : AV → Nat
 | .sl _ _ n _ => n
 | _ => 0
def SV (H : AHeap) (v : AV) (e : Nat) (l : List AV) : Prop :=
 (v = .nilsl ∧ l = []) ∨ ∃ b o n q cs, v = .sl b o n q ∧ (∀ c, q = some c → c ≤ n) ∧ Cs H b false e cs ∧ l.length = n * e ∧ o + n * e ≤ cs.length ∧ ∀ i, i < n * e → cs[o + i]? = l[i]?
section
variable {H H' : AHeap} {v : AV} {e : Nat} {l : List AV} {c : Kv} {Q : AV → AHeap → Prop}
theorem SV.nil (H : AHeap) (e : Nat) : SV H .nilsl e [] := .inl ⟨rfl, rfl⟩
theorem SV.of {b n : Nat} {q : Option Nat} (h : Cs H b false e l) (hl : l.length = n * e) (hq : ∀ c, q = some c → c ≤ n) : SV H (.sl b 0 n q) e l :=
 .inr ⟨b, 0, n, q, l, rfl, hq, h, hl, by omega, fun i _ => by rw [Nat.zero_add]⟩
theorem SV.same (h : SV H v e l) (k : ∀ b, v.blk = some b → H'.get b = H.get b) : SV H' v e l := by
 rcases h with h | ⟨b, o, n, q, cs, rfl, h1, h2, h3⟩
 · exact .inl h
 · exact .inr ⟨b, o, n, q, cs, rfl, h1, h2.same (k b rfl), h3⟩
theorem SV.lt (h : SV H v e l) (w : WF H) {b : Nat} (hb : v.blk = some b) : b < H.n := by
 rcases h with ⟨rfl, _⟩ | ⟨b, o, n, q, cs, rfl, h1, h2, h3⟩
 · cases hb
 · cases hb; exact h2.lt w
theorem SV.num (h : SV H v e l) : l.length = sn v * e := by
 rcases h with ⟨rfl, rfl⟩ | ⟨b, o, n, q, cs, rfl, h1, h2, h3⟩
 · simp [sn]
 · exact h3.1
theorem SV.len (h : SV H v e l) : aw .sl H v = some (.int .i64 (sn v : Int)) := by
 rcases h with ⟨rfl, rfl⟩ | ⟨b, o, n, q, cs, rfl, h1, h2, h3⟩ <;> rfl
theorem SV.len' (h : SV H v e l) (H0 : AHeap) : aw .sl H0 v = some (.int .i64 (sn v : Int)) := by
 rcases h with ⟨rfl, rfl⟩ | ⟨b, o, n, q, cs, rfl, h1, h2, h3⟩ <;> rfl
theorem SV.blk (h : SV H v e l) (hn : 0 < sn v) : v.blk = some (sb v) := by
 rcases h with ⟨rfl, rfl⟩ | ⟨b, o, n, q, cs, rfl, h1, h2, h3⟩
 · simp [sn] at hn
 · rfl
theorem SV.ia (h : SV H v e l) {k : IntKind} {x : Int} (h0 : 0 ≤ x) (h1 : x < (sn v : Int)) (H0 : AHeap) : pIa e v (.int k x) H0 c = c (.ptr (sb v) (so v + x.toNat * e)) H0 := by
 rcases h with ⟨rfl, rfl⟩ | ⟨b, o, n, q, cs, rfl, h2, h3, h4⟩
 · simp [sn] at h1; omega
 · exact Lr h0 h1
theorem SV.rd (h : SV H v e l) {j : Nat} (hj : j < l.length) : H.rd (sb v) (so v + j) = l[j]? := by
 rcases h with ⟨rfl, rfl⟩ | ⟨b, o, n, q, cs, rfl, h2, h3, h4, h5, h6⟩
 · simp at hj
 · show H.rd b (o + j) = _
   rw [h3.rd]; exact h6 j (by omega)
theorem SV.rds (h : SV H v e l) {j k : Nat} (hj : j + k ≤ l.length) (hk : 0 < k) : H.rds (sb v) (so v + j) k = some ((l.drop j).take k) := by
 rcases h with ⟨rfl, rfl⟩ | ⟨b, o, n, q, cs, rfl, h2, h3, h4, h5, h6⟩
 · simp at hj; omega
 · show H.rds b (o + j) k = _
   rw [h3.rds _ _ (by omega)]
   congr 1
   apply List.ext_getElem?
   intro i
   rw [List.getElem?_take, List.getElem?_take, List.getElem?_drop, List.getElem?_drop]
   split
   · rw [show o + j + i = o + (j + i) by omega]; exact h6 _ (by omega)
   · rfl
theorem SV.st (h : SV H v e l) {j sz : Nat} {x : AV} (hs : aI x.cells = true) (hz : x.cells.length = sz) (hj : j + sz ≤ l.length) (h0 : 0 < sz)
 (k : ∀ H', Tu (sb v) H H' → SV H' v e (l.take j ++ (x.cells ++ l.drop (j + sz))) → W (c .undef H') Q) : W (stK sz H (.ptr (sb v) (so v + j)) x c) Q := by
 rcases h with ⟨rfl, rfl⟩ | ⟨b, o, n, q, cs, rfl, h2, h3, h4, h5, h6⟩
 · simp at hj; omega
 · refine MI h3 hs hz (by show o + j + sz ≤ _; omega) fun H' t c => k H' t (.inr ⟨b, o, n, q, _, rfl, h2, c, ?_, ?_, fun i hi => ?_⟩)
   · simp [hz]; omega
   · simp [hz, so]; omega
   · show (cs.take (o + j) ++ (x.cells ++ cs.drop (o + j + sz)))[o + i]? = _
     by_cases c1 : i < j
     · rw [List.getElem?_append_left (by simp; omega), List.getElem?_append_left (by simp; omega), List.getElem?_take, List.getElem?_take, if_pos (by omega), if_pos c1]
       exact h6 i (by omega)
     · have e1 : (cs.take (o + j)).length = o + j := by rw [List.length_take]; omega
       have e2 : (l.take j).length = j := by rw [List.length_take]; omega
       rw [List.getElem?_append_right (l₁ := cs.take (o + j)) (by rw [e1]; omega), List.getElem?_append_right (l₁ := l.take j) (by rw [e2]; omega), e1, e2, show o + i - (o + j) = i - j by omega]
       by_cases c2 : i - j < sz
       · rw [List.getElem?_append_left (by omega), List.getElem?_append_left (by omega)]
       · rw [List.getElem?_append_right (by omega), List.getElem?_append_right (by omega), List.getElem?_drop, List.getElem?_drop, hz, show o + j + sz + (i - j - sz) = o + i by omega, show j + sz + (i - j - sz) = i by omega]
         exact h6 i (by omega)
theorem SV.app (w : WF H) (h : SV H v e l) {bytes bx k : Nat} {q : Option Nat} {ro : Bool} {ex : Nat} {news : List AV} (hx : Cs H bx ro ex news) (hk : news.length = k * e) (hk0 : 0 < k) (he : 0 < e)
 (hs : aI news = true) (hb : (sn v + k) * bytes ≤ 140737488355328) (hb2 : sn v + k ≤ 1152921504606846976)
 (K : ∀ H', WF H' → H'.n = H.n + 1 → Cs H' H.n false e (l ++ news) → (∀ b, b < H.n → v.blk ≠ some b → H'.get b = H.get b) → W (c (.sl H.n 0 (sn v + k) none) H') Q) :
 W (pW (bz e bytes H v (.sl bx 0 k q)) c) Q := by
 obtain ⟨tx, x1, x2, x3⟩ := hx
 obtain ⟨k', rfl⟩ : ∃ k', k = k' + 1 := ⟨k - 1, by omega⟩
 have hsrc : tx.rdN 0 (Nat.mul (k' + 1) e) = some news := by
  have := qJ (t := tx) (l := news) (o := 0) fun i _ => by rw [Nat.zero_add]; exact x3 i
  rwa [hk] at this
 have hlen0 := h.num
 have hneed : dL bytes (sn v + (k' + 1)) = true := by unfold dL; simp only [bD, Bool.and_eq_true, decide_eq_true_eq]; exact ⟨hb2, hb⟩
 have hlen : (l ++ news).length = (sn v + (k' + 1)) * e := by rw [List.length_append, hlen0, hk, ← Nat.add_mul]
 have hnew : Cs (H.add (.cells false e (l ++ news).length (Tr.ofList (l ++ news)))) H.n false e (l ++ news) := Cs.new w false e _
 unfold bz
 simp only [rE, x1, hsrc, hs, cond_true]
 rcases h with ⟨rfl, rfl⟩ | ⟨b, o, n, q1, cs, rfl, h2, h3, h4, h5, h6⟩
 · simp only [sn, Nat.zero_add] at hneed
   simp only [hneed, cond_true, DD, dH]
   have := K _ (w.add _) rfl hnew (fun b hb _ => by rw [w.get, if_neg (by omega)])
   simpa [sn, hk] using this
 · have hnd : dL bytes (Nat.add n (k' + 1)) = true := hneed
   simp only [sn] at hlen hlen0 K
   obtain ⟨tb, b1, b2, b3⟩ := h3
   have hrd : tb.rdN o (Nat.mul n e) = some l := by
    have := qJ (t := tb) (l := l) (o := o) fun i hi => by rw [b3]; exact h6 i (by omega)
    rwa [hlen0] at this
   simp only [hnd, cond_true]
   unfold rP
   simp only [b1]
   cases q1 with
   | some cp =>
    have hcp := h2 cp rfl
    have c0 : Nat.ble (Nat.add n (k' + 1)) cp = false := by rw [bD]; exact decide_eq_false (by show ¬ (n + (k' + 1) ≤ cp); omega)
    simp only [c0, cond_false, hrd, DD, dH]
    have := K _ (w.add _) rfl hnew (fun b hb _ => by rw [w.get, if_neg (by omega)])
    rw [hlen] at this
    exact this
   | none =>
    have c1 : (Nat.beq e e && (Nat.ble 1 e && !false)) = true := by simp [bD]; omega
    simp only [c1, cond_true]
    have hold : ∀ (o' : AObj), ∀ b', b' < H.n → (AV.sl b o n none).blk ≠ some b' → ((H.put b .dead).add o').get b' = H.get b' := fun o' b' hb' hne => by
     rw [(w.put b .dead).get, if_neg (show ¬ b' = (H.put b .dead).n by show ¬ b' = H.n; omega), lV b1, if_neg (fun e => hne (by rw [e]; rfl))]
    cases c2 : (Nat.beq o 0 && Nat.beq cs.length (Nat.mul n e)) with
    | false =>
     simp only [cond_false, hrd, DD, dH]
     refine K _ ((w.put _ _).add _) rfl ?_ (hold _)
     have := Cs.new (w.put b .dead) false e (l ++ news)
     rw [hlen] at this
     exact this
    | true =>
     simp only [Bool.and_eq_true] at c2
     obtain rfl := Nat.eq_of_beq_eq_true c2.1
     have c3 : cs.length = n * e := Nat.eq_of_beq_eq_true c2.2
     have hcl : cs = l := by
      apply List.ext_getElem?
      intro i
      by_cases hi : i < n * e
      · have := h6 i hi; rwa [Nat.zero_add] at this
      · rw [List.getElem?_eq_none (by omega), List.getElem?_eq_none (by omega)]
     subst hcl
     simp only [cond_true, DD, dH]
     refine K _ ((w.put _ _).add _) rfl ?_ (hold _)
     obtain ⟨p1, p2⟩ := Tr.pushAll_spec news (t := tb) (n := cs.length) b2
     refine ⟨tb.pushAll cs.length news, ?_, ?_, fun i => ?_⟩
     · rw [(w.put b .dead).get, if_pos (show H.n = (H.put b .dead).n from rfl), hlen]; rfl
     · rw [List.length_append]; exact p1
     · rw [p2]
       by_cases c : i < cs.length
       · rw [List.getElem?_append_left c]
         first | rw [if_neg (by omega), b3] | simp [c, b3]
       · rw [List.getElem?_append_right (by omega)]
         first | rw [if_pos (by omega)] | simp [c]
theorem QW {cs : List AV} {sz : Nat} {x : AV} (w : WF H) (hs : aI x.cells = true) (hz : x.cells.length = sz) (hc : cs.length = sz) {c : AV → Kv}
 (k : ∀ H', Nu H H' → H'.n = H.n + 1 → Cs H' H.n false 0 x.cells → W (c (.ptr H.n 0) .undef H') Q) : W (aB cs H fun t H => stK sz H t x (c t)) Q := by
 refine a1W w fun H1 u1 n1 c1 => ?_
 refine MI c1 hs hz (by omega) fun H2 t2 c2 => ?_
 refine k H2 (u1.tu t2 (by omega)) (by rw [t2.n, n1]) ?_
 have : cs.take 0 ++ (x.cells ++ cs.drop (0 + sz)) = x.cells := by
  rw [List.drop_eq_nil_of_le (by omega)]; simp
 rwa [this] at c2
end
theorem HX (k k' : IntKind) (a : Int) (n : Nat) : aW .shr (.int k a) (.int k' (n : Int)) = some (.int k (a.fdiv (2 ^ (min n k.bits)))) := by
 show nW .shr k a (Int.ofNat n) = _
 show some (AV.int k (TT a (Nat.min n k.bits))) = _
 rw [DW]
section
variable {H H' : AHeap} {v : AV} {e : Nat} {l : List AV}
theorem SV.scal {v : AV} {e : Nat} {l : List AV} (h : SV H v e l) : bL v = true ∧ v.cells = [v] := by
 rcases h with ⟨rfl, _⟩ | ⟨b, o, n, q, cs, rfl, _⟩ <;> exact ⟨rfl, rfl⟩
structure Own (H0 : AHeap) (H : AHeap) (v : AV) (e : Nat) (l : List AV) : Prop where
 nu : Nu H0 H
 sv : SV H v e l
 new : ∀ b, v.blk = some b → H0.n ≤ b
theorem Own.nil (w : WF H) (e : Nat) : Own H H .nilsl e [] := ⟨.refl w, .nil _ _, fun _ e => by cases e⟩
theorem Own.app {H0 : AHeap} {l news zs : List AV} {parts : List (Nat × Nat × AV)} {e bytes : Nat} {c : Kv} {Q : AV → AHeap → Prop} (o : Own H0 H v e l) (hf : aG (List.replicate 1 zs).flatten parts = some news) (hn : news.length = e) (he : 0 < e) (he2 : e ≤ 1000)
 (hs : aI news = true) (hb : (sn v + 1) * bytes ≤ 140737488355328) (hb2 : sn v + 1 ≤ 1152921504606846976) (K : ∀ v' H', Own H0 H' v' e (l ++ news) → W (c v' H') Q) :
 W (pN (aM e 1 zs parts) H fun t H => pW (bz e bytes H v t) c) Q := by
 refine a1X o.nu.wf hf (by omega) (by omega) fun H1 u1 n1 c1 => ?_
 have s1 := o.sv.same (H' := H1) fun b e => u1.old b (o.sv.lt o.nu.wf e)
 refine SV.app u1.wf s1 c1 (by omega) (by omega) he hs hb hb2 fun H2 w2 n2 c2 o2 => ?_
 have hlen := o.sv.num
 refine K _ _ ⟨⟨by have := o.nu.n; omega, w2, fun b hb => ?_⟩, SV.of c2 (by rw [List.length_append, hlen, hn, Nat.add_mul]; omega) (fun c e => by cases e), fun b e => by cases e; exact Nat.le_trans o.nu.n u1.n⟩
 have := o.nu.n
 rw [o2 b (by omega) fun e => by have := o.new b e; omega, u1.old b (by omega), o.nu.old b hb]
end
def Pre (a b : List Int) : Prop := ∃ c, b = a ++ c
theorem Pre.refl (a : List Int) : Pre a a := ⟨[], by simp⟩
theorem Pre.trans {a b c : List Int} (h : Pre a b) (k : Pre b c) : Pre a c := by
 obtain ⟨x, rfl⟩ := h
 obtain ⟨y, rfl⟩ := k
 exact ⟨x ++ y, by simp⟩
section
variable {pr : di} {H H' : AHeap} {a b : AV} {la lb : List Int}
structure RV (H : AHeap) (v : AV) (l : List Int) : Prop where
 len : aw .sl H v = some (I l.length)
 ia : ∀ (j : Nat), j < l.length → ∀ (c : Kv) (H0 : AHeap), pIa 1 v (I j) H0 c = c (.ptr (sb v) (so v + j)) H0
 rd : ∀ (j : Nat), j < l.length → H.rd (sb v) (so v + j) = l[j]?.map I
theorem SV.rv (h : SV H a 1 (la.map I)) : RV H a la := by
 have n := h.num
 simp at n
 refine ⟨by rw [h.len, n], fun j hj c H0 => ?_, fun j hj => ?_⟩
 · have := h.ia (c := c) (k := .i64) (x := (j : Int)) (by omega) (by omega) H0
   simpa using this
 · rw [h.rd (by simpa using hj), List.getElem?_map]
def WantV (H : AHeap) (v : AV) (l : List Int) : Prop := (v = .nilsl ∧ l = []) ∨ ∃ b q, v = .sl b 0 l.length q ∧ (q = none ∨ q = some l.length) ∧ Cs H b false 1 (l.map I)
theorem WantV.sv (h : WantV H a la) : SV H a 1 (la.map I) := by
 rcases h with ⟨rfl, rfl⟩ | ⟨b, q, rfl, hq, c⟩
 · exact .nil _ _
 · exact SV.of c (by simp) (fun x e => by rcases hq with rfl | rfl <;> cases e; simp)
theorem WantV.same (h : WantV H a la) (k : ∀ b, a.blk = some b → H'.get b = H.get b) : WantV H' a la := by
 rcases h with h | ⟨b, q, rfl, hq, c⟩
 · exact .inl h
 · exact .inr ⟨b, q, rfl, hq, c.same (k b rfl)⟩
end
def eX (x : Int) : Int := IntKind.u32.wrap (IntKind.u32.wrap (1664525 * x) + 1013904223)
def lq (x : Int) : Int := IntKind.i64.wrap (x.fdiv 256)
def lj (x : Int) : Nat := x.toNat / 256
theorem DN (x : Int) : 0 ≤ eX x ∧ eX x < 4294967296 := by
 unfold eX
 generalize IntKind.u32.wrap (1664525 * x) + 1013904223 = y
 have : IntKind.u32.wrap y = y % 4294967296 := by
  simp [IntKind.wrap, IntKind.bits, IntKind.signed]
 rw [this]; omega
theorem Gy {x : Int} (h : 0 ≤ x ∧ x < 4294967296) : lq x = (lj x : Int) := by
 obtain ⟨n, rfl⟩ := Int.eq_ofNat_of_zero_le h.1
 have e : ((n : Int)).fdiv 256 = ((n / 256 : Nat) : Int) := by
  rw [Int.fdiv_eq_ediv_of_nonneg _ (by omega)]; simp
 unfold lq lj
 rw [e, iF (by omega) (by omega)]; simp
def mR : Nat → Int → List Nat
 | 0, _ => []
 | k + 1, x => lj (eX x) :: mR k (eX x)
theorem gW : ∀ (k : Nat) (x : Int), (mR k x).length = k
 | 0, _ => rfl
 | k + 1, x => by simp [mR, gW k]
theorem vn : ∀ (k : Nat) (x : Int), ∀ p ∈ mR k x, p ≤ 1000000000
 | 0, _, p, h => by cases h
 | k + 1, x, p, h => by
  rcases List.mem_cons.1 h with rfl | h
  · have := DN x
    unfold lj
    omega
  · exact vn k _ p h
def Fz (v : Int) (l : AV) (H : AHeap) : R := pN (aM 1 1 [I 0] [(0, 1, I v)]) H fun t H => bz 1 8 H l t
def lcg (k : Nat) : Int → AV → AHeap → R := Nat.rec (motive := fun _ => Int → AV → AHeap → R) (fun _ l H => some (l, H)) (fun _ ih x l H => ob2 (Fz (lq (eX x)) l H) fun l H => ih (eX x) l H) k
theorem vD (k : Nat) (x : Int) (l : AV) (H : AHeap) : lcg (k + 1) x l H = ob2 (Fz (lq (eX x)) l H) fun l H => lcg k (eX x) l H := rfl
theorem LB {r : R} {f g : Kv} : ob2 (ob2 r f) g = ob2 r fun v H => ob2 (f v H) g := by
 cases r with
 | none => rfl
 | some p => rfl
theorem E6 (v : Int) (l : AV) (H : AHeap) (c : Kv) : (pN (aM 1 1 [I 0] [(0, 1, I v)]) H fun t H => pW (bz 1 8 H l t) c) = ob2 (Fz v l H) c := by
 unfold Fz pN pW
 cases aM 1 1 [I 0] [(0, 1, I v)] with
 | none => rfl
 | some p => rfl
theorem Fi (call : aa) (N : Nat) (hN : N ≤ 100000) (t1 t8 t10 : AV) : ∀ (r j mm : Nat) (x z : Int) (l : AV) (H : AHeap), z = (j : Int) → j + r = N → r < mm →
 wI call mm t1 (.int .u32 x) (I (N : Int)) t8 t10 l (I z) H = ob2 (lcg r x l H) fun l H => wJ call t1 t8 t10 l H := by
 intro r
 induction r with
 | zero =>
  intro j mm x z l H hz hj hm
  obtain ⟨mm, rfl⟩ : ∃ k, mm = k + 1 := ⟨mm - 1, by omega⟩
  subst hz
  rw [Rk]
  have : j = N := by omega
  simp only [this, mT, Int.lt_irrefl, decide_false, jn]
  rfl
 | succ r ih =>
  intro j mm x z l H hz hj hm
  obtain ⟨mm, rfl⟩ : ∃ k, mm = k + 1 := ⟨mm - 1, by omega⟩
  subst hz
  rw [Rk]
  have h1 : (j : Int) < (N : Int) := by omega
  have hs := HX .u32 .u64 (eX x) 8
  simp [IntKind.bits] at hs
  simp only [mT, h1, decide_true, vr, Gz, GB]
  show (pO (aW .shr (.int .u32 (eX x)) (.int .u64 8)) H fun t35 H => _) = _
  rw [hs]
  simp only [Zn, jt, EW]
  show (pN (aM 1 1 [I 0] [(0, 1, I (lq (eX x)))]) H fun t H => pW (bz 1 8 H l t) _) = _
  rw [E6, vD, LB]
  congr 1
  funext l' H'
  exact ih (j + 1) mm (eX x) _ l' H' (by show IntKind.i64.wrap ((j : Int) + 1) = _; rw [iF (by omega) (by omega)]; omega) (by omega) (by omega)
theorem qg {H0 : AHeap} : ∀ (r : Nat) (x : Int) (l : AV) (H : AHeap) (acc : List Nat), Own H0 H l 1 (acc.map fun (p : Nat) => I (p : Int)) → acc.length + r ≤ 100000 →
 ∃ l' H', lcg r x l H = some (l', H') ∧ Own H0 H' l' 1 ((acc ++ mR r x).map fun (p : Nat) => I (p : Int))
 | 0, x, l, H, acc, o, _ => ⟨l, H, rfl, by simpa [mR] using o⟩
 | r + 1, x, l, H, acc, o, hr => by
  have hsn := o.sv.num
  simp at hsn
  have key : W (Fz (lq (eX x)) l H) fun l' H' => Own H0 H' l' 1 ((acc ++ [lj (eX x)]).map fun (p : Nat) => I (p : Int)) := by
   have := o.app (bytes := 8) (zs := [I 0]) (parts := [(0, 1, I (lq (eX x)))]) (news := [I (lj (eX x))]) (c := fun v H => some (v, H)) (Q := fun l' H' => Own H0 H' l' 1 ((acc ++ [lj (eX x)]).map fun (p : Nat) => I (p : Int)))
    (by rw [Gy (DN x)]; simp) rfl (by omega) (by omega) rfl (by omega) (by omega) (fun v' H' o' => by simpa using o')
   rw [E6] at this
   obtain ⟨v, H1, e, q⟩ := this
   cases h : Fz (lq (eX x)) l H with
   | none => rw [h] at e; cases e
   | some p => rw [h] at e; cases e; exact ⟨_, _, rfl, q⟩
  obtain ⟨l1, H1, e, o1⟩ := key
  obtain ⟨l2, H2, e2, o2⟩ := qg r (eX x) l1 H1 (acc ++ [lj (eX x)]) o1 (by simp; omega)
  refine ⟨l2, H2, ?_, ?_⟩
  · rw [vD, e]; exact e2
  · simpa [mR] using o2
end
noncomputable section
set_option maxRecDepth 100000
theorem mb {pr : di} {f : Nat} {p : List AV → AHeap → R} (h : pr f = some p) (n : Nat) (args : List AV) (H : AHeap) : VE pr (n + 1) f args H = p args H := by
 show (Option.rec (motive := fun _ => R) (ob (lG f) fun ff => ff.run (evH lG pr n) args H) (fun p => p args H) (pr f) : R) = _
 rw [h]
theorem _root_.Go.Ab.Part.keep {ι : Nat → Nat} {h H H' : AHeap} (p : Part ι h H) (hn : H.n ≤ H'.n) (hg : ∀ s, s < h.n → H'.get (ι s) = H.get (ι s)) : Part ι h H' :=
 ⟨p.full, fun b hb => Nat.lt_of_lt_of_le (p.lt b hb) hn, p.inj, fun b o e => by rw [hg b (dM p.full e)]; exact p.obj b o e, p.inn, p.cf⟩
theorem Fa {s : Nat → Nat} (v : AV) : bL (rnV s v) = bL v := by cases v <;> rfl
theorem nU {s : Nat → Nat} : ∀ (l : List AV), aI (br s l) = aI l
 | [] => rfl
 | v :: l => by
  simp only [br, aI, Fa, nU l]
theorem xq {s : Nat → Nat} : ∀ (l : List AV), (br s l).length = l.length
 | [] => rfl
 | _v :: l => congrArg Nat.succ (xq l)
def z7 : List AV := [.nilsl, I 0, I 0, I 0, I 0, I 0, .nilsl]
def z6 : List AV := [.nilsl, .nilsl, .nilsl, .nilsl, .nilsl, I 0]
def z2 : List AV := [I 0, I 0]
def cell (l : List AV) : AObj := .cells false 0 l.length (Tr.ofList l)
theorem EX {H : AHeap} (l : List AV) (c : Kv) : ba (.agg l) H c = c (.ptr H.n 0) (H.add (cell l)) := rfl
theorem DF {H : AHeap} (c : Kv) : aB [.nilsl, .int .i64 (.ofNat 0), .int .i64 (.ofNat 0), .int .i64 (.ofNat 0), .int .i64 (.ofNat 0), .int .i64 (.ofNat 0), .nilsl] H c = c (.ptr H.n 0) (H.add (cell z7)) := rfl
theorem Ln {H : AHeap} (c : Kv) : aB [.nilsl, .nilsl, .nilsl, .nilsl, .nilsl, .int .i64 (.ofNat 0)] H c = c (.ptr H.n 0) (H.add (cell z6)) := rfl
theorem Lq {H : AHeap} (c : Kv) : aB [.int .i64 (.ofNat 0), .int .i64 (.ofNat 0)] H c = c (.ptr H.n 0) (H.add (cell z2)) := rfl
section
variable {ok : List Int → Int → Int → Bool} {H H' : AHeap} {a v : AV} {n0 n1 : Nat} {out : List Int}
theorem _root_.Go.Ab.View.scal (h : View H v out) : bL v = true ∧ v.cells = [v] := by
 rcases h with ⟨rfl, _⟩ | ⟨b, n, q, N, t, rfl, _⟩ <;> exact ⟨rfl, rfl⟩
theorem _root_.Go.Ab.View.same (h : View H v out) (k : ∀ b, v.blk = some b → H'.get b = H.get b) : View H' v out := by
 rcases h with h | ⟨b, n, q, N, t, rfl, h1, h2, h3⟩
 · exact .inl h
 · exact .inr ⟨b, n, q, N, t, rfl, h1, by rw [k b rfl]; exact h2, h3⟩
theorem _root_.Go.Ab.View.lt (h : View H v out) (w : WF H) {b : Nat} (e : v.blk = some b) : b < H.n := by
 rcases h with ⟨rfl, _⟩ | ⟨b', n, q, N, t, rfl, h1, h2, h3⟩
 · cases e
 · cases e; exact dM w h2
theorem _root_.Go.Ab.View.rv (h : View H v out) : RV H v out := by
 rcases h with ⟨rfl, rfl⟩ | ⟨b, n, q, N, t, rfl, h1, h2, h3, rfl, h5⟩
 · exact (SV.nil H 1).rv
 · refine ⟨rfl, fun j hj c H0 => ?_, fun j hj => ?_⟩
   · have := xa (H := H0) (c := c) (esz := 1) (b := b) (o := 0) (q := q) (k := .i64) hj
     simpa [sb, so] using this
   · show H.rd b (0 + j) = _
     unfold AHeap.rd
     rw [h2, Nat.zero_add, List.getElem?_eq_getElem hj]
     exact h5 j _ (List.getElem?_eq_getElem hj)
theorem xu {v : AV} (h : Hj v = true) : bL v = true ∧ v.cells = [v] := by cases v <;> first | exact ⟨rfl, rfl⟩ | cases h
theorem _root_.Go.Ab.Told1.scal (h : Told1 ok n0 a H) : aI a.cells = true ∧ a.cells.length = 7 := by
 obtain ⟨vo, va, en, tr, st, dn, fo, out, rfl, h1, _, h2, _⟩ := h
 have k1 := h1.scal
 have k2 := xu h2
 simp [k1.1, k2.1]
theorem _root_.Go.Ab.Told1.agg (h : Told1 ok n0 a H) : .agg a.cells = a := by
 obtain ⟨vo, va, en, tr, st, dn, fo, out, rfl, _⟩ := h; rfl
theorem _root_.Go.Ab.Told1.mono (h : Told1 ok n0 a H) (hn : n1 ≤ n0) (w : WF H) (k : ∀ b, n0 ≤ b → b < H.n → H'.get b = H.get b) : Told1 ok n1 a H' := by
 obtain ⟨vo, va, en, tr, st, dn, fo, out, rfl, h1, h4, h2⟩ := h
 exact ⟨vo, va, en, tr, st, dn, fo, out, rfl, h1.same fun b e => k b (h4 b e) (h1.lt w e), fun b e => Nat.le_trans hn (h4 b e), h2⟩
end
def K7 (H : AHeap) (v : AV) (l : List Nat) : Prop := ∀ (j : Nat), j < l.length → (∀ (c : Kv) (H0 : AHeap), pIa 1 v (I (j : Int)) H0 c = c (.ptr (sb v) (so v + j)) H0) ∧ H.rd (sb v) (so v + j) = l[j]?.map fun (p : Nat) => I (p : Int)
abbrev G3 : List Nat := [3]
theorem wL : ∀ g, G3.contains g = true → g < 4 := fun g h => by
 have : g = 3 := by simpa using h
 omega
section
variable {pr : di} {call : aa} {mv : Mv} {B : Tr AObj} {m : Nat} {st : List TM} {A : Tp → Prop} {ok : List Int → Int → Int → Bool}
structure Takes (pr : di) (call : aa) (B : Tr AObj) (m : Nat) (A : Tp → Prop) : Prop where
 run : pr n14 = none
 one : pr n24 = some (bg (QT (R1 B m A) 4) G3 call n24)
 told : pr n25 = some (bg (QT (R2 B m A) 4) G3 call n25)
theorem Dz (C : ClosedT call n24 n25 mv B m st A ok) (F : Takes pr call B m A) (n : Nat) {vb t6 : Nat} {X : Nat → Prop} {H : AHeap} (iv : Inv B m A vb X H) (c6 : Cs H t6 false 0 z7) (x6 : X t6) (s : Int) :
 W (pf (VE pr (n + 1)) (.ptr t6 0) (.ptr vb 0) (I s) H) fun r H' => ∃ a, r = .tup [a, I 0] ∧ Told1 ok H.n a H' ∧ WF H' ∧ H.n ≤ H'.n ∧ ∀ b, X b → b ≠ t6 → H'.get b = H.get b := by
 unfold pf
 obtain ⟨a, H1, e, w1, tl, n1, k1⟩ := EO C wL iv s
 have c1 : Cs H1 t6 false 0 z7 := c6.same (k1 t6 x6)
 have hlt := c6.lt iv.1
 have hsc := tl.scal
 refine a1T (Q0 := fun v H2 => v = a ∧ H2 = H1) ⟨a, H1, (mb F.told n _ _).trans e, rfl, rfl⟩ fun v H2 hx => ?_
 obtain ⟨rfl, rfl⟩ := hx
 refine MI c1 (x := v) hsc.1 hsc.2 (by simp [z7]) fun H2 t2 c2 => ?_
 have e7 : z7.take 0 ++ (v.cells ++ z7.drop (0 + 7)) = v.cells := by simp [z7]
 rw [e7] at c2
 have r8 := c2.rds 0 7 (by rw [hsc.2]; omega)
 rw [show (v.cells.drop 0).take 7 = v.cells by rw [List.drop_zero, List.take_of_length_le (by rw [hsc.2]; omega)]] at r8
 simp -implicitDefEqProofs [r8, aV, tl.agg]
 refine ⟨tl.mono (Nat.le_refl _) w1 fun b hb _ => t2.old b (by omega), t2.wf w1, by rw [t2.n]; exact n1, fun b hb hne => ?_⟩
 rw [t2.old b hne, k1 b hb]
theorem G9 (C : ClosedT call n24 n25 mv B m st A ok) (F : Takes pr call B m A) (n : Nat) {pk : List Nat} (hpk : ∀ p ∈ pk, p ≤ 1000000000) (hpl : pk.length ≤ 100000) {lv : AV} {vb t6 : Nat} {X : Nat → Prop} (x6 : X t6) (xl : X (sb lv)) : ∀ (r j mm : Nat) (x : Int) (s : Nat) (H : AHeap), x = (j : Int) → j + r = pk.length → r < mm → s ≤ j →
 Inv B m A vb X H → Cs H t6 false 0 z7 → K7 H lv pk →
 W (wH (VE pr (n + 1)) mm (.ptr t6 0) (.ptr vb 0) (I (s : Int)) lv (I (pk.length : Int)) (I x) H) fun v H' => ∃ a, v = .tup [a, I 0] ∧ (∃ n0, H.n ≤ n0 ∧ Told1 ok n0 a H') ∧ WF H' ∧ H.n ≤ H'.n ∧ ∀ b, X b → b ≠ t6 → H'.get b = H.get b := by
 intro r
 induction r with
 | zero =>
  intro j mm x s H hx hj hm hs iv c6 hp
  obtain ⟨mm, rfl⟩ : ∃ k, mm = k + 1 := ⟨mm - 1, by omega⟩
  subst hx
  rw [Rj]
  have : j = pk.length := by omega
  simp only [this, mT, Int.lt_irrefl, decide_false, jn]
  exact (Dz C F n iv c6 x6 s).mono fun v H' ⟨a, e, t, k⟩ => ⟨a, e, ⟨H.n, Nat.le_refl _, t⟩, k⟩
 | succ r ih =>
  intro j mm x s H hx hj hm hs iv c6 hp
  obtain ⟨mm, rfl⟩ : ∃ k, mm = k + 1 := ⟨mm - 1, by omega⟩
  subst hx
  rw [Rj]
  have h1 : (j : Int) < (pk.length : Int) := by omega
  have h2 : j < pk.length := by omega
  obtain ⟨p1, p2⟩ := hp j h2
  simp [h2] at p2
  obtain ⟨b, H1, e, iv1, n1, k1⟩ := GJ C wL iv (hpk _ (List.getElem_mem h2))
  have e : VE pr (n + 1) n24 [.ptr vb 0, I ((pk[j] : Nat) : Int)] H = some (.bool b, H1) := (mb F.one n _ _).trans e
  have c61 := c6.same (k1 t6 x6)
  have hp1 : K7 H1 lv pk := fun i hi => ⟨(hp i hi).1, by rw [← (hp i hi).2]; unfold AHeap.rd; rw [k1 _ xl]⟩
  simp -implicitDefEqProofs [h1, p1, p2, pC, e]
  cases b with
  | true =>
   simp -implicitDefEqProofs [iF (n := (s : Int) + 1) (by omega) (by omega), iF (n := (j : Int) + 1) (by omega) (by omega)]
   have := ih (j + 1) mm ((j : Int) + 1) (s + 1) H1 (by omega) (by omega) (by omega) (by omega) iv1 c61 hp1
   simp only [Int.natCast_add, Int.cast_ofNat_Int] at this
   refine this.mono fun v H' ⟨a, e, ⟨n0, hn0, t⟩, q1, q2, q3⟩ => ⟨a, e, ⟨n0, Nat.le_trans n1 hn0, t⟩, q1, Nat.le_trans n1 q2, fun b hb hne => ?_⟩
   rw [q3 b hb hne, k1 b hb]
  | false =>
   simp -implicitDefEqProofs
   exact (Dz C F n iv1 c61 x6 s).mono fun v H' ⟨a, e, t, q1, q2, q3⟩ => ⟨a, e, ⟨H1.n, n1, t⟩, q1, Nat.le_trans n1 q2, fun b hb hne => by rw [q3 b hb hne, k1 b hb]⟩
end
end
noncomputable section
set_option maxRecDepth 100000
structure Txt where
 (T : List UInt8) (mc : List AV) (mods : List TM) (ms : List Nat) (st : List TM) (T0 : Tp) (ns : List Nat)
abbrev Txt.m (t : Txt) : Nat := Nat.add 5 (aC t.st)
abbrev Txt.r0 (t : Txt) : AV := .tup [.agg t.mc, .agg [I 0, I 0]]
structure TxtOK (call : aa) (mv : Mv) (t : Txt) (A : Tp → Prop) (ok : List Int → Int → Int → Bool) : Prop where
 comp : b9 (cg (call n12 [.str t.T] (hP [])) (hP []) t.r0 t.mods t.ms)
 shut : c7 t.mods = true
 mcl : t.mc.length = 6
 mcs : aI t.mc = true
 mcv : dz (4 + t.mods.length) t.mc
 hang : ue 4 (hP t.mods) [.agg t.mc, I 8]
 new : b9 (cg (call n23 [.agg t.mc, I 8] (hP t.mods)) (hP t.mods) (.tup [.ptr 4 0, I 0]) (t.T0.v :: (t.st ++ t.T0.r)) t.ns)
 stat : aq (okR (Nat.add 5 (aC t.st)) t.st) (c7 t.st) = true
 first : A t.T0
 closed : ClosedT call n24 n25 mv (BT t.st) t.m t.st A ok
structure TakesT (pr : di) (call : aa) (t : Txt) (A : Tp → Prop) : Prop extends Takes pr call (BT t.st) t.m A where
 comp : pr n12 = some (bg (QT (Ro (hP []) [.str t.T]) 4) G3 call n12)
 new : pr n23 = some (bg (QT (Ro (hP t.mods) [.agg t.mc, I 8]) 4) G3 call n23)
 done : pr n11 = none
 says : pr n7 = none
 begins : pr n17 = none
 nums : pr n16 = none
theorem M6 {d : List TM} (h : c7 d = true) {Y : Ys} {Z : Zs} {σ : Nat → Nat} {H : AHeap} (p : Part σ (hQ d Y Z) H) : Part σ (hP d) H :=
 p.congr (by rw [Ht, T5]) (fun b => by
  rw [xy, xx]
  by_cases c : b < 4
  · rw [if_pos c, if_pos c]
  · rw [if_neg c, if_neg c]
    cases e : d[b - 4]? with
    | none => rfl
    | some x => exact congrArg some (nE (fG h x (List.mem_of_getElem? e)))) (fM d)
section
variable {pr : di} {call : aa} {mv : Mv} {t : Txt} {A : Tp → Prop} {ok : List Int → Int → Int → Bool}
theorem Ks (K : TxtOK call mv t A ok) (F : TakesT pr call t A) (n : Nat) {H : AHeap} (wf : WF H) {ι : Nat → Nat} (p : Part ι (hP t.mods) H) (hk : ∀ s, s < 4 → ι s = s) {lv : AV} {pk : List Nat} (hlv : SV H lv 1 (pk.map fun (p : Nat) => I (p : Int))) (hpk : ∀ p ∈ pk, p ≤ 1000000000) (hpl : pk.length ≤ 100000) (h0 : 0 < pk.length)
 (hl4 : 4 ≤ sb lv) (hlo : ∀ s, s < (hP t.mods).n → ι s ≠ sb lv) :
 W (VE pr (n + 2) n14 [.agg (br ι t.mc), I 8, lv] H) fun v H' => ∃ a, v = .tup [a, I 0] ∧ (∃ n0, H.n ≤ n0 ∧ Told1 ok n0 a H') ∧ WF H' ∧ H.n ≤ H'.n ∧ ∀ b, 4 ≤ b → b < H.n → (∀ s, s < (hP t.mods).n → ι s ≠ b) → H'.get b = H.get b := by
 refine a1U (U14 pr F.run (n + 1) _ _ _ _) ?_
 have hml : (br ι t.mc).length = 6 := by rw [xq, K.mcl]
 have w1 : WF (H.add (cell (br ι t.mc))) := wf.add _
 have c1 : Cs (H.add (cell (br ι t.mc))) H.n false 0 (br ι t.mc) := Cs.new wf false 0 _
 have c2 : Cs ((H.add (cell (br ι t.mc))).add (cell z7)) (H.n + 1) false 0 z7 := Cs.new w1 false 0 z7
 have w2 : WF ((H.add (cell (br ι t.mc))).add (cell z7)) := w1.add _
 have u2 : Nu H ((H.add (cell (br ι t.mc))).add (cell z7)) := (Nu.add wf _).trans (Nu.add w1 _)
 have c1' := c1.nu w1 (Nu.add w1 (cell z7))
 have r1 := c1'.rds 0 6 (by omega)
 have htk : ((br ι t.mc).drop 0).take 6 = br ι t.mc := by rw [List.drop_zero, List.take_of_length_le (by omega)]
 rw [htk] at r1
 generalize hH2 : (H.add (cell (br ι t.mc))).add (cell z7) = H2 at c1' c2 w2 u2 r1
 have n2 : H2.n = H.n + 2 := by rw [← hH2]; rfl
 have p2 : Part ι (hP t.mods) H2 := p.keep (by omega) fun s hs => u2.old _ (p.lt s hs)
 obtain ⟨σ, HN, e, wN, nN, hσ, ⟨Y, Z, pN⟩, out⟩ := pS (G := G3) wL (by rw [Ht]; omega) (iM _) K.new ⟨by rw [Ht]; exact K.mcv, trivial, trivial⟩ K.hang p2 w2 hk (r0 := .tup [.ptr 4 0, I 0]) ⟨(by show 4 < 4 + (t.T0.v :: (t.st ++ t.T0.r)).length; rw [List.length_cons]; omega), trivial, trivial⟩
 have e : VE pr (n + 1) n23 [.agg (br ι t.mc), I 8] H2 = some (.tup [.ptr (σ 4) 0, I 0], HN) := (mb F.new n _ _).trans e
 unfold JC
 simp -implicitDefEqProofs only [EX, DF]
 rw [hH2]
 simp -implicitDefEqProofs only [qU, r1, jt, pC, e, dH]
 obtain ⟨Y', Z', pT⟩ := GQ K.stat pN
 have hlen : (t.T0.v :: (t.st ++ t.T0.r)).length = 1 + t.st.length + t.T0.r.length := by simp; omega
 let X : Nat → Prop := fun b => 4 ≤ b ∧ b < H2.n ∧ ∀ s, s < (hP t.mods).n → ι s ≠ b
 have iv : Ab.Inv (BT t.st) t.m A (σ 4) X HN := ⟨wN, t.T0, Y', Z', σ, K.first, pT, hσ, rfl, fun b ⟨x1, x2, x3⟩ => ⟨by omega, x1, fun s hs => (out b x2 x1 x3).2 s (by
  rw [lL] at hs
  have : t.m = 5 + t.st.length := by show Nat.add 5 (aC t.st) = _; rw [de]; rfl
  rw [this] at hs
  rw [hlen]; omega)⟩⟩
 have same : ∀ b, X b → HN.get b = H2.get b := fun b ⟨x1, x2, x3⟩ => (out b x2 x1 x3).1
 have ιlt : ∀ s, s < (hP t.mods).n → ι s < H.n := fun s hs => p.lt s hs
 have nl := hlv.num
 simp at nl
 have hb := hlv.blk (by omega)
 have hbl := hlv.lt wf hb
 have x6 : X (H.n + 1) := ⟨by have := p.lt 3 (by rw [Ht]; omega); rw [hk 3 (by omega)] at this; omega, by omega, fun s hs e => by have := ιlt s hs; omega⟩
 have xl : X (sb lv) := ⟨hl4, by omega, hlo⟩
 have pv : K7 HN lv pk := fun j hj => ⟨fun c H0 => by
  have := hlv.ia (c := c) (k := .i64) (x := (j : Int)) (by omega) (by omega) H0
  simpa using this, by
  have e : HN.get (sb lv) = H.get (sb lv) := (same _ xl).trans (u2.old _ hbl)
  have := hlv.rd (j := j) (by simpa using hj)
  rw [← List.getElem?_map, ← this]
  unfold AHeap.rd
  rw [e]⟩
 have hz : (decide ((0 : Int) = 0)) = true := rfl
 simp -implicitDefEqProofs [hlv.len' HN, ← nl]
 refine (G9 K.closed F.toTakes n hpk hpl x6 xl pk.length 0 1000000 0 0 HN rfl (by omega) (by omega) (Nat.le_refl _) iv (c2.same (same _ x6)) pv).mono fun v H' ⟨a, e, ⟨n0, hn0, tl⟩, q1, q2, q3⟩ => ?_
 refine ⟨a, e, ⟨n0, by omega, tl⟩, q1, by omega, fun b hb4 hlt hno => ?_⟩
 have xb : X b := ⟨hb4, by omega, hno⟩
 rw [q3 b xb (by omega), same b xb, u2.old b hlt]
theorem My (K : TxtOK call mv t A ok) (F : TakesT pr call t A) (n : Nat) {H : AHeap} (wf : WF H) (p0 : Part idN (hP []) H) {N : Nat} (hN : N ≤ 100000) (hN0 : 0 < N) {x : Int} :
 W (VE pr (n + 3) n11 [.str t.T, I 8, .int .u32 x, I (N : Int)] H) fun v H' => ∃ a, v = .tup [a, .bool true] ∧ (∃ n0, H.n < n0 ∧ Told1 ok n0 a H') ∧ WF H' ∧ H.n ≤ H'.n ∧ ∀ b, 4 ≤ b → b < H.n → H'.get b = H.get b := by
 refine a1U (U11 pr F.done (n + 2) _ _ _ _ _) ?_
 have h4 : 4 ≤ H.n := by have := p0.lt 3 (by decide); have : idN 3 = 3 := rfl; omega
 have w7 : WF (H.add (cell z7)) := wf.add _
 have u7 : Nu H (H.add (cell z7)) := Nu.add wf _
 have cz : Cs (H.add (cell z7)) H.n false 0 z7 := Cs.new wf false 0 z7
 have p7 : Part idN (hP []) (H.add (cell z7)) := p0.keep u7.n fun s hs => u7.old _ (p0.lt s hs)
 have n7 : (H.add (cell z7)).n = H.n + 1 := rfl
 obtain ⟨σ, CH, e, wc, nC, hσ, ⟨Y, Z, pC0⟩, out⟩ := pS (G := G3) (f := n12) (a0 := [.str t.T]) wL (Nat.le_refl 4) (iM _) K.comp ⟨trivial, trivial⟩ (fun b h1 h2 => absurd h2 (by have : (hP []).n = 4 := rfl; omega)) p7 w7 (fun s _ => rfl) (r0 := t.r0) ⟨K.mcv, ⟨trivial, trivial, trivial⟩, trivial⟩
 have wc : WF CH := wc
 have pC1 := M6 K.shut pC0
 have comp : VE pr (n + 2) n12 [.str t.T] (H.add (cell z7)) = some (.tup [.agg (br σ t.mc), .agg [I 0, I 0]], CH) := (mb F.comp (n + 1) _ _).trans e
 have keepC : ∀ b, 4 ≤ b → b < H.n + 1 → CH.get b = (H.add (cell z7)).get b ∧ ∀ s, s < (hP t.mods).n → σ s ≠ b := fun b hb hlt => by
  have := out b (by omega) hb fun s hs e => by
   have hs : s < 4 := hs
   have e : s = b := e
   omega
  exact ⟨this.1, fun s hs => this.2 s (by rw [Ht] at hs; exact hs)⟩
 generalize hmc : br σ t.mc = mc at comp
 have hml : mc.length = 6 := by rw [← hmc, xq, K.mcl]
 have hms : aI mc = true := by rw [← hmc, nU, K.mcs]
 have cz' : Cs CH H.n false 0 z7 := cz.same (keepC _ h4 (by omega)).1
 have w6 : WF (CH.add (cell z6)) := wc.add _
 have c6 : Cs (CH.add (cell z6)) CH.n false 0 z6 := Cs.new wc false 0 z6
 have c2 : Cs ((CH.add (cell z6)).add (cell z2)) (CH.n + 1) false 0 z2 := Cs.new w6 false 0 z2
 have c6' := c6.nu w6 (Nu.add w6 (cell z2))
 have u2 : Nu CH ((CH.add (cell z6)).add (cell z2)) := (Nu.add wc _).trans (Nu.add w6 _)
 obtain ⟨Ha, a1, a2, a3, a4, a5⟩ := c6'.wrs 0 mc (by rw [hml]; decide)
 have e6 : z6.take 0 ++ (mc ++ z6.drop (0 + mc.length)) = mc := by rw [hml]; simp [z6]
 rw [e6] at a2
 have c2' : Cs Ha (CH.n + 1) false 0 z2 := c2.same (a5 _ (by omega))
 obtain ⟨Hc, b1, b2, b3, b4, b5⟩ := c2'.wrs 0 [I 0, I 0] (by decide)
 have b2 : Cs Hc (CH.n + 1) false 0 [I 0, I 0] := b2
 have cm : Cs Hc CH.n false 0 mc := a2.same (b5 _ (by omega))
 have wHc : WF Hc := b4 (a4 (w6.add _))
 have nHc : Hc.n = CH.n + 2 := by rw [b3, a3]; rfl
 have oldc : ∀ b, b < CH.n → Hc.get b = CH.get b := fun b hb => by rw [b5 b (by omega), a5 b (by omega), u2.old b hb]
 unfold JD
 simp -implicitDefEqProofs only [DF, pC, comp, dH, kE, kD]
 rw [Ln, Lq, Du hms hml, a1]
 simp only [jt]
 rw [a1O, Du (n := 2) rfl rfl, b1]
 simp -implicitDefEqProofs [b2.rd]
 rw [Fi (VE pr (n + 2)) N hN _ _ _ N 0 1000000 x 0 .nilsl Hc rfl (by omega) (by omega)]
 obtain ⟨l', H', e, o⟩ := qg N x .nilsl Hc [] (Own.nil wHc 1) (by simp; omega)
 rw [e]
 simp only [dH, List.nil_append] at o ⊢
 have cm' := cm.nu wHc o.nu
 have cz2 : Cs H' H.n false 0 z7 := (cz'.same (oldc _ (by omega))).nu wHc o.nu
 have rm := cm'.rds 0 6 (by omega)
 rw [show (mc.drop 0).take 6 = mc by rw [List.drop_zero, List.take_of_length_le (by omega)]] at rm
 unfold wJ
 simp only [qU, rm, jt]
 have hHn : H.n < H'.n := cz2.lt o.nu.wf
 have pH : Part σ (hP t.mods) H' := pC1.keep (by have := o.nu.n; omega) fun s hs => by
  have := pC1.lt s hs
  rw [o.nu.old _ (by omega), oldc _ this]
 have nl := o.sv.num
 simp [gW] at nl
 have hlb := o.sv.blk (by omega)
 have hlg := o.new _ hlb
 have run := Ks K F n o.nu.wf pH hσ o.sv (vn N x) (by rw [gW]; exact hN) (by rw [gW]; exact hN0) (by omega) (fun s hs e => by have := pC1.lt s hs; omega)
 rw [hmc] at run
 refine a1T run fun v H1 hx => ?_
 obtain ⟨a, rfl, ⟨n0, hn0, ht⟩, w1, n1, k1⟩ := hx
 have cz3 : Cs H1 H.n false 0 z7 := cz2.same (k1 _ h4 hHn (keepC _ h4 (by omega)).2)
 have hsc := ht.scal
 simp -implicitDefEqProofs only [kE, kD]
 refine QW w1 (x := a) hsc.1 hsc.2 (by rfl) fun H2 u2' n2 c2 => ?_
 have r7 := c2.rds 0 7 (by rw [hsc.2]; omega)
 rw [show (a.cells.drop 0).take 7 = a.cells by rw [List.drop_zero, List.take_of_length_le (by rw [hsc.2]; omega)]] at r7
 have cz4 := cz3.nu w1 u2'
 have hHn1 : H.n < H1.n := cz3.lt w1
 simp -implicitDefEqProofs only [qU, r7, jt, GA, ht.agg]
 refine MI cz4 (x := a) hsc.1 hsc.2 (by simp [z7]) fun H3 t3 c3 => ?_
 have e7 : z7.take 0 ++ (a.cells ++ z7.drop (0 + 7)) = a.cells := by simp [z7]
 rw [e7] at c3
 have r8 := c3.rds 0 7 (by rw [hsc.2]; omega)
 rw [show (a.cells.drop 0).take 7 = a.cells by rw [List.drop_zero, List.take_of_length_le (by rw [hsc.2]; omega)]] at r8
 simp -implicitDefEqProofs [r8, aV, ht.agg]
 have hlow : H.n < n0 := Nat.lt_of_lt_of_le hHn hn0
 refine ⟨⟨n0, hlow, ht.mono (Nat.le_refl _) w1 fun b hb c => ?_⟩, t3.wf u2'.wf, by rw [t3.n]; have := u2'.n; omega, fun b hb hlt => ?_⟩
 · rw [t3.old b (by omega), u2'.old b c]
 · have kb := keepC b hb (by omega)
   have hlt2 : b < H'.n := by have := o.nu.n; omega
   rw [t3.old b (by omega), u2'.old b (by omega), k1 b hb hlt2 kb.2, o.nu.old b (by omega), oldc b (by omega), kb.1]
   exact u7.old b hlt
end
end
end Go.Proofs.YtcolbcpeialmhaaGreatDoor
