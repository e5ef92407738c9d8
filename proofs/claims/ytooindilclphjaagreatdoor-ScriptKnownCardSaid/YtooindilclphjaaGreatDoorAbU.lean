/- From a run to a call; a table that lies before the call. -/
import Derived.Test.YtooindilclphjaaGreatDoorAbT
import Derived.OpenShut
import Derived.ChangeArms
namespace Go.Ab
open Go.RowKit (Below)
noncomputable section

section
variable {P : Program} {base : Nat} {G : List Nat} {prim : Prims} {N n f : Nat} {ρ : Ren} {H : AHeap} {W : World}

theorem calls_of_run (hm : P.follows .mixedOrders = true) (hp : PrimOK P base G prim) (hr : HR base ρ H W) (hg : Gl G ρ) (hno : ∀ k, ¬ Owns ρ H k) {args : List AV} {args' : List Value} (ha : VRs ρ args args')
    (h : isTrue (evF P G prim N n f args H) = true) : Calls P f (List.toArray args') W fun e W' => e = .returned (.bool true) ∧ Below W.heap.size W W' := by
  cases he : evF P G prim N n f args H with
  | none => rw [he] at h; cases h
  | some x =>
    obtain ⟨v, H'⟩ := x
    rw [he] at h
    refine ((evF_sound hm hp n f args H v H' he).2 ρ W args' hr hg ha).mono ?_
    rintro e W' ⟨ρ', v', rfl, hv, _, hx⟩
    simp only [isTrue] at h
    refine ⟨?_, ⟨hx.os, hx.tape, hx.output, hx.size, fun k hk => hx.frame k hk (hno k)⟩⟩
    cases v <;> simp only [isB] at h <;> (try cases h; done)
    rename_i b
    rw [bbeq_eq] at h
    have hv : v' = .bool b := hv
    rw [hv]
    cases b
    · simp at h
    · rfl

/-- The two sorts. -/
def prim2 (s1 g1 s2 g2 : Nat) : Prims := fun f => cond (Nat.beq f s1) (some (primSorted g1)) (cond (Nat.beq f s2) (some (primSorted g2)) none)

theorem prim2_ok {s1 g1 k1 e1 s2 g2 k2 e2 : Nat} (h1 : SortsKeys P s1 g1 k1 e1) (h2 : SortsKeys P s2 g2 k2 e2) : PrimOK P base G (prim2 s1 g1 s2 g2) := by
  intro f args H v H' h
  unfold prim2 at h
  dsimp only at h
  cases c1 : Nat.beq f s1 with
  | true =>
    rw [c1] at h
    obtain rfl := Nat.eq_of_beq_eq_true c1
    exact primSorted_ok h1 h
  | false =>
    rw [c1] at h
    cases c2 : Nat.beq f s2 with
    | true =>
      rw [c2] at h
      obtain rfl := Nat.eq_of_beq_eq_true c2
      exact primSorted_ok h2 h
    | false => rw [c2] at h; cases h

/-- Bytes. -/
def u8s : List Int → List AV
  | [] => []
  | a :: r => .int .u8 a :: u8s r

/-- One table, in the variable number 0. -/
def tabH (l : List Int) : AHeap := { n := 1, t := Tr.ofList [.cells true 0 l.length (Tr.ofList (u8s l))] }
def tabR (k : Nat) : Ren := fun b => if b = 0 then some ⟨0, 0, k, 0⟩ else none

theorem u8s_length : ∀ l, (u8s l).length = l.length
  | [] => rfl
  | _ :: r => by simp [u8s, u8s_length r]

theorem u8s_get : ∀ {l : List Int} {i : Nat} {v : AV}, (u8s l)[i]? = some v → ∃ n, l[i]? = some n ∧ v = .int .u8 n
  | [], i, v, h => by simp [u8s] at h
  | a :: r, i, v, h => by
    cases i with
    | zero => simp [u8s] at h; exact ⟨a, rfl, h.symm⟩
    | succ i => obtain ⟨n, h1, h2⟩ := u8s_get (l := r) (i := i) (by simpa [u8s] using h); exact ⟨n, by simpa using h1, h2⟩

theorem tab_HR {l : List Int} {c : Array Value} {el : TypeId} {fr : Nat × Nat} (h : W.heap[0]? = some (.cells c el fr)) (hl : ∀ (i : Nat) (n : Int), l[i]? = some n → c[i]? = some (Value.int .u8 n)) :
    HR W.heap.size (tabR c.size) (tabH l) W ∧ Gl [0] (tabR c.size) ∧ ∀ k, ¬ Owns (tabR c.size) (tabH l) k := by
  have hget : ∀ b, (tabH l).get b = if b = 0 then some (.cells true 0 l.length (Tr.ofList (u8s l))) else none := fun b => by
    show (Tr.ofList [_]).get? b = _
    rw [Tr.get?_ofList]
    by_cases e : b = 0
    · subst e; rfl
    · rw [if_neg e]
      cases b with
      | zero => exact absurd rfl e
      | succ b => rfl
  have hdom : ∀ b L, tabR c.size b = some L → b = 0 ∧ L = ⟨0, 0, c.size, 0⟩ := fun b L e => by
    unfold tabR at e
    by_cases hb : b = 0
    · rw [if_pos hb] at e; cases e; exact ⟨hb, rfl⟩
    · rw [if_neg hb] at e; cases e
  have hlt := lt_of_get h
  have hlen : l.length ≤ c.size := by
    rcases Nat.eq_zero_or_pos l.length with e | e
    · omega
    · have hi : l.length - 1 < l.length := by omega
      have := lt_of_get (hl (l.length - 1) _ (List.getElem?_eq_getElem hi))
      omega
  refine ⟨⟨(show (tabH l).t.Full (tabH l).n from Tr.full_ofList [AObj.cells true 0 l.length (Tr.ofList (u8s l))]), Nat.le_refl _, fun b L e => ?_, fun b L o e ho => ?_, fun b b' L L' o o' e e' ho ho' h1 h2 hne => ?_⟩, fun g hg => ?_, ?_⟩
  · obtain ⟨rfl, rfl⟩ := hdom b L e
    exact ⟨Nat.lt_succ_self 0, hlt⟩
  · obtain ⟨rfl, rfl⟩ := hdom b L e
    rw [hget, if_pos rfl] at ho
    cases ho
    refine ⟨⟨rfl, fun _ => rfl⟩, ?_, by show 0 + l.length ≤ c.size; omega, (fun e => by cases e), c, el, fr, h, (fun e => by cases e), rfl, fun i v hv => ?_⟩
    · have := Tr.full_ofList (u8s l)
      rwa [u8s_length] at this
    · rw [Tr.get?_ofList] at hv
      obtain ⟨n, e1, rfl⟩ := u8s_get hv
      exact ⟨_, by show c[0 + i]? = _; rw [Nat.zero_add]; exact hl i n e1, rfl⟩
  · obtain ⟨rfl, rfl⟩ := hdom b L e
    obtain ⟨rfl, rfl⟩ := hdom b' L' e'
    exact absurd rfl hne
  · simp at hg
    subst hg
    exact ⟨⟨0, 0, c.size, 0⟩, if_pos rfl, rfl, rfl⟩
  · rintro k ⟨b, L, o, e, ho, hown, _⟩
    obtain ⟨rfl, rfl⟩ := hdom b L e
    rw [hget, if_pos rfl] at ho
    cases ho
    cases hown

/-- The cells of a table of bytes, out of its reading. -/
theorem bytes_of_trod {t e m k : Nat} {cs : List Value} {l : List Int} {P : Program} {w : World} {H : Type} {enc : TypeId × Value → H} {b : Nat} {sp : Nat → Bool} {hd : Bool} {q : List MemPlace}
    (ht : P.underlying t = some (.array k e)) (he : P.underlying e = some (.int .u8)) (hc : P.cellsOf e = 1)
    (h : DataW.trod enc P w b sp hd m t cs = some (.agg (l.map fun n => .lit (.int .u8 n)), q)) : ∀ (i : Nat) (n : Int), l[i]? = some n → cs[i]? = some (Value.int .u8 n) := by
  intro i n hi
  obtain ⟨xs, m', _, hx, hlen, hxl, hel⟩ := DataW.trod_array ht h
  simp only [Prod.mk.injEq, DataW.agg.injEq] at hx
  have hxs : (xs.map (·.1))[i]? = some (.lit (.int .u8 n)) := by
    rw [← hx.1, List.getElem?_map, hi]; rfl
  rw [List.getElem?_map, Option.map_eq_some_iff] at hxs
  obtain ⟨x, hx1, hx2⟩ := hxs
  have hik : i < k := by
    rw [← hxl]
    rcases Nat.lt_or_ge i xs.length with c | c
    · exact c
    · rw [List.getElem?_eq_none c] at hx1; cases hx1
  have h1 := hel i hik
  rw [hx1, hc, Nat.mul_one] at h1
  obtain ⟨n', e1, e2, _⟩ := DataW.trod_int he h1
  rw [e2] at hx2
  cases hx2
  have := congrArg (·[0]?) e1
  simpa [List.getElem?_take, List.getElem?_drop] using this

end
end
end Go.Ab
namespace Go.Ab
noncomputable def emptyH : AHeap := { n := 0, t := Tr.ofList [] }
theorem empty_HR (W : World) : HR W.heap.size (fun _ => none) emptyH W := {
  full := Tr.full_ofList []
  low := Nat.le_refl _
  dom := fun _ _ e => by cases e
  obj := fun _ _ _ e => by cases e
  apart := fun _ _ _ _ _ _ e => by cases e
  }
theorem empty_G : Gl [] (fun _ => none) := fun g hg => by simp at hg
theorem empty_no (k : Nat) : ¬ Owns (fun _ => none) emptyH k := fun ⟨_, _, _, e, _⟩ => by cases e
end Go.Ab
