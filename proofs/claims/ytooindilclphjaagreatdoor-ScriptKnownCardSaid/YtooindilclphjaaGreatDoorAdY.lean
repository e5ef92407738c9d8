/- A function that was run once stands for its run: where it takes nothing and looks at the table alone. -/
import Derived.Test.YtooindilclphjaaGreatDoorAdF
namespace Go.Ab
open Go.RowKit (Below)
noncomputable section
section
variable {P : Program} {base : Nat} {G : List Nat} {prim : Prims} {f : Nat} {ρ : Ren} {H : AHeap} {W : World} {call : CallFn}

theorem calls_of_call (hc : CallOK P base G call) (hr : HR base ρ H W) (hg : Gl G ρ) (hno : ∀ k, ¬ Owns ρ H k) {args : List AV} {args' : List Value} (ha : VRs ρ args args')
    (h : isTrue (call f args H) = true) : Calls P f (List.toArray args') W fun e W' => e = .returned (.bool true) ∧ Below W.heap.size W W' := by
  cases he : call f args H with
  | none => rw [he] at h; cases h
  | some x =>
    obtain ⟨v, H'⟩ := x
    rw [he] at h
    refine ((hc f args H v H' he).2 ρ W args' hr hg ha).mono ?_
    rintro e W' ⟨ρ', v', rfl, hv, _, hx⟩
    simp only [isTrue] at h
    refine ⟨?_, ⟨hx.os, hx.tape, hx.output, hx.size, fun k hk => hx.frame k hk (hno k)⟩⟩
    cases v <;> simp only [isB] at h <;> (try cases h; done)
    rename_i b
    rw [bbeq_eq] at h
    have hv : v' = .bool b := hv
    rw [hv]
    cases b
    · simp at h
    · rfl

/-- It is true wherever the table lies. -/
def TrueOverTab (P : Program) (f : Nat) (l : List Int) : Prop := ∀ (W : World) (k : Nat), HR W.heap.size (tabR k) (tabH l) W → Calls P f #[] W fun e W' => e = .returned (.bool true) ∧ Below W.heap.size W W'

def primTab (l : List Int) (args : List AV) (H : AHeap) : Option (AV × AHeap) := match args with
  | [] => match H.get 0 with
    | some (.cells _ _ _ t) => match t.rdN 0 l.length with
      | some vs => cond (AV.beqs vs (u8s l)) (some (.bool true, H)) none
      | none => none
    | _ => none
  | _ => none

theorem primTab_ok {l : List Int} (hcb : Callable P f) (h0 : G.contains 0 = true) (ht : TrueOverTab P f l) {args : List AV} {H' : AHeap} {v : AV} (h : primTab l args H = some (v, H')) :
    Callable P f ∧ ∀ ρ w args', HR base ρ H w → Gl G ρ → VRs ρ args args' → Calls P f (List.toArray args') w fun e w' => ∃ ρ' v', e = .returned v' ∧ VR ρ' v v' ∧ HR base ρ' H' w' ∧ Ext ρ H w ρ' H' w' := by
  refine ⟨hcb, fun ρ w args' hr hg ha => ?_⟩
  cases args with
  | cons a r => cases h
  | nil =>
    have ha : args' = [] := ha
    subst ha
    simp only [primTab] at h
    obtain ⟨L, hL, hb, ho⟩ := hg 0 h0
    cases hg0 : H.get 0 with
    | none => rw [hg0] at h; cases h
    | some o =>
      rw [hg0] at h
      cases o <;> simp only at h <;> (try cases h; done)
      rename_i ro esz n t
      cases hv : t.rdN 0 l.length with
      | none => rw [hv] at h; cases h
      | some vs =>
        rw [hv] at h
        simp only at h
        cases hbe : AV.beqs vs (u8s l) with
        | false => rw [hbe] at h; cases h
        | true =>
          rw [hbe] at h; cases h
          have hvs : vs = u8s l := AV.beqs_eq hbe
          subst hvs
          obtain ⟨h1, h2, h3, h4, c, el, fr, h5, h6, h7, h8⟩ := hr.obj 0 L _ hL hg0
          rw [hb] at h5
          rw [ho] at h8
          obtain ⟨e1, e2⟩ := Tr.rdN_spec hv
          have hcell : ∀ (i : Nat) (n : Int), l[i]? = some n → c[i]? = some (Value.int .u8 n) := fun i n hi => by
            have hi' : i < l.length := by
              rcases Nat.lt_or_ge i l.length with q | q
              · exact q
              · rw [List.getElem?_eq_none q] at hi; cases hi
            have hget : (u8s l)[i]? = some (.int .u8 n) := by
              have : i < (u8s l).length := by rw [u8s_length]; exact hi'
              have hx := List.getElem?_eq_getElem this
              obtain ⟨m, q1, q2⟩ := u8s_get hx
              rw [hi] at q1; cases q1
              rw [hx, q2]
            have := e2 i hi'
            rw [hget, Nat.zero_add] at this
            obtain ⟨v', q1, q2⟩ := h8 i _ this
            have q2 : v' = .int .u8 n := q2
            rw [Nat.zero_add, q2] at q1
            exact q1
          refine (ht w c.size (tab_HR h5 hcell).1).mono ?_
          rintro e w' ⟨rfl, hbl⟩
          obtain ⟨f1, f2⟩ := hr.below hbl
          exact ⟨ρ, _, rfl, rfl, f1, f2⟩
end
end
end Go.Ab
