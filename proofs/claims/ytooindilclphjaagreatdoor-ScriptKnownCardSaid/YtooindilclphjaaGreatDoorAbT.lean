/- The keys of a map, sorted: the one thing that is not run. -/
import Derived.Test.YtooindilclphjaaGreatDoorAbS
import Derived.Lib.SlKeysI
import Derived.Maps.Range
import Derived.Below
namespace Go.Ab
open Go.RowKit (Below)
noncomputable section

/-- Puts a number where it belongs. -/
def insI (a : Int) : List Int → List Int
  | [] => [a]
  | b :: r => cond (ile a b) (a :: b :: r) (b :: insI a r)

def keysI : List (AV × AV × Nat) → Option (List Int)
  | [] => some []
  | (k, _, _) :: r => match k with
    | .int kd n => match keysI r with
      | some l => cond (kindEq kd .i64) (some (insI n l)) none
      | none => none
    | _ => none

def intAVs : List Int → List AV
  | [] => []
  | a :: r => .int .i64 a :: intAVs r

def isTrue (r : Option (AV × AHeap)) : Bool := match r with
  | some (v, _) => isB v true
  | none => false

/-- Entries stand as they were born. -/
def bornUp (clock : Nat) : Nat → List (AV × AV × Nat) → Bool
  | _, [] => true
  | lo, (_, _, s) :: r => cond (Nat.ble lo s && Nat.ble (Nat.succ s) clock) (bornUp clock (Nat.succ s) r) false

/-- Each above the one before, and a number of the kind. -/
def risesI (a : Int) : List Int → Bool
  | [] => ile a 9223372036854775807
  | b :: r => cond (ile b a) false (risesI b r)
def okKs : List Int → Bool
  | [] => true
  | a :: r => cond (ile (-9223372036854775808) a) (risesI a r) false

def sortedTo (H : AHeap) : List Int → AV × AHeap
  | [] => (.nilsl, H)
  | a :: r => (.sl H.n 0 (a :: r).length none, H.add (.cells false 1 (a :: r).length (Tr.ofList (intAVs (a :: r)))))

/-- slices.Sorted at the iterator of maps.Keys, the function number g. -/
def primSorted (g : Nat) (args : List AV) (H : AHeap) : Option (AV × AHeap) := match args with
  | [.fn f [] [.ptr b o]] => cond (Nat.beq f g && Nat.beq o 0) (match H.get b with
    | some (.cells _ esz _ t) => cond (Nat.beq esz 0) (match t.get? 0 with
      | some .nilmap => some (.nilsl, H)
      | some (.map m) => match H.get m with
        | some (.map es clock) => cond (Nat.ble es.length 1000000 && bornUp clock 0 es) (match keysI es with
          | some ks => cond (okKs ks) (some (sortedTo H ks)) none
          | none => none) none
        | _ => none
      | _ => none) none
    | _ => none) none
  | _ => none

section
variable {base : Nat} {ρ : Ren} {H : AHeap} {w w' : World}

theorem HR.below (h : HR base ρ H w) (hb : Below w.heap.size w w') : HR base ρ H w' ∧ Ext ρ H w ρ H w' := by
  refine ⟨⟨h.full, Nat.le_trans h.low hb.size, fun b L e => ⟨(h.dom b L e).1, Nat.lt_of_lt_of_le (h.dom b L e).2 hb.size⟩, fun b L o e ho => (h.obj b L o e ho).mono (Sub.refl _) (hb.block _ (h.dom b L e).2), h.apart⟩,
    ⟨Nat.le_refl _, fun _ _ => rfl, fun _ _ _ => rfl, hb.size, fun k hk _ => hb.block k hk, fun _ h => .inr h, hb.os, hb.tape, hb.output⟩⟩

/-- Something new, somewhere behind what was there. -/
theorem HR.later_new {L : Loc} {o : AObj} (h : HR base ρ H w) (hb : Below w.heap.size w w') (hL : w.heap.size ≤ L.blk) (hlt : L.blk < w'.heap.size) (hor : OR base (ρ.upd H.n L) L o w') :
    HR base (ρ.upd H.n L) (H.add o) w' ∧ Ext ρ H w (ρ.upd H.n L) (H.add o) w' := by
  have hn := h.none (Nat.le_refl H.n)
  refine ⟨⟨h.full.push _, Nat.le_trans h.low hb.size, fun i K e => ?_, fun i K x e hx => ?_, fun i j K K' x x' e e' hx hx' ho1 ho2 hne => ?_⟩, ⟨Nat.le_succ _, fun i hi => ?_, fun i hi _ => ?_, hb.size, fun k hk _ => hb.block k hk, ?_, hb.os, hb.tape, hb.output⟩⟩
  · by_cases c : i = H.n
    · subst c; rw [Ren.upd_same] at e; cases e; exact ⟨Nat.lt_succ_self _, hlt⟩
    · rw [Ren.upd_ne _ _ c] at e; have := h.dom i K e; exact ⟨Nat.lt_succ_of_lt this.1, Nat.lt_of_lt_of_le this.2 hb.size⟩
  · rw [AHeap.get_add h] at hx
    by_cases c : i = H.n
    · rw [if_pos c] at hx; cases hx; subst c; rw [Ren.upd_same] at e; cases e; exact hor
    · rw [if_neg c] at hx
      rw [Ren.upd_ne _ _ c] at e
      exact (h.obj i K x e hx).mono (Ren.sub_upd L hn) (hb.block _ (h.dom i K e).2)
  · rw [AHeap.get_add h] at hx hx'
    by_cases c : i = H.n <;> by_cases c' : j = H.n
    · omega
    · subst c; rw [Ren.upd_same] at e; cases e; rw [Ren.upd_ne _ _ c'] at e'; have := (h.dom j K' e').2; omega
    · subst c'; rw [Ren.upd_same] at e'; cases e'; rw [Ren.upd_ne _ _ c] at e; have := (h.dom i K e).2; omega
    · rw [if_neg c] at hx; rw [if_neg c'] at hx'
      rw [Ren.upd_ne _ _ c] at e; rw [Ren.upd_ne _ _ c'] at e'; exact h.apart i j K K' x x' e e' hx hx' ho1 ho2 hne
  · rw [Ren.upd_ne _ _ (by omega)]
  · rw [AHeap.get_add h, if_neg (by omega)]
  · rintro k ⟨i, K, x, e, hx, ho, hk⟩
    rw [AHeap.get_add h] at hx
    by_cases c : i = H.n
    · subst c; rw [Ren.upd_same] at e; cases e; exact .inl (by omega)
    · rw [if_neg c] at hx; rw [Ren.upd_ne _ _ c] at e; exact .inr ⟨i, K, x, e, hx, ho, hk⟩

theorem insI_perm (a : Int) : ∀ l, (insI a l).Perm (a :: l)
  | [] => .refl _
  | b :: r => by
    simp only [insI]
    cases ile a b with
    | true => exact .refl _
    | false => exact ((insI_perm a r).cons b).trans (.swap a b r)

theorem insI_sorted (a : Int) : ∀ {l : List Int}, l.Pairwise (fun x y => leI x y = true) → (insI a l).Pairwise (fun x y => leI x y = true)
  | [], _ => by simp [insI]
  | b :: r, h => by
    obtain ⟨h1, h2⟩ := List.pairwise_cons.1 h
    simp only [insI]
    cases hc : ile a b with
    | true =>
      rw [ile_eq] at hc
      have hab : a ≤ b := by simpa using hc
      refine List.pairwise_cons.2 ⟨fun y hy => ?_, h⟩
      rcases List.mem_cons.1 hy with rfl | hy
      · simpa [leI] using hab
      · have := h1 y hy
        simp only [leI, decide_eq_true_eq] at this ⊢
        omega
    | false =>
      rw [ile_eq] at hc
      have hab : ¬ a ≤ b := by simpa using hc
      refine List.pairwise_cons.2 ⟨fun y hy => ?_, insI_sorted a h2⟩
      have hy' := (insI_perm a r).mem_iff.1 hy
      rcases List.mem_cons.1 hy' with rfl | hy'
      · simp only [leI, decide_eq_true_eq]; omega
      · exact h1 y hy'

/-- The keys as numbers. -/
theorem keysI_spec : ∀ {es : List (AV × AV × Nat)} {es' : List MapEntry} {ks : List Int}, keysI es = some ks → ER ρ es es' →
    (∀ x ∈ es', ∃ n, x.key = encZ n ∧ n ∈ ks) ∧ ks.Perm (es'.map fun x => match x.key with | .int _ n => n | _ => 0) ∧ ks.Pairwise (fun x y => leI x y = true)
  | [], _, ks, h, e => by
    cases h
    have e : _ = [] := e
    subst e
    exact ⟨fun x hx => (by cases hx), .refl _, .nil⟩
  | (k, v, s) :: r, _, ks, h, ⟨x, m, e, h1, h2, h3, h4⟩ => by
    subst e
    simp only [keysI] at h
    cases k <;> simp only at h <;> (try cases h; done)
    rename_i kd n
    cases hr : keysI r with
    | none => rw [hr] at h; cases h
    | some l =>
      rw [hr] at h
      simp only at h
      cases hk : kindEq kd .i64 with
      | false => rw [hk] at h; cases h
      | true =>
        rw [hk] at h; cases h
        obtain rfl := kindEq_true hk
        obtain ⟨q1, q2, q3⟩ := keysI_spec hr h4
        have hx : x.key = encZ n := h1
        refine ⟨fun y hy => ?_, ?_, insI_sorted n q3⟩
        · rcases List.mem_cons.1 hy with rfl | hy
          · exact ⟨n, hx, (insI_perm n l).mem_iff.2 List.mem_cons_self⟩
          · obtain ⟨n', e1, e2⟩ := q1 y hy
            exact ⟨n', e1, (insI_perm n l).mem_iff.2 (List.mem_cons_of_mem _ e2)⟩
        · refine (insI_perm n l).trans ?_
          rw [List.map_cons, hx]
          exact q2.cons n

theorem risesI_spec : ∀ {l : List Int} {a : Int}, risesI a l = true → (∀ x ∈ l, a < x) ∧ l.Nodup ∧ ∀ x ∈ a :: l, x ≤ 9223372036854775807
  | [], a, h => by
    rw [risesI, ile_eq] at h
    refine ⟨fun x hx => (by cases hx), List.nodup_nil, fun x hx => ?_⟩
    simp only [List.mem_singleton] at hx
    subst hx; simpa using h
  | b :: r, a, h => by
    simp only [risesI] at h
    cases hc : ile b a with
    | true => rw [hc] at h; cases h
    | false =>
      rw [hc] at h
      rw [ile_eq] at hc
      have hab : ¬ b ≤ a := by simpa using hc
      obtain ⟨q1, q2, q3⟩ := risesI_spec (a := b) h
      refine ⟨fun x hx => ?_, List.nodup_cons.2 ⟨fun hb => ?_, q2⟩, fun x hx => ?_⟩
      · rcases List.mem_cons.1 hx with rfl | hx
        · omega
        · have := q1 x hx; omega
      · have := q1 b hb; omega
      · rcases List.mem_cons.1 hx with rfl | hx
        · have := q3 b List.mem_cons_self; omega
        · exact q3 x hx

theorem okKs_spec {l : List Int} (h : okKs l = true) : l.Nodup ∧ ∀ x ∈ l, (Lit.int .i64 x).wf = true := by
  cases l with
  | nil => exact ⟨List.nodup_nil, fun x hx => by cases hx⟩
  | cons a r =>
    simp only [okKs] at h
    cases hc : ile (-9223372036854775808) a with
    | false => rw [hc] at h; cases h
    | true =>
      rw [hc] at h
      rw [ile_eq] at hc
      have hlo : -9223372036854775808 ≤ a := by simpa using hc
      obtain ⟨q1, q2, q3⟩ := risesI_spec h
      refine ⟨List.nodup_cons.2 ⟨fun ha => ?_, q2⟩, fun x hx => ?_⟩
      · have := q1 a ha; omega
      · have h1 := q3 x hx
        have h2 : -9223372036854775808 ≤ x := by
          rcases List.mem_cons.1 hx with rfl | hx
          · exact hlo
          · have := q1 x hx; omega
        have m1 : IntKind.min .i64 = -9223372036854775808 := by decide
        have m2 : IntKind.max .i64 = 9223372036854775807 := by decide
        simp only [Lit.wf, m1, m2, Bool.and_eq_true, decide_eq_true_eq]
        exact ⟨h2, h1⟩

theorem bornUp_spec {clock : Nat} : ∀ {es : List (AV × AV × Nat)} {es' : List MapEntry} {lo : Nat}, bornUp clock lo es = true → ER ρ es es' →
    (∀ x ∈ es', x.born < clock ∧ lo ≤ x.born) ∧ (es'.map (·.born)).Nodup
  | [], _, _, _, e => by
    have e : _ = [] := e
    subst e
    exact ⟨fun x hx => (by cases hx), List.nodup_nil⟩
  | (k, v, s) :: r, _, lo, h, ⟨x, m, e, h1, h2, h3, h4⟩ => by
    subst e
    simp only [bornUp] at h
    cases hc : (Nat.ble lo s && Nat.ble (Nat.succ s) clock) with
    | false => rw [hc] at h; cases h
    | true =>
      rw [hc] at h
      simp only [Bool.and_eq_true] at hc
      have c1 := Nat.le_of_ble_eq_true hc.1
      have c2 := Nat.le_of_ble_eq_true hc.2
      obtain ⟨q1, q2⟩ := bornUp_spec h h4
      refine ⟨fun y hy => ?_, ?_⟩
      · rcases List.mem_cons.1 hy with rfl | hy
        · rw [h3]; omega
        · have := q1 y hy; omega
      · rw [List.map_cons]
        refine List.nodup_cons.2 ⟨fun hb => ?_, q2⟩
        obtain ⟨y, hy, e⟩ := List.mem_map.1 hb
        have := (q1 y hy).2
        omega

theorem intAVs_VRs : ∀ (l : List Int), VRs ρ (intAVs l) (l.map encZ)
  | [] => rfl
  | _a :: r => ⟨_, _, rfl, rfl, intAVs_VRs r⟩

end

/-- What slices.Sorted promises of the keys of a map. -/
structure SortsKeys (P : Program) (s g : Nat) (k tE : TypeId) : Prop where
  call : Callable P s
  key : P.underlying k = some (.int .i64)
  maps : ∀ (b nn : Nat) (D0 : DataW Unit) (R : Value → Option (DataW Unit × List MemPlace)) (W : World) (Bm : Nat), Bm < W.heap.size → W.cell? ⟨Bm, 0, none⟩ = some (.map (some b)) → W.ownsMap P k R b nn D0 → Maps.size D0 ≤ maxLen → Maps.size D0 * 8 ≤ 140737488355328 →
    Calls P s #[.func (.func g) #[] #[.pointer (some ⟨Bm, 0, none⟩)]] W fun e w' => ∃ (v : Value) (ss : List Int), e = .returned v ∧ ss.Perm (intKeys D0) ∧ w'.ownsRow W.heap.size tE 1 v ss.length ((ss.mergeSort leI).map encZ) ∧ (v = .slice none 0 0 ↔ ss = []) ∧ Below W.heap.size W w'
  nil : ∀ (W : World) (Bm : Nat), Bm < W.heap.size → W.cell? ⟨Bm, 0, none⟩ = some (.map none) →
    Calls P s #[.func (.func g) #[] #[.pointer (some ⟨Bm, 0, none⟩)]] W fun e w' => e = .returned (.slice none 0 0) ∧ Below W.heap.size W w'

theorem primSorted_ok {P : Program} {base : Nat} {s g : Nat} {k tE : TypeId} {G : List Nat} (S : SortsKeys P s g k tE) {args : List AV} {H H' : AHeap} {v : AV} (h : primSorted g args H = some (v, H')) :
    Callable P s ∧ ∀ ρ w args', HR base ρ H w → Gl G ρ → VRs ρ args args' → Calls P s (List.toArray args') w fun e w' => ∃ ρ' v', e = .returned v' ∧ VR ρ' v v' ∧ HR base ρ' H' w' ∧ Ext ρ H w ρ' H' w' := by
  refine ⟨S.call, fun ρ w args' hr hg ha => ?_⟩
  unfold primSorted at h
  split at h
  · rename_i f b o
    cases hfg : (Nat.beq f g && Nat.beq o 0) with
    | false => rw [hfg] at h; cases h
    | true =>
      rw [hfg] at h
      simp only [cond_true] at h
      simp only [Bool.and_eq_true] at hfg
      obtain rfl := Nat.eq_of_beq_eq_true hfg.1
      obtain rfl := Nat.eq_of_beq_eq_true hfg.2
      obtain ⟨y, r, rfl, ⟨a', b', rfl, ha1, ha2⟩, hrn⟩ := ha
      have hrn : r = [] := hrn
      subst hrn
      have ha1 : a' = [] := ha1
      subst ha1
      obtain ⟨p, r2, rfl, ⟨L, hL, rfl⟩, hr2⟩ := ha2
      have hr2 : r2 = [] := hr2
      subst hr2
      cases hb : H.get b with
      | none => rw [hb] at h; cases h
      | some ob =>
        rw [hb] at h
        cases ob <;> simp only at h <;> (try cases h; done)
        rename_i ro esz nb t
        cases hz : Nat.beq esz 0 with
        | false => rw [hz] at h; cases h
        | true =>
          rw [hz] at h
          simp only [cond_true] at h
          obtain rfl := Nat.eq_of_beq_eq_true hz
          obtain ⟨⟨_, hoff⟩, h2, h3, h4, c, el, fr, h5, h6, h7, h8⟩ := hr.obj b L _ hL hb
          have hoff := hoff rfl
          have hLb := (hr.dom b L hL).2
          have hcell : ∀ x, t.get? 0 = some x → ∃ x', w.cell? ⟨L.blk, 0, none⟩ = some x' ∧ VR ρ x x' := fun x hx => by
            obtain ⟨x', e1, e2⟩ := h8 0 x hx
            rw [hoff] at e1
            exact ⟨x', by simp only [World.cell?, h5]; simpa using e1, e2⟩
          rw [hoff]
          cases ht : t.get? 0 with
          | none => rw [ht] at h; cases h
          | some x =>
            rw [ht] at h
            obtain ⟨x', hx1, hx2⟩ := hcell x ht
            cases x <;> simp only at h <;> (try cases h; done)
            · -- the nil map
              cases h
              have hx2 : x' = .map none := hx2
              subst hx2
              refine (S.nil w L.blk hLb hx1).mono ?_
              rintro e w' ⟨rfl, hbl⟩
              obtain ⟨f1, f2⟩ := hr.below hbl
              exact ⟨ρ, _, rfl, rfl, f1, f2⟩
            · rename_i m
              obtain ⟨M, hM, rfl⟩ := hx2
              cases hm : H.get m with
              | none => rw [hm] at h; cases h
              | some om =>
                rw [hm] at h
                cases om <;> simp only at h <;> (try cases h; done)
                rename_i es clock
                cases hok : (Nat.ble es.length 1000000 && bornUp clock 0 es) with
                | false => rw [hok] at h; cases h
                | true =>
                  rw [hok] at h
                  simp only [cond_true] at h
                  simp only [Bool.and_eq_true] at hok
                  have hlen := Nat.le_of_ble_eq_true hok.1
                  cases hks : keysI es with
                  | none => rw [hks] at h; cases h
                  | some ks =>
                    rw [hks] at h
                    simp only at h
                    cases hokk : okKs ks with
                    | false => rw [hokk] at h; cases h
                    | true =>
                      rw [hokk] at h
                      simp only [cond_true] at h
                      obtain ⟨_, _, es', hes, hER⟩ := hr.obj m M _ hM hm
                      obtain ⟨k1, k2, k3⟩ := keysI_spec hks hER
                      obtain ⟨o1, o2⟩ := okKs_spec hokk
                      obtain ⟨b1, b2⟩ := bornUp_spec hok.2 hER
                      have hle : es'.length = es.length := (ER.length hER).symm
                      let R : Value → Option (DataW Unit × List MemPlace) := fun _ => some (.nil, [])
                      have hrd : ∀ x ∈ es', ∃ n, x.key = encZ n ∧ WideElems.rd P k R x = some (.int .i64 n, .nil) := fun x hx => by
                        obtain ⟨n, e1, e2⟩ := k1 x hx
                        refine ⟨n, e1, ?_⟩
                        have : keyOf P k (encZ n) = some (.int .i64 n) := by
                          simp [keyOf, S.key, mapKey, encZ, o2 n e2]
                        simp [WideElems.rd, e1, this, R]
                      have hnd : (es'.map (·.key)).Nodup := by
                        have := k2.nodup_iff.1 o1
                        refine (List.pairwise_map.2 ?_)
                        refine (List.pairwise_map.1 this).imp ?_
                        intro x y hne e
                        exact hne (by rw [e])
                      have hfit : WideElems.Fit P k R es'.toArray clock := ⟨by simp only [List.size_toArray]; rw [hle]; have : maxLen = 9223372036854775807 := rfl; omega, ⟨fun x hx => (b1 x (by simpa using hx)).1, by simpa using b2, by simpa using hnd⟩, fun x hx => by obtain ⟨n, _, e⟩ := hrd x (by simpa using hx); exact ⟨_, e⟩⟩
                      have hown : w.ownsMap P k R M.blk es'.length (.map ((es'.map (WideElems.rg P k R)).foldr DataW.insert [])) := ⟨es'.toArray, clock, hes, hfit, by simp, by simp⟩
                      have hsz : Maps.size (DataW.map ((es'.map (WideElems.rg P k R)).foldr DataW.insert [])) = es.length := by
                        rw [Maps.size_eq, length_sorted, List.length_map, hle]
                      have hperm : (intKeys (DataW.map ((es'.map (WideElems.rg P k R)).foldr DataW.insert []))).Perm ks := by
                        show (List.map (fun p : Lit × DataW Unit => intOf p.1) _).Perm ks
                        refine ((Go.WideShapes.sorted_perm _).map _).trans ?_
                        rw [List.map_map]
                        refine List.Perm.trans ?_ k2.symm
                        refine List.Perm.of_eq (List.map_congr_left fun x hx => ?_)
                        obtain ⟨n, e1, e2⟩ := hrd x hx
                        simp only [Function.comp, WideElems.rg, e2, Option.getD_some, e1]
                        rfl
                      refine (S.maps M.blk es'.length _ R w L.blk hLb hx1 hown (by rw [hsz]; have : maxLen = 9223372036854775807 := rfl; omega) (by rw [hsz]; omega)).mono ?_
                      rintro e w' ⟨v', ss, rfl, hp, hrow, hnil, hbl⟩
                      have hpk := hp.trans hperm
                      have hms : ss.mergeSort leI = ks := by
                        rw [mergeSort_of_perm_i hpk]
                        exact List.mergeSort_of_pairwise k3
                      rw [hms] at hrow
                      cases ks with
                      | nil =>
                        cases h
                        have hss : ss = [] := List.Perm.eq_nil hpk
                        obtain rfl := hnil.2 hss
                        obtain ⟨f1, f2⟩ := hr.below hbl
                        exact ⟨ρ, _, rfl, rfl, f1, f2⟩
                      | cons a r =>
                        have hlen' : ss.length = (a :: r).length := hpk.length_eq
                        cases h
                        rcases hrow.2 with ⟨hv, hz0⟩ | ⟨g', cap, cur, rfl, hbase, hgb, r1, r2, r3, r4⟩
                        · rw [hlen'] at hz0; simp at hz0
                        · rw [Nat.mul_one] at r3 r4
                          have hglt : g' < w'.heap.size := lt_of_get hgb
                          have hor : OR base (ρ.upd H.n ⟨g', 0, cap, 1⟩) ⟨g', 0, cap, 1⟩ (.cells false 1 (a :: r).length (Tr.ofList (intAVs (a :: r)))) w' := by
                            have hl : (intAVs (a :: r)).length = (a :: r).length := by
                              have := (intAVs_VRs (ρ := ρ) (a :: r)).length
                              simpa using this
                            refine ⟨⟨rfl, fun _ => rfl⟩, by rw [← hl]; exact Tr.full_ofList _, by show 0 + (a :: r).length ≤ cap; omega, fun _ => by show base ≤ g'; have := hr.low; omega, cur, _, (0, 0), hgb, fun _ => .inl rfl, r3, fun i x hx => ?_⟩
                            rw [Tr.get?_ofList] at hx
                            obtain ⟨x', e1, e2⟩ := (intAVs_VRs (ρ := ρ.upd H.n ⟨g', 0, cap, 1⟩) (a :: r)).get hx
                            refine ⟨x', ?_, e2⟩
                            have hi : i < ss.length := by
                              rw [hlen']
                              rcases Nat.lt_or_ge i (a :: r).length with c | c
                              · exact c
                              · rw [List.getElem?_eq_none (by simpa using c)] at e1; cases e1
                            rw [← r4, List.getElem?_take_of_lt hi] at e1
                            show cur[0 + i]? = some x'
                            rw [Nat.zero_add]
                            simpa using e1
                          obtain ⟨f1, f2⟩ := hr.later_new hbl hbase hglt hor
                          exact ⟨_, _, rfl, ⟨⟨g', 0, cap, 1⟩, cap, 0, Ren.upd_same _ _ _, by rw [hlen'], by rw [← hlen']; exact r1, fun _ => rfl, by show 0 + 0 + cap * 1 ≤ cap; omega⟩, f1, f2⟩
  · cases h

end
end Go.Ab
