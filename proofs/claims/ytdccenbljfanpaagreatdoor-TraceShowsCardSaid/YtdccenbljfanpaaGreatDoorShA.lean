/- TraceShows: what the functions that it calls come to. -/
import Derived.Test.YtdccenbljfanpaaGreatDoorVU
import Derived.Test.YtdccenbljfanpaaGreatDoorAfB
import Derived.Test.YtdccenbljfanpaaGreatDoorAeC
import Derived.Test.YtdccenbljfanpaaGreatDoorBld
/- The functions of TraceShows: what each comes to. -/
set_option linter.unusedVariables false
set_option linter.unusedSimpArgs false
namespace Go.Proofs.YtdccenbljfanpaaGreatDoor
open Go.Ab
noncomputable section
set_option maxRecDepth 100000

noncomputable def prims4 : Prims := fun f => cond (Nat.beq f n_strconv_Itoa) (some (primItoa 0)) (prims f)
abbrev EE (n : Nat) : CallFn := VE prims4 n

theorem evH_prim {tab : Nat → Option Ff} {prim : Prims} {n f : Nat} {p : List AV → AHeap → R} (hp : prim f = some p) (args : List AV) (H : AHeap) : evH tab prim (n + 1) f args H = p args H := by
  show (Option.rec (motive := fun _ => R) _ _ (prim f) : R) = _
  rw [hp]

def opRows : List (List UInt8 × Int) := [([99, 111, 110, 115, 116], 2), ([109, 111, 118, 101], 2), ([110, 105, 108], 1), ([97, 100, 100], 3), ([115, 117, 98], 3), ([109, 117, 108], 3), ([100, 105, 118], 3), ([109, 111, 100], 3), ([97, 110, 100], 3), ([111, 114], 3), ([120, 111, 114], 3), ([115, 104, 108], 3), ([115, 104, 114], 3), ([108, 116], 3), ([108, 101], 3), ([101, 113], 3), ([115, 97, 109, 101], 3), ([110, 111, 116], 2), ([106, 117, 109, 112], 1), ([105, 102], 2), ([99, 97, 108, 108], 3), ([99, 97, 108, 108, 99], 4), ([114, 101, 116, 117, 114, 110], 1), ([103, 111], 2), ([103, 111, 99], 3), ([110, 101, 119], 2), ([97, 114, 114, 97, 121], 3), ([103, 101, 116], 3), ([115, 101, 116], 3), ([115, 101, 116, 110], 3), ([97, 116], 3), ([112, 117, 116], 3), ([112, 117, 116, 110], 3), ([108, 101, 110], 2), ([108, 111, 97, 100], 2), ([115, 116, 111, 114, 101], 2), ([99, 108, 111, 115, 117, 114, 101], 3), ([99, 104, 97, 110], 3), ([115, 101, 110, 100], 2), ([114, 101, 99, 118], 3), ([99, 108, 111, 115, 101], 1), ([115, 101, 108, 101, 99, 116], 2), ([112, 114, 105, 110, 116], 1), ([112, 111, 108, 108], 0), ([116, 114, 97, 112], 1)]
def opCells : List AV := opRows.flatMap fun p => [.str p.1, .int .i64 p.2]
def opName (op : Int) : List UInt8 := if 0 ≤ op ∧ op < 45 then (opRows[op.toNat]?.map (·.1)).getD [] else []

theorem rows_code (n : Nat) (H : AHeap) : EE (n + 1) n_code_rows [] H = some (.sl H.n 0 45 (some 45), H.add (.cells false 2 90 (Tr.ofList opCells))) := by kernel_rfl
theorem rows_ref (n : Nat) (H : AHeap) : EE (n + 1) n_gantlineref9_rows [] H = some (.sl H.n 0 45 (some 45), H.add (.cells false 2 90 (Tr.ofList opCells))) := by kernel_rfl
end
end Go.Proofs.YtdccenbljfanpaaGreatDoor
/- Names of operations. -/
namespace Go.Proofs.YtdccenbljfanpaaGreatDoor
open Go.Ab
noncomputable section
set_option maxRecDepth 100000

theorem opCells_at {i : Nat} (h : i < 45) : opCells[i * 2]? = some (.str (opName (i : Int))) ∧ ∃ k, opCells[i * 2 + 1]? = some (.int .i64 k) := by
  have hl : opRows.length = 45 := rfl
  have hi : opRows[i]? = some opRows[i] := List.getElem?_eq_getElem (by rw [hl]; exact h)
  obtain ⟨h1, h2⟩ := flat2_get (fun p : List UInt8 × Int => AV.str p.1) (fun p => AV.int .i64 p.2) opRows i
  rw [hi] at h1 h2
  refine ⟨h1.trans ?_, _, h2⟩
  simp only [Option.map_some, opName, Option.some.injEq, AV.str.injEq]
  rw [if_pos (by omega), Int.toNat_natCast, hi]; rfl
theorem opCells_len : opCells.length = 90 := by rfl

theorem name_ref (n : Nat) (op : Int) (H : AHeap) (w : WF H) : W (EE (n + 3) n_gantlineref9_Name [.int .i64 op] H) fun v H' => v = .str (opName op) ∧ Nu H H' := by
  refine W_of (U_gantlineref9_Name prims4 rfl (n + 2) _ _) ?_
  unfold S_gantlineref9_Name_1
  by_cases h0 : op < 0
  · simp [h0, S_gantlineref9_Name_0]
    refine ⟨by simp [opName]; omega, Nu.refl w⟩
  · by_cases h1 : 44 < op
    · simp [h0, h1, S_gantlineref9_Name_0]
      refine ⟨by simp [opName]; omega, Nu.refl w⟩
    · have hc : Cs (H.add (.cells false 2 90 (Tr.ofList opCells))) H.n false 2 opCells := Cs.new w false 2 opCells
      have hr := hc.rdl (opCells_at (i := op.toNat) (by omega)).1
      rw [show ((op.toNat : Nat) : Int) = op by omega] at hr
      simp [h0, h1, S_gantlineref9_Name_0, pC, rows_ref, pIa_int (show 0 ≤ op by omega) (show op < (45 : Nat) by omega), hr]
      exact Nu.add w _
end
end Go.Proofs.YtdccenbljfanpaaGreatDoor
/- The program's own names of operations; numbers in words. -/
namespace Go.Proofs.YtdccenbljfanpaaGreatDoor
open Go.Ab
noncomputable section
set_option maxRecDepth 100000

theorem find_code (n : Nat) (op : Int) (H : AHeap) (w : WF H) : W (EE (n + 3) n_code_find [.int .i64 op] H) fun v H' => (∃ k, v = .agg [.str (opName op), .int .i64 k]) ∧ Nu H H' := by
  refine W_of (U_code_find prims4 rfl (n + 2) _ _) ?_
  unfold S_code_find_1
  refine W_new w fun H1 n1 e1 c1 => ?_
  have n2 := Nu.add n1.wf (.cells false 2 90 (Tr.ofList opCells))
  have c2 := c1.nu n1.wf n2
  have c3 : Cs (H1.add (.cells false 2 90 (Tr.ofList opCells))) H1.n false 2 opCells := Cs.new n1.wf false 2 opCells
  have n3 := n1.trans n2
  simp only [pC, rows_code, ob2_some]
  generalize H1.add (.cells false 2 90 (Tr.ofList opCells)) = H2 at *
  have fin : ∀ (s : List UInt8) (k : Int) , s = opName op → W (stK 2 H2 (.ptr H.n 0) (.agg [.str s, .int .i64 k]) fun _ K => ob (allM (fun o => o) [aLoad (.some 2) K (.ptr H.n 0)]) fun vs => some (resV vs, K)) fun v H' => (∃ k, v = .agg [.str (opName op), .int .i64 k]) ∧ Nu H H' := by
    intro s k hs
    refine W_st c2 rfl rfl (by simp) fun H3 t3 c4 => ?_
    have hr := c4.rds 0 2 (by simp)
    simp at hr
    simp [hr, hs]
    exact n3.tu t3 (Nat.le_refl _)
  by_cases h0 : op < 0
  · have := fin [] 0 (by simp [opName]; omega)
    simpa [h0, S_code_find_0] using this
  · by_cases h1 : 45 ≤ op
    · have := fin [] 0 (by simp [opName]; omega)
      simpa [h0, h1, S_code_find_0] using this
    · obtain ⟨q1, k, q2⟩ := opCells_at (i := op.toNat) (by omega)
      rw [show ((op.toNat : Nat) : Int) = op by omega] at q1
      have := fin _ k rfl
      have hr := c3.rds (op.toNat * 2) 2 (by rw [opCells_len]; omega)
      have hd : (opCells.drop (op.toNat * 2)).take 2 = [.str (opName op), .int .i64 k] := by
        apply List.ext_getElem?
        intro i
        rw [List.getElem?_take, List.getElem?_drop]
        match i with
        | 0 => simpa using q1
        | 1 => simpa using q2
        | i + 2 => rw [if_neg (by omega)]; rfl
      rw [hd] at hr
      simpa [h0, h1, S_code_find_0, pIa_int (show 0 ≤ op by omega) (show op < (45 : Nat) by omega), hr] using this

theorem name_code (n : Nat) (op : Int) (H : AHeap) (w : WF H) : W (EE (n + 4) n_code_Name [.int .i64 op] H) fun v H' => v = .str (opName op) ∧ Nu H H' := by
  refine W_of (U_code_Name prims4 rfl (n + 3) _ _) ?_
  unfold S_code_Name_0
  refine W_pC (find_code n op H w) ?_
  rintro _ H' ⟨⟨k, rfl⟩, hn⟩
  simpa using hn
end
end Go.Proofs.YtdccenbljfanpaaGreatDoor
/- Numbers in words. -/
namespace Go.Proofs.YtdccenbljfanpaaGreatDoor
open Go.Ab
noncomputable section
set_option maxRecDepth 100000

theorem itoa_prim (n : Nat) (k : Int) (H : AHeap) (h0 : -9223372036854775808 ≤ k) (h1 : k ≤ 9223372036854775807) (ht : H.get 0 = some (.tab pow10s)) : EE (n + 1) n_strconv_Itoa [.int .i64 k] H = some (.str (Lib.itoa k), H) := by
  refine (evH_prim (p := primItoa 0) rfl _ _).trans ?_
  unfold primItoa
  simp only [ile_eq, h0, h1, decide_true, Bool.and_self, cond_true, ht]
  have : AV.beqs pow10s pow10s = true := by kernel_rfl
  rw [this, itoaF_eq h0 h1]; rfl

theorem digit_at {k : Int} (h0 : 0 ≤ k) (h1 : k < 10) : (([48, 49, 50, 51, 52, 53, 54, 55, 56, 57] : List UInt8).drop k.toNat).take ((k + 1).toNat - k.toNat) = [UInt8.ofNat (48 + k.toNat)] := by
  obtain ⟨n, rfl⟩ := Int.eq_ofNat_of_zero_le h0
  have hn : n < 10 := by omega
  have : ∀ n : Fin 10, (([48, 49, 50, 51, 52, 53, 54, 55, 56, 57] : List UInt8).drop n.1).take (n.1 + 1 - n.1) = [UInt8.ofNat (48 + n.1)] := by decide
  exact this ⟨n, hn⟩

theorem dec_len : ∀ (d u : Nat), u < 10 ^ (d + 1) → (Lib.decDigits u).length ≤ d + 1
  | 0, u, h => by rw [Lib.decDigits, dif_pos (by omega)]; simp
  | d + 1, u, h => by
    rw [Lib.decDigits]
    by_cases c : u < 10
    · rw [dif_pos c]; simp
    · rw [dif_neg c]
      have := dec_len d (u / 10) (by rw [Nat.pow_succ] at h; omega)
      simp; omega
theorem dec_len20 {u : Nat} (h : u ≤ 9223372036854775808) : (Lib.decDigits u).length ≤ 20 := dec_len 19 u (by omega)
theorem itoa_len {k : Int} (h0 : -9223372036854775808 ≤ k) (h1 : k ≤ 9223372036854775807) : (Lib.itoa k).length ≤ 21 := by
  unfold Lib.itoa
  split
  · have := dec_len20 (u := k.natAbs) (by omega); simp; omega
  · have := dec_len20 (u := k.toNat) (by omega); omega

theorem text_pos (H : AHeap) : ∀ (d n : Nat) (u : Nat), u < 10 ^ (d + 1) → u ≤ 9223372036854775807 → EE (n + d + 1) n_gantlineref9_Text [.int .i64 (u : Int)] H = some (.str (Lib.decDigits u), H) := by
  intro d
  induction d with
  | zero =>
    intro n u hu hu2
    refine (U_gantlineref9_Text prims4 rfl n _ _).trans ?_
    unfold S_gantlineref9_Text_0
    have h1 : (u : Int) < 10 := by omega
    have h2 : ¬ ((u : Int) < 0) := by omega
    have := digit_at (k := u) (by omega) h1
    rw [Lib.decDigits, dif_pos (by omega)]
    have hs := aSliceS_of (k := .i64) (k' := .i64) (s := [48, 49, 50, 51, 52, 53, 54, 55, 56, 57]) (a := u) (b := (u : Int) + 1) (by omega) (by omega) (by simp; omega)
    rw [this] at hs
    simp [h2, h1, wrap64 (show -9223372036854775808 ≤ (u : Int) + 1 by omega) (show (u : Int) + 1 ≤ 9223372036854775807 by omega), hs]
  | succ d ih =>
    intro n u hu hu2
    by_cases c : u < 10
    · have := ih (n + 1) u (by have := Nat.pow_le_pow_right (show 0 < 10 by omega) (show 1 ≤ d + 1 by omega); omega) hu2
      rwa [show n + 1 + d + 1 = n + (d + 1) + 1 by omega] at this
    · refine (U_gantlineref9_Text prims4 rfl (n + (d + 1)) _ _).trans ?_
      unfold S_gantlineref9_Text_0
      have h1 : ¬ ((u : Int) < 10) := by omega
      have h2 : ¬ ((u : Int) < 0) := by omega
      have hq : ((u : Int).tdiv 10) = ((u / 10 : Nat) : Int) := by rw [Int.tdiv_eq_ediv_of_nonneg (by omega)]; rfl
      have hr : ((u : Int).tmod 10) = ((u % 10 : Nat) : Int) := by rw [Int.tmod_eq_emod_of_nonneg (by omega)]; rfl
      have hd := digit_at (k := ((u % 10 : Nat) : Int)) (by omega) (by omega)
      have hrec := ih n (u / 10) (by rw [Nat.pow_succ] at hu; omega) (by omega)
      rw [Lib.decDigits, dif_neg c]
      have hs := aSliceS_of (k := .i64) (k' := .i64) (s := [48, 49, 50, 51, 52, 53, 54, 55, 56, 57]) (a := ((u % 10 : Nat) : Int)) (b := ((u % 10 : Nat) : Int) + 1) (by omega) (by omega) (by simp; omega)
      rw [hd] at hs
      have hl : (Lib.decDigits (u / 10)).length ≤ 100 := by have := dec_len20 (u := u / 10) (by omega); omega
      have e1 : aBin .quo (.int .i64 (u : Int)) (.int .i64 10) = some (.int .i64 ((u / 10 : Nat) : Int)) := by rw [aBin_quo _ _ _ (by decide), hq, wrap64 (by omega) (by omega)]
      have e2 : aBin .rem (.int .i64 (u : Int)) (.int .i64 10) = some (.int .i64 ((u % 10 : Nat) : Int)) := by rw [aBin_rem _ _ _ (by decide), hr]
      have w1 := wrap64 (show -9223372036854775808 ≤ ((u % 10 : Nat) : Int) + 1 by omega) (show ((u % 10 : Nat) : Int) + 1 ≤ 9223372036854775807 by omega)
      rw [show n + (d + 1) = n + d + 1 by omega]
      have hp := pAdd_str (H := H) (c := fun v H => some (v, H)) (show (Lib.decDigits (u / 10)).length + ([UInt8.ofNat (48 + u % 10)] : List UInt8).length ≤ 9223372036854775807 by simp; omega)
      simp only [Int.toNat_natCast] at hs
      clear hd hq hr
      generalize UInt8.ofNat (48 + u % 10) = dg at *
      generalize Lib.decDigits (u / 10) = l at *
      generalize ((u / 10 : Nat) : Int) = q at *
      generalize ((u % 10 : Nat) : Int) = r at *
      simp [h1, h2, e1, e2, w1, hs, pC, hrec, hp]

theorem text_ref (n : Nat) (k : Int) (H : AHeap) (h0 : -9223372036854775808 ≤ k) (h1 : k ≤ 9223372036854775807) : EE (n + 21) n_gantlineref9_Text [.int .i64 k] H = some (.str (Lib.itoa k), H) := by
  by_cases c : k < 0
  · refine (U_gantlineref9_Text prims4 rfl (n + 20) _ _).trans ?_
    unfold S_gantlineref9_Text_0
    by_cases c2 : k = -9223372036854775808
    · subst c2
      have hw : IntKind.i64.wrap 9223372036854775808 = -9223372036854775808 := by decide
      have hi : Lib.itoa (-9223372036854775808) = [45, 57, 50, 50, 51, 51, 55, 50, 48, 51, 54, 56, 53, 52, 55, 55, 53, 56, 48, 56] := by
        rw [← itoaF_eq (by decide) (by decide)]; rfl
      simp [hw, hi]
    · have hw : IntKind.i64.wrap (-k) = -k := wrap64 (by omega) (by omega)
      have hrec := text_pos H 18 (n + 1) k.natAbs (by omega) (by omega)
      rw [show ((k.natAbs : Nat) : Int) = -k by omega] at hrec
      have hl := dec_len20 (u := k.natAbs) (by omega)
      have hi : Lib.itoa k = 45 :: Lib.decDigits k.natAbs := by unfold Lib.itoa; rw [if_pos c]
      have hne : ¬ k = -k := by omega
      simp [c, hw, hne, pC, hrec, hi, pAdd_str (show ([45] : List UInt8).length + (Lib.decDigits k.natAbs).length ≤ 9223372036854775807 by simp; omega)]
  · have := text_pos H 18 (n + 2) k.toNat (by omega) (by omega)
    rw [show ((k.toNat : Nat) : Int) = k by omega] at this
    rw [show Lib.itoa k = Lib.decDigits k.toNat by unfold Lib.itoa; rw [if_neg c]]
    exact this
end
end Go.Proofs.YtdccenbljfanpaaGreatDoor
/- trace.Order. -/
namespace Go.Proofs.YtdccenbljfanpaaGreatDoor
open Go.Ab
noncomputable section
set_option maxRecDepth 100000

/-- An act: whose, which, where, which way. -/
structure Ac where
  (id op fn pc cs pa pc2 : Int)
def Ac.cells (a : Ac) : List AV := [.int .i64 a.id, .int .i64 a.op, .int .i64 a.fn, .int .i64 a.pc, .int .i64 a.cs, .int .i64 a.pa, .int .i64 a.pc2]
theorem Ac.len (a : Ac) : a.cells.length = 7 := rfl
def acts (A : List Ac) : List AV := A.flatMap Ac.cells
def ids (A : List Ac) : List AV := A.map fun a => .int .i64 a.id
/-- The list's value: block 1 bears it. -/
def actsV (A : List Ac) (v : AV) : Prop := (v = .nilsl ∧ A = []) ∨ v = .sl 1 0 A.length none
theorem actsV.len {A : List Ac} {v : AV} {H : AHeap} (h : actsV A v) : aLen .sl H v = some (.int .i64 (A.length : Int)) := by
  rcases h with ⟨rfl, rfl⟩ | rfl <;> rfl
theorem actsV.at {A : List Ac} {v : AV} {H : AHeap} {c : Kv} {i : Nat} (h : actsV A v) (hi : i < A.length) : pIa 7 v (.int .i64 (i : Int)) H c = c (.ptr 1 (i * 7)) H := by
  rcases h with ⟨rfl, rfl⟩ | rfl
  · simp at hi
  · rw [pIa_at hi, Nat.zero_add]
theorem acts_cut {A : List Ac} {i : Nat} (hi : i < A.length) : ((acts A).drop (i * 7)).take 7 = A[i].cells := flatK_cut Ac.len A i A[i] (List.getElem?_eq_getElem hi)
theorem acts_rds {A : List Ac} {H : AHeap} (h : Cs H 1 true 7 (acts A)) {i : Nat} (hi : i < A.length) : H.rds 1 (i * 7) 7 = some A[i].cells := by
  rw [h.rds _ _ (by unfold acts; rw [flatK_len Ac.len]; omega), acts_cut hi]

theorem order_loop (call : CallFn) (A : List Ac) (v : AV) (hv : actsV A v) (hA : A.length ≤ 100) : ∀ (m i : Nat) (t3 : AV) (n0 : Nat) (H : AHeap), A.length - i < m → i ≤ A.length → WF H → 2 ≤ n0 → n0 ≤ H.n → Cs H 1 true 7 (acts A) →
    Sl H t3 1 i ((ids A).take i) → (∀ b, t3.blk = some b → n0 ≤ b) →
    W (S_trace_Order_0 call m t3 v (.int .i64 (A.length : Int)) (.int .i64 (i : Int)) H) fun r H' => Lo n0 H H' ∧ Sl H' r 1 A.length (ids A) ∧ (∀ b, r.blk = some b → n0 ≤ b) := by
  intro m
  induction m with
  | zero => intro i t3 n0 H h; omega
  | succ m ih =>
    intro i t3 n0 H hm hi w h2 hn hc hs hb
    rw [L_trace_Order_0]
    by_cases c : i < A.length
    · have ci : (i : Int) < (A.length : Int) := by omega
      simp [ci, hv.at c, acts_rds hc c]
      refine W_new w fun H1 n1 e1 c1 => ?_
      refine W_st c1 rfl rfl (by simp) fun H2 t2 c2 => ?_
      have l2 : Lo n0 H H2 := (n1.lo (n0 := n0) hn).trans (t2.lo n1.wf (by omega))
      simp [Ac.cells, c2.rd] 
      refine W_bsl (l := [.int .i64 A[i].id]) l2.wf (by simp) (by simp) (by simp) fun H3 n3 e3 c3 => ?_
      have l3 : Lo n0 H H3 := l2.trans (n3.lo (by have := l2.n; omega))
      have hs3 : Sl H3 t3 1 i ((ids A).take i) := hs.same fun b hb' => by
        have hlt := hs.lt w hb'
        rw [n3.old b (by have := l2.n; omega), t2.old b (by omega), n1.old b hlt]
      obtain ⟨v', H4, e4, s4, w4, n4, ev, o4⟩ := hs3.app (bytes := 8) l3.wf (k := 1) (q := some 1) c3 (by simp) (by omega) (by omega) (by simp) (by omega) (by omega)
      have l4 : Lo n0 H3 H4 := ⟨by omega, w4, fun b hb' => o4 b (by have := l3.n; omega) fun e => by have := hb b e; omega⟩
      have l5 := l3.trans l4
      simp [e4, wrap64 (show -9223372036854775808 ≤ (i : Int) + 1 by omega) (show (i : Int) + 1 ≤ 9223372036854775807 by omega)]
      have hs5 : Sl H4 v' 1 (i + 1) ((ids A).take (i + 1)) := by
        have : (ids A).take (i + 1) = (ids A).take i ++ [.int .i64 A[i].id] := by rw [List.take_add_one]; simp [ids, c]
        rw [this]; exact s4
      refine (ih (i + 1) v' n0 H4 (by omega) (by omega) w4 h2 (by have := l5.n; omega) (l5.cs hc (by omega)) hs5 (fun b e => by rw [ev] at e; cases e; have := l3.n; omega)).mono ?_
      rintro r H' ⟨q1, q2, q3⟩
      exact ⟨l5.trans q1, q2, q3⟩
    · have hi' : i = A.length := by omega
      subst hi'
      have : (ids A).take A.length = ids A := List.take_of_length_le (by simp [ids])
      rw [this] at hs
      simp
      exact ⟨Lo.refl n0 w, hs, hb⟩

theorem order_spec (n : Nat) (A : List Ac) (v : AV) (hv : actsV A v) (hA : A.length ≤ 100) (x0 x1 x2 x3 x4 x5 : AV) (H : AHeap) (w : WF H) (h2 : 2 ≤ H.n) (hc : Cs H 1 true 7 (acts A)) :
    W (EE (n + 1) n_trace_Order [.agg [x0, x1, x2, x3, x4, x5, v]] H) fun r H' => Nu H H' ∧ Sl H' r 1 A.length (ids A) ∧ (∀ b, r.blk = some b → H.n ≤ b) := by
  refine W_of (U_trace_Order prims4 rfl n _ _) ?_
  unfold S_trace_Order_1
  refine W_box w fun H1 n1 e1 c1 => ?_
  simp [c1.rd, hv.len]
  have := order_loop (VE prims4 n) A v hv hA 1000000 0 .nilsl H.n H1 (by omega) (by omega) n1.wf h2 (by omega) (hc.nu w n1) (Sl.nil _ _) (fun b e => by cases e)
  refine this.mono ?_
  rintro r H' ⟨q1, q2, q3⟩
  exact ⟨(n1.lo (Nat.le_refl _)).trans q1 |>.nu, q2, q3⟩
end
end Go.Proofs.YtdccenbljfanpaaGreatDoor
/- trace.Show. -/
namespace Go.Proofs.YtdccenbljfanpaaGreatDoor
open Go.Ab
noncomputable section
set_option maxRecDepth 100000

@[simp] theorem beq_int (k : IntKind) (n : Int) : AV.beq (.int k n) (.int k n) = true := by simp [AV.beq, kindEq, ieq_eq]

/-- The builder b has the bytes bs. -/
def Bd (n0 : Nat) (H : AHeap) (b : Nat) (bs : List UInt8) : Prop := ∃ u, (bs = [] ∧ H.get b = some (.bld 70 u none)) ∨ (bs ≠ [] ∧ ∃ g, H.get b = some (.bld 70 u (some (g, bs.length))) ∧ H.get g = some (.brow 5 bs) ∧ g ≠ b ∧ n0 ≤ g)
theorem Bd.keep {n0 : Nat} {H H' : AHeap} {b : Nat} {bs : List UInt8} (h : Bd n0 H b bs) (w : WF H) (k : Nu H H') : Bd n0 H' b bs := by
  obtain ⟨u, ⟨h1, h2⟩ | ⟨h1, g, h2, h3, h4, h5⟩⟩ := h
  · exact ⟨u, .inl ⟨h1, by rw [k.old b (w.lt h2)]; exact h2⟩⟩
  · exact ⟨u, .inr ⟨h1, g, by rw [k.old b (w.lt h2)]; exact h2, by rw [k.old g (w.lt h3)]; exact h3, h4, h5⟩⟩
theorem Bd.ltb {n0 : Nat} {H : AHeap} {b : Nat} {bs : List UInt8} (h : Bd n0 H b bs) (w : WF H) : b < H.n := by
  obtain ⟨u, ⟨h1, h2⟩ | ⟨h1, g, h2, h3, h4, h5⟩⟩ := h
  · exact w.lt h2
  · exact w.lt h2

theorem ws_spec (n n0 : Nat) (b : Nat) (bs s : List UInt8) (H : AHeap) (w : WF H) (hb : Bd n0 H b bs) (hn : n0 ≤ b) (h1 : 1 ≤ s.length) (h2 : s.length ≤ 1048576) (h3 : bs.length ≤ 1048576) :
    W (EE (n + 1) n_strings_Builder_WriteString [.ptr b 0, .str s] H) fun _ H' => Lo n0 H H' ∧ Bd n0 H' b (bs ++ s) := by
  refine W_of (evH_prim (p := primWS 5 70) rfl _ _) ?_
  have hc : (Nat.beq 0 0 && (Nat.ble 1 s.length && Nat.ble s.length 1048576)) = true := by simp [ble_dec]; omega
  have hne : bs ++ s ≠ [] := by intro e; simp at e; rw [e.2] at h1; simp at h1
  have hlb := hb.ltb w
  unfold primWS
  simp only [hc, cond_true]
  obtain ⟨u, ⟨rfl, q2⟩ | ⟨q1, g, q2, q3, q4, q5⟩⟩ := hb
  · simp only [wroteTo, q2, Nat.beq_refl, cond_true]
    refine W_eq rfl ⟨⟨Nat.le_succ _, (w.put _ _).add _, fun i hi => ?_⟩, true, .inr ⟨hne, H.n, ?_, ?_, by omega, by omega⟩⟩
    · rw [(w.put _ _).get, put_n, if_neg (show ¬ i = H.n by omega), put_get q2, if_neg (by omega)]
    · rw [(w.put _ _).get, put_n, if_neg (show ¬ b = H.n by omega), put_get q2, if_pos rfl]; simp
    · rw [(w.put _ _).get, put_n, if_pos rfl]; simp
  · have hlg := w.lt q3
    have hk : (Nat.beq 70 70 && (Nat.beq 5 5 && (Nat.beq bs.length bs.length && Nat.ble (Nat.add bs.length s.length) 140737488355328))) = true := by
      simp only [Nat.beq_refl, Bool.true_and, ble_dec, decide_eq_true_eq]
      show bs.length + s.length ≤ _; omega
    simp only [wroteTo, q2, q3, hk, cond_true]
    have w1 := w.put b (.bld 70 true (some (H.n, Nat.add bs.length s.length)))
    have g1 : ∀ i, (H.put b (.bld 70 true (some (H.n, Nat.add bs.length s.length)))).get i = if i = b then some (.bld 70 true (some (H.n, Nat.add bs.length s.length))) else H.get i := put_get q2 _
    have g2 : ∀ i, ((H.put b (.bld 70 true (some (H.n, Nat.add bs.length s.length)))).put g .dead).get i = if i = g then some .dead else if i = b then some (.bld 70 true (some (H.n, Nat.add bs.length s.length))) else H.get i := fun i => by
      rw [put_get (x := .brow 5 bs) (by rw [g1, if_neg q4]; exact q3), g1]
    have w2 := w1.put g .dead
    refine W_eq rfl ⟨⟨Nat.le_succ _, w2.add _, fun i hi => ?_⟩, true, .inr ⟨hne, H.n, ?_, ?_, by omega, by omega⟩⟩
    · rw [w2.get, put_n, put_n, if_neg (show ¬ i = H.n by omega), g2, if_neg (by omega), if_neg (by omega)]
    · rw [w2.get, put_n, put_n, if_neg (show ¬ b = H.n by omega), g2, if_neg (fun e => q4 e.symm), if_pos rfl]; simp
    · rw [w2.get, put_n, put_n, if_pos rfl]

theorem bs_spec (n n0 : Nat) (b : Nat) (bs : List UInt8) (H : AHeap) (w : WF H) (hb : Bd n0 H b bs) (hn : n0 ≤ b) :
    W (EE (n + 1) n_strings_Builder_String [.ptr b 0] H) fun v H' => v = .str bs ∧ Lo n0 H H' := by
  refine W_of (evH_prim (p := primBS 5 70) rfl _ _) ?_
  unfold primBS
  simp only [Nat.beq_refl, cond_true]
  obtain ⟨u, ⟨rfl, q2⟩ | ⟨q1, g, q2, q3, q4, q5⟩⟩ := hb
  · simp only [q2, Nat.beq_refl, cond_true]
    exact W_eq rfl ⟨rfl, Lo.refl _ w⟩
  · have hl : Nat.ble 1 bs.length = true := by
      rw [ble_dec, decide_eq_true_eq]
      rcases Nat.eq_zero_or_pos bs.length with e | e
      · exact absurd (List.eq_nil_of_length_eq_zero e) q1
      · exact e
    simp only [q2, q3, Nat.beq_refl, hl, Bool.and_self, cond_true]
    exact W_eq rfl ⟨rfl, Nat.le_refl _, w.put _ _, fun i hi => by rw [put_get q3, if_neg (by omega)]⟩

theorem opName_len (op : Int) : (opName op).length ≤ 10 := by
  unfold opName
  split
  · rename_i h
    have hl : opRows.length = 45 := rfl
    have : ∀ p ∈ opRows, p.1.length ≤ 10 := by decide
    have hi : op.toNat < opRows.length := by rw [hl]; omega
    rw [List.getElem?_eq_getElem hi]
    exact this _ (List.getElem_mem hi)
  · simp

def line (a : Ac) : List UInt8 := Lib.itoa a.id ++ [32] ++ opName a.op ++ [10]
def lines (A : List Ac) : List UInt8 := A.flatMap line
def ending (en tr : Int) : List UInt8 := [101, 110, 100, 32] ++ Lib.itoa en ++ [32] ++ Lib.itoa tr ++ [10]
def okI (n : Int) : Prop := -9223372036854775808 ≤ n ∧ n ≤ 9223372036854775807
theorem line_len {a : Ac} (h : okI a.id) : (line a).length ≤ 40 := by
  have := itoa_len h.1 h.2
  have := opName_len a.op
  simp [line]; omega
theorem lines_len : ∀ {A : List Ac}, (∀ a ∈ A, okI a.id) → (lines A).length ≤ A.length * 40
  | [], _ => by simp [lines]
  | a :: A, h => by
    have h1 := line_len (h a (by simp))
    have h2 := lines_len (A := A) fun x hx => h x (by simp [hx])
    simp [lines] at h2 ⊢; omega

theorem lines_take {A : List Ac} {i : Nat} (c : i < A.length) : lines (A.take (i + 1)) = lines (A.take i) ++ line A[i] := by
  unfold lines
  rw [List.take_add_one, List.getElem?_eq_getElem c, Option.toList_some, List.flatMap_append, List.flatMap_cons, List.flatMap_nil, List.append_nil]

theorem show_end (n : Nat) (A : List Ac) (bs : List UInt8) (hbs : bs.length ≤ 4000) (en tr : Int) (he : okI en) (ht : okI tr) (n0 r b : Nat) (H : AHeap) (w : WF H) (hr : H.rd r 1 = some (.int .i64 en)) (hr2 : H.rd r 2 = some (.int .i64 tr))
    (h0 : H.get 0 = some (.tab pow10s)) (hb : Bd n0 H b bs) (hn : n0 ≤ b) : W (S_trace_Show_0 (EE (n + 1)) (.ptr r 0) (.ptr b 0) H) fun v H' => v = .str (bs ++ ending en tr) ∧ Lo n0 H H' := by
  unfold S_trace_Show_0
  have l1 := itoa_len he.1 he.2
  have l2 := itoa_len ht.1 ht.2
  simp [hr, hr2, pC, itoa_prim n en H he.1 he.2 h0]
  rw [pAdd_str (by simp; omega), pAdd_str (by simp; omega), itoa_prim n tr H ht.1 ht.2 h0, ob2_some, pAdd_str (by simp; omega), pAdd_str (by simp; omega)]
  refine W_ob2i (ws_spec n n0 b bs _ H w hb hn (by simp) (by simp; omega) (by omega)) ?_
  rintro _ H1 ⟨q1, q2⟩
  refine W_ob2i (bs_spec n n0 b _ H1 q1.wf q2 hn) ?_
  rintro _ H2 ⟨rfl, q3⟩
  exact W_eq rfl ⟨by simp [ending], q1.trans q3⟩
theorem show_loop (n : Nat) (A : List Ac) (hA : A.length ≤ 100) (hid : ∀ a ∈ A, okI a.id) (v : AV) (hv : actsV A v) (en tr : Int) (he : okI en) (ht : okI tr) (r b : Nat) : ∀ (m i : Nat) (n0 : Nat) (H : AHeap), A.length - i < m → i ≤ A.length → WF H → 2 ≤ n0 → n0 ≤ r → r < b → b < H.n →
    Cs H 1 true 7 (acts A) → H.get 0 = some (.tab pow10s) → H.rd r 1 = some (.int .i64 en) → H.rd r 2 = some (.int .i64 tr) → Bd b H b (lines (A.take i)) →
    W (S_trace_Show_1 (EE (n + 4)) m (.ptr r 0) (.ptr b 0) v (.int .i64 (A.length : Int)) (.int .i64 (i : Int)) H) fun w H' => w = .str (lines A ++ ending en tr) ∧ Lo n0 H H' := by
  intro m
  induction m with
  | zero => intro i n0 H h; omega
  | succ m ih =>
    intro i n0 H hm hi w h2 hnr hrb hbn hc h0 hr1 hr2 hb
    rw [L_trace_Show_1]
    by_cases c : i < A.length
    · have ci : (i : Int) < (A.length : Int) := by omega
      have hai := hid A[i] (List.getElem_mem c)
      simp [ci, hv.at c, acts_rds hc c]
      refine W_new w fun H1 n1 e1 c1 => ?_
      refine W_st c1 rfl rfl (by simp) fun H2 t2 c2 => ?_
      have n2 : Nu H H2 := n1.tu t2 (Nat.le_refl _)
      have h02 : H2.get 0 = some (.tab pow10s) := by rw [n2.old 0 (w.lt h0)]; exact h0
      simp [Ac.cells, c2.rd, pC]
      rw [itoa_prim (n + 3) A[i].id H2 hai.1 hai.2 h02, ob2_some]
      have l1 := itoa_len hai.1 hai.2
      have l2 := opName_len A[i].op
      rw [pAdd_str (by simp; omega), show H2.rd H.n 1 = some (.int .i64 A[i].op) by simp [c2.rd, Ac.cells]]
      simp only [ckV_some, beq_int, andR_true]
      refine W_ob2i (name_code n A[i].op H2 n2.wf) ?_
      rintro _ H3 ⟨rfl, n3⟩
      have n4 := n2.trans n3
      rw [pAdd_str (by simp; omega), pAdd_str (by simp; omega)]
      have hl : (lines (A.take i)).length ≤ 4000 := by
        have := lines_len (A := A.take i) fun a ha => hid a (List.mem_of_mem_take ha)
        simp at this; omega
      refine W_ob2i (ws_spec (n + 3) b b _ _ H3 n4.wf (hb.keep w n4) (Nat.le_refl _) (by simp; omega) (by simp; omega) (by omega)) ?_
      rintro _ H4 ⟨l5, b5⟩
      have l6 : Lo b H H4 := (n4.lo (by omega)).trans l5
      simp [wrap64 (show -9223372036854775808 ≤ (i : Int) + 1 by omega) (show (i : Int) + 1 ≤ 9223372036854775807 by omega)]
      have hb6 : Bd b H4 b (lines (A.take (i + 1))) := by
        rw [lines_take c]
        simpa [line] using b5
      have hrd : ∀ j, H4.rd r j = H.rd r j := fun j => by unfold AHeap.rd; rw [l6.old r hrb]
      refine (ih (i + 1) n0 H4 (by omega) (by omega) l6.wf h2 hnr hrb (by have := l6.n; omega) (l6.cs hc (by omega)) (by rw [l6.old 0 (by omega)]; exact h0) (by rw [hrd]; exact hr1) (by rw [hrd]; exact hr2) hb6).mono ?_
      rintro x H' ⟨q1, q2⟩
      exact ⟨q1, (l6.less (by omega)).trans q2⟩
    · have hi' : i = A.length := by omega
      subst hi'
      rw [List.take_length] at hb
      have hl := lines_len hid
      simp
      refine (show_end (n + 3) A _ (by omega) en tr he ht b r b H w hr1 hr2 h0 hb (Nat.le_refl _)).mono ?_
      rintro x H' ⟨q1, q2⟩
      exact ⟨q1, q2.less (by omega)⟩

theorem show_spec (n : Nat) (A : List Ac) (hA : A.length ≤ 100) (hid : ∀ a ∈ A, okI a.id) (v : AV) (hv : actsV A v) (en tr : Int) (he : okI en) (ht : okI tr) (x0 x3 x4 x5 : AV) (H : AHeap) (w : WF H) (h2 : 2 ≤ H.n) (hc : Cs H 1 true 7 (acts A)) (h0 : H.get 0 = some (.tab pow10s)) :
    W (EE (n + 5) n_trace_Show [.agg [x0, .int .i64 en, .int .i64 tr, x3, x4, x5, v]] H) fun w H' => w = .str (lines A ++ ending en tr) ∧ Nu H H' := by
  refine W_of (U_trace_Show prims4 rfl (n + 4) _ _) ?_
  unfold S_trace_Show_2
  refine W_box w fun H1 n1 e1 c1 => ?_
  rw [pNewB_eq]
  have n2 := n1.trans (Nu.add n1.wf (.bld 70 false none))
  have c2 := c1.nu n1.wf (Nu.add n1.wf (.bld 70 false none))
  have g2 : (H1.add (.bld 70 false none)).get H1.n = some (.bld 70 false none) := by rw [n1.wf.get, if_pos rfl]
  have m2 : (H1.add (.bld 70 false none)).n = H1.n + 1 := rfl
  generalize H1.add (.bld 70 false none) = H2 at *
  simp [c2.rd, hv.len]
  refine (show_loop n A hA hid v hv en tr he ht H.n H1.n 1000000 0 H.n H2 (by omega) (by omega) n2.wf h2 (Nat.le_refl _) (by omega) (by omega) (hc.nu w n2) (by rw [n2.old 0 (by omega)]; exact h0) (by simp [c2.rd]) (by simp [c2.rd]) ⟨false, .inl ⟨rfl, g2⟩⟩).mono ?_
  rintro x H' ⟨q1, q2⟩
  exact ⟨q1, ((n2.lo (Nat.le_refl _)).trans q2).nu⟩
end
end Go.Proofs.YtdccenbljfanpaaGreatDoor
