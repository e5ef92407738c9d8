/- strings.Builder: what a write to one and a read of one come to, to the letter: which blocks turn, which are new. -/
import Derived.Test.YtooindilclphjaaGreatDoorAbT
import Derived.Shelf.Strings.BuilderK
set_option linter.unusedVariables false
namespace Go.Ab
open Go.Shelf Go.RowKit Go.Proofs

/-- The buffer v holds xs: a row of its own from its head on, or none yet. -/
def Buf (w : World) (e : TypeId) (v : Value) (xs : List Value) : Prop :=
  (v = .slice none 0 0 ∧ xs = []) ∨
  ∃ g cap cur, v = .slice (some ⟨g, 0, none⟩) xs.length cap ∧ w.heap[g]? = some (.cells cur e (0, 0)) ∧ xs.length ≤ cap ∧ cap ≤ maxLen ∧ cur.size = cap ∧ cur.toList.take xs.length = xs

theorem Buf.of_heap {w w' : World} {e : TypeId} {v : Value} {xs : List Value} (h : Buf w e v xs) (hk : ∀ g, v.ownBlock = some g → w'.heap[g]? = w.heap[g]?) : Buf w' e v xs := by
  rcases h with h | ⟨g, cap, cur, rfl, h2, h3⟩
  · exact .inl h
  · exact .inr ⟨g, cap, cur, rfl, by rw [hk g rfl]; exact h2, h3⟩

theorem Buf.lt {w : World} {e : TypeId} {v : Value} {xs : List Value} (h : Buf w e v xs) {g : Nat} (hg : v.ownBlock = some g) : g < w.heap.size := by
  rcases h with ⟨rfl, _⟩ | ⟨g', cap, cur, rfl, h2, h3⟩
  · cases hg
  · cases hg; exact (Array.getElem?_eq_some_iff.1 h2).1

section
variable {P : Program}

theorem run_append_buf (w : World) (t u ty e : TypeId) (i : TypeInfo) (ht : P.underlying t = some (.slice e)) (hu : P.underlying u = some .string) (hi : P.info? e = some i) (hz : i.zero = some (.int .u8 0))
    (hsize : i.size = 1) (hby : i.bytes = 1) (v : Value) (xs : List Value) (h : Buf w e v xs) (s : ByteArray) (hs0 : s.size ≠ 0) (hbytes : xs.length + s.size ≤ 140737488355328) :
    ∃ v' w', (Builtin.append_ #[t, u] ty #[v, .string s]).run P w = .ok v' w' ∧ Buf w' e v' (xs ++ Lib.strCells s) ∧ w.grownBy w' v.ownBlock ∧
      ∀ g, v'.ownBlock = some g → v.ownBlock = some g ∨ w.heap.size ≤ g := by
  have hmx : xs.length + s.size ≤ maxLen := by unfold maxLen; omega
  rcases h with ⟨rfl, rfl⟩ | ⟨g, cap, cur, rfl, hg, hnc, hcm, hcs, htake⟩
  · obtain ⟨v', w', h1, h2, h3, h4⟩ := Lib.run_append_own_string (P := P) w w.heap.size t u ty e i ht hu hi hz hsize hby (.slice none 0 0) 0 [] ⟨rfl, .inl ⟨rfl, rfl⟩⟩ s (by simpa using hmx) (by simpa using hbytes) (Nat.le_refl _)
    refine ⟨v', w', h1, ?_, h3, fun g hg => .inr (h2.lt g hg).1⟩
    rcases h2.2 with ⟨rfl, hn⟩ | ⟨g, cap, cur, rfl, _, q2, q3, q4, q5, q6⟩
    · exact absurd (by simpa using hn) hs0
    · have hl : (Lib.strCells s).length = s.size := Lib.strCells_length s
      refine .inr ⟨g, cap, cur, by simp [hl], q2, by simpa [hl] using q3, q4, by simpa using q5, ?_⟩
      simpa [hl] using q6
  · have hl : (Lib.strCells s).length = s.size := Lib.strCells_length s
    have hown : w.ownsRowF g e 1 (.slice (some ⟨g, 0, none⟩) xs.length cap) xs.length xs := ⟨by simp, .inr ⟨g, cap, cur, (0, 0), rfl, Nat.le_refl _, hg, Nat.zero_le _, hnc, hcm, by simpa using hcs, by simpa using htake⟩⟩
    have hlen : (xs ++ Lib.strCells s).length = xs.length + s.size := by rw [List.length_append, hl]
    by_cases hroom : xs.length + s.size ≤ cap
    · have hr := Lib.run_append_room_stringF (P := P) w t u ty e i ht hu hi hsize g xs.length cap cur (0, 0) hg (Nat.zero_le _) s hroom (by omega)
      refine ⟨_, _, hr, .inr ⟨g, cap, _, by rw [hlen], setRow_heap w g cur _ e _ hg, by omega, hcm, ?_, ?_⟩, ⟨rfl, rfl, rfl, by simp, fun k _ hk => setRow_other w g k _ (fun e => hk (by simp [Value.ownBlock, e]))⟩, fun g' hg' => .inl hg'⟩
      · simp only [List.size_toArray, List.length_append, List.length_take, List.length_drop, Array.length_toList, hl]
        omega
      · rw [htake]
        exact List.take_left
    · have holds : ∀ j u, xs[j]? = some u → w.cell? ((⟨g, 0, none⟩ : Addr).add j) = some u := hown.cells (g := g) rfl
      have hr := Lib.run_append_grow_string (P := P) w t u ty e i (.int .u8 0) ht hu hi hz ⟨g, 0, none⟩ xs.length cap xs (by rw [hsize]; simp) holds s (by omega) (by omega) (by rw [hby]; exact growslice_fits (by omega) (by omega))
      have hge := grownCap_ge w (xs.length + s.size) cap e
      have hcm2 : grownCap w (xs.length + s.size) cap e ≤ maxLen := grownCap_le_maxLen w (xs.length + s.size) cap e hmx
      refine ⟨_, _, hr, .inr ⟨w.heap.size, _, _, by rw [hlen], heap_alloc_new w.drew _, by omega, hcm2, ?_, ?_⟩, ⟨rfl, rfl, rfl, by simp, fun k hk _ => Lib.alloc_old w.drew _ k hk⟩, fun g' hg' => .inr (by cases hg'; exact Nat.le_refl _)⟩
      · have hz1 : (Value.int IntKind.u8 0).cells.size = 1 := rfl
        simp only [Array.size_append, List.size_toArray, size_zeroCells, hz1, hl]
        omega
      · simp only [Array.toList_append, List.append_assoc]
        rw [← List.append_assoc]
        exact List.take_left

/-- The operation, for the walk. -/
theorem wpList_append_buf {w : World} {ops : Array Oper} {rest : List Oper} {o : Oper} {a : Act} {Q : Exit → Act → World → Prop} (hgd : o.guard = none) (sl x : Operand) (t u : TypeId)
    (ho : o.op = .call { callee := .builtin .append, args := #[sl, x], argTypes := #[t, u] })
    (e : TypeId) (i : TypeInfo) (ht : P.underlying t = some (.slice e)) (hu : P.underlying u = some .string) (hi : P.info? e = some i) (hz : i.zero = some (.int .u8 0))
    (hsize : i.size = 1) (hby : i.bytes = 1)
    (v : Value) (xs : List Value) (hs : a.eval sl = v) (hown : Buf w e v xs) (s : ByteArray) (hx : a.eval x = .string s) (hs0 : s.size ≠ 0)
    (hbytes : xs.length + s.size ≤ 140737488355328)
    (h : ∀ v' w', Buf w' e v' (xs ++ Lib.strCells s) → w.grownBy w' v.ownBlock → (∀ g, v'.ownBlock = some g → v.ownBlock = some g ∨ w.heap.size ≤ g) → wpList P ops Q rest (a.put o.dst v') w') : wpList P ops Q (o :: rest) a w := by
  refine wpList_plain hgd fun K hK => ?_
  obtain ⟨v', w', hr, h2, h3, h4⟩ := run_append_buf (P := P) w t u o.type e i ht hu hi hz hsize hby v xs hown s hs0 hbytes
  unfold Oper.wp execOp
  simp only [ho, resolve, invoke, builtin, Sem.run_bind, Sem.run_pure, Result.andThen_ok, List.map_toArray, List.map_cons, List.map_nil, hs, hx, hr]
  exact hK _ _ (h v' w' h2 h3 h4)
end

/-- Nothing but the block b turns. -/
structure Touch (b : Nat) (w w' : World) : Prop where
  os : w'.os = w.os
  tape : w'.tape = w.tape
  output : w'.output = w.output
  size : w'.heap.size = w.heap.size
  block : ∀ k, k ≠ b → w'.heap[k]? = w.heap[k]?

theorem Touch.refl (b : Nat) (w : World) : Touch b w w := ⟨rfl, rfl, rfl, rfl, fun _ _ => rfl⟩
theorem Touch.setCell (w : World) (b i : Nat) (v : Value) : Touch b w (w.setCell ⟨b, i, none⟩ v) :=
  ⟨rfl, rfl, rfl, by simp [World.setCell], fun k hk => by simp only [World.setCell, Array.getElem?_modify]; rw [if_neg (fun e => hk e.symm)]⟩

/-- What WriteString asks of a program: its body, its types; what its copy check turns. -/
structure LW (P : Program) (ρ : Go.Shelf.Ren) : Prop where
  mixed : P.follows .mixedOrders = true
  f166 : P.funcs[ρ.f 166]? = some (Body.n166 ρ)
  t0 : P.underlying (ρ.t 0) = some (TypeDesc.tuple #[])
  a0 : ∀ w, (isAgg (ρ.t 0)).run P w = .ok false w
  z0 : ∀ w, (Go.sizeOf (ρ.t 0)).run P w = .ok 1 w
  v0 : ∀ w, (zeroValue (ρ.t 0)).run P w = .ok (Value.tuple #[]) w
  t3 : P.underlying (ρ.t 3) = some (TypeDesc.int IntKind.i64)
  a3 : ∀ w, (isAgg (ρ.t 3)).run P w = .ok false w
  z3 : ∀ w, (Go.sizeOf (ρ.t 3)).run P w = .ok 1 w
  v3 : ∀ w, (zeroValue (ρ.t 3)).run P w = .ok (Value.int IntKind.i64 0) w
  t4 : P.underlying (ρ.t 4) = some (TypeDesc.bool)
  a4 : ∀ w, (isAgg (ρ.t 4)).run P w = .ok false w
  z4 : ∀ w, (Go.sizeOf (ρ.t 4)).run P w = .ok 1 w
  v4 : ∀ w, (zeroValue (ρ.t 4)).run P w = .ok (Value.bool false) w
  t9 : P.underlying (ρ.t 9) = some (TypeDesc.string)
  a9 : ∀ w, (isAgg (ρ.t 9)).run P w = .ok false w
  z9 : ∀ w, (Go.sizeOf (ρ.t 9)).run P w = .ok 1 w
  v9 : ∀ w, (zeroValue (ρ.t 9)).run P w = .ok (Value.string { data := #[] }) w
  t37 : P.underlying (ρ.t 37) = some (TypeDesc.slice (ρ.t 5))
  a37 : ∀ w, (isAgg (ρ.t 37)).run P w = .ok false w
  z37 : ∀ w, (Go.sizeOf (ρ.t 37)).run P w = .ok 1 w
  v37 : ∀ w, (zeroValue (ρ.t 37)).run P w = .ok (Value.slice none 0 0) w
  t70 : P.underlying (ρ.t 70) = some (TypeDesc.pointer (ρ.t 72))
  a70 : ∀ w, (isAgg (ρ.t 70)).run P w = .ok false w
  z70 : ∀ w, (Go.sizeOf (ρ.t 70)).run P w = .ok 1 w
  v70 : ∀ w, (zeroValue (ρ.t 70)).run P w = .ok (Value.pointer none) w
  t72 : P.underlying (ρ.t 72) = some (TypeDesc.struct #[{ name := "addr", type := ρ.t 70, offset := 0, embedded := false, tag := "", pkgPath := "strings", byteOffset := 0 }, { name := "buf", type := ρ.t 37, offset := 1, embedded := false, tag := "", pkgPath := "strings", byteOffset := 8 }])
  a72 : ∀ w, (isAgg (ρ.t 72)).run P w = .ok true w
  z72 : ∀ w, (Go.sizeOf (ρ.t 72)).run P w = .ok 2 w
  v72 : ∀ w, (zeroValue (ρ.t 72)).run P w = .ok (Value.agg #[Value.pointer none, Value.slice none 0 0]) w
  t75 : P.underlying (ρ.t 75) = some (TypeDesc.interface #[("Error", ρ.t 80)])
  a75 : ∀ w, (isAgg (ρ.t 75)).run P w = .ok false w
  z75 : ∀ w, (Go.sizeOf (ρ.t 75)).run P w = .ok 1 w
  v75 : ∀ w, (zeroValue (ρ.t 75)).run P w = .ok (Value.nilIface) w
  e240 : ∀ args w, (callFunc (ρ.f 240) args).run P w = .ok (.enter (ρ.f 240) args) w
  copy : ∀ (b : Nat) (u : Bool) (v : Value) (w : World), w.heap[b]? = some (.cells #[.pointer (cond u (some ⟨b, 0, none⟩) none), v] (ρ.t 72) (0, 0)) →
    Calls P (ρ.f 240) #[.pointer (some ⟨b, 0, none⟩)] w fun e w' => e = .returned (.tuple #[]) ∧ w'.heap[b]? = some (.cells #[.pointer (some ⟨b, 0, none⟩), v] (ρ.t 72) (0, 0)) ∧ Touch b w w'

section
variable {P : Program} {ρ : Go.Shelf.Ren}

set_option maxHeartbeats 2000000 in
set_option maxRecDepth 100000 in
theorem write_ex (L : LW P ρ) (X : Builder.Extra P ρ) (b : Nat) (u : Bool) (v : Value) (xs : List Value) (s : ByteArray) (w : World)
    (hb : w.heap[b]? = some (.cells #[.pointer (cond u (some ⟨b, 0, none⟩) none), v] (ρ.t 72) (0, 0))) (hv : Buf w (ρ.t 5) v xs) (hne : v.ownBlock ≠ some b) (hs0 : s.size ≠ 0) (hlen : xs.length + s.size ≤ 140737488355328) :
    Calls P (ρ.f 166) #[.pointer (some ⟨b, 0, none⟩), .string s] w fun e w' => e = .returned (.tuple #[.int .i64 s.size, .nilIface]) ∧ ∃ v', w'.heap[b]? = some (.cells #[.pointer (some ⟨b, 0, none⟩), v'] (ρ.t 72) (0, 0)) ∧
      Buf w' (ρ.t 5) v' (xs ++ Lib.strCells s) ∧ w'.os = w.os ∧ w'.tape = w.tape ∧ w'.output = w.output ∧ w.heap.size ≤ w'.heap.size ∧ (∀ k, k < w.heap.size → k ≠ b → v.ownBlock ≠ some k → w'.heap[k]? = w.heap[k]?) ∧
      (∀ g, v'.ownBlock = some g → v.ownBlock = some g ∨ w.heap.size ≤ g) := by
  obtain ⟨i0, hi, hz0, hz1, hz2⟩ := info_parts X.infoByte
  have mixed := L.mixed
  have t72 := L.t72; have a72 := L.a72; have z72 := L.z72; have v72 := L.v72; have u72 := run_underlying L.t72
  have t70 := L.t70; have a70 := L.a70; have z70 := L.z70; have v70 := L.v70; have u70 := run_underlying L.t70
  have t37 := L.t37; have a37 := L.a37; have z37 := L.z37; have v37 := L.v37; have u37 := run_underlying L.t37
  have t3 := L.t3; have a3 := L.a3; have z3 := L.z3; have v3 := L.v3; have u3 := run_underlying L.t3
  have t9 := L.t9; have a9 := L.a9; have z9 := L.z9; have v9 := L.v9; have u9 := run_underlying L.t9
  have t4 := L.t4; have a4 := L.a4; have z4 := L.z4; have v4 := L.v4; have u4 := run_underlying L.t4
  have t5 := X.t5; have a5 := X.a5; have z5 := X.z5; have v5 := X.v5; have u5 := run_underlying X.t5
  have e240 := L.e240
  go_enter L.f166, Body.n166_ntmps ρ
  go_wp2_with (go_at_fn (ρ.f 240); refine (L.copy b u v _ hb).mono ?_)
  rintro e w1 ⟨rfl, hbk, ht⟩
  have c0 : w1.cell? ⟨b, 0, none⟩ = some (.pointer (some ⟨b, 0, none⟩)) := by rw [Lib.cell_of_heap hbk]; rfl
  have c1 : w1.cell? ⟨b, 1, none⟩ = some v := by rw [Lib.cell_of_heap hbk]; rfl
  have hv1 : Buf w1 (ρ.t 5) v xs := hv.of_heap fun g hg => ht.block g (fun e => hne (e ▸ hg))
  go_wp2_with (at_builtin; refine wpList_append_buf rfl _ _ (ρ.t 37) (ρ.t 9) rfl (ρ.t 5) i0 L.t37 L.t9 hi hz0 hz1 hz2 _ _ rfl hv1 s rfl hs0 ?c3 ?_)
  case c3 => omega
  intro v' w2 hown' hgrow hfresh
  have hlt : b < w1.heap.size := by
    rcases Nat.lt_or_ge b w1.heap.size with h' | h'
    · exact h'
    · simp [Array.getElem?_eq_none h'] at hbk
  have hb2 : w2.heap[b]? = some (.cells #[.pointer (some ⟨b, 0, none⟩), v] (ρ.t 72) (0, 0)) := by
    rw [hgrow.block b hlt (fun e => hne e.symm)]
    exact hbk
  have d0 : w2.cell? ⟨b, 0, none⟩ = some (.pointer (some ⟨b, 0, none⟩)) := by rw [Lib.cell_of_heap hb2]; rfl
  have d1 : w2.cell? ⟨b, 1, none⟩ = some v := by rw [Lib.cell_of_heap hb2]; rfl
  have f1 : w2.frozen? ⟨b, 1, none⟩ = false := Lib.frozen_of_heap hb2 1
  obtain ⟨ao, n', cap, rfl⟩ : ∃ ao n' cap, v' = .slice ao n' cap := by
    rcases hown' with ⟨hv, _⟩ | ⟨g, cap, cur, hv, _⟩
    · exact ⟨_, _, _, hv⟩
    · exact ⟨_, _, _, hv⟩
  go_wp2
  go_ret2
  have hne' : ∀ g, (Value.slice ao n' cap).ownBlock = some g → g ≠ b := fun g hg e => by
    subst e
    rcases hfresh _ hg with q | q
    · exact hne q
    · omega
  have hT := Touch.setCell w2 b 1 (.slice ao n' cap)
  refine ⟨rfl, _, ?_, hown'.of_heap fun g hg => hT.block g (hne' g hg), hgrow.os.trans ht.os, hgrow.tape.trans ht.tape, hgrow.output.trans ht.output, ?_, fun k hk hkb hkv => ?_, fun g hg => ?_⟩
  · simp only [World.setCell, Array.getElem?_modify]
    simp only [if_true, hb2]; rfl
  · rw [hT.size, ← ht.size]; exact hgrow.size
  · rw [hT.block k hkb, hgrow.block k (by rw [ht.size]; exact hk) (fun e => hkv e.symm), ht.block k hkb]
  · rw [← ht.size]; exact hfresh g hg

set_option maxHeartbeats 2000000 in
set_option maxRecDepth 100000 in
theorem string_ex (L : Lays.n169 P ρ) (X : Builder.Extra P ρ) (b g cap : Nat) (l : List UInt8) (p : Value) (cur : Array Value) (w : World) (h0 : l ≠ [])
    (hbk : w.heap[b]? = some (.cells #[p, .slice (some ⟨g, 0, none⟩) l.length cap] (ρ.t 72) (0, 0))) (hg : w.heap[g]? = some (.cells cur (ρ.t 5) (0, 0))) (hnc : l.length ≤ cap) (hcm : cap ≤ maxLen) (hcs : cur.size = cap)
    (htake : cur.toList.take l.length = Lib.byteCells l) :
    Calls P (ρ.f 169) #[.pointer (some ⟨b, 0, none⟩)] w fun e w' => e = .returned (.string ⟨l.toArray⟩) ∧ Touch g w w' := by
  have hl0 : l.length ≠ 0 := by simpa using h0
  have hown : w.ownsRowF g (ρ.t 5) 1 (.slice (some ⟨g, 0, none⟩) l.length cap) l.length (Lib.byteCells l) := ⟨by simp [Lib.byteCells_length], .inr ⟨g, cap, cur, (0, 0), rfl, Nat.le_refl _, hg, Nat.zero_le _, hnc, hcm, by simpa using hcs, by simpa using htake⟩⟩
  have c1 : w.drew.cell? ⟨b, 1, none⟩ = some (.slice (some ⟨g, 0, none⟩) l.length cap) := by
    have : w.drew.heap[b]? = some (.cells #[p, .slice (some ⟨g, 0, none⟩) l.length cap] (ρ.t 72) (0, 0)) := hbk
    rw [Lib.cell_of_heap this]; rfl
  have hSD : (Builtin.unsafeSliceData_ #[(ρ.t 37)] (ρ.t 127) #[.slice (some ⟨g, 0, none⟩) l.length cap]).run P w.drew = .ok (.pointer (some ⟨g, 0, none⟩)) w.drew :=
    Lib.run_unsafeSliceData_row _ _ _ _ _ _ (by omega)
  have hUS : (Builtin.unsafeString_ #[(ρ.t 127), (ρ.t 3)] (ρ.t 9) #[.pointer (some ⟨g, 0, none⟩), .int .i64 l.length]).run P w.drew = .ok (.string ⟨l.toArray⟩) (w.drew.freeze ⟨g, 0, none⟩ l.length) := by
    refine Lib.run_unsafeString_row w.drew (ρ.t 127) (ρ.t 3) (ρ.t 9) (ρ.t 5) L.t127 X.cellsByte g cur.size (by have hg' : w.drew.heap[g]? = some (.cells cur (ρ.t 5) (0, 0)) := hg; simp [World.shape?, hg']) l h0 (by omega) (by unfold maxLen at hcm; omega) ?_
    intro j x hx
    have := hown.cells (g := g) rfl j (.int .u8 x.toNat) (by simp [Lib.byteCells, hx])
    exact this
  have hT : Touch g w (w.drew.freeze ⟨g, 0, none⟩ l.length) := by
    unfold World.freeze
    rw [if_neg hl0]
    exact ⟨rfl, rfl, rfl, by simp, fun k hk => by simp only [Array.getElem?_modify]; rw [if_neg (fun e => hk e.symm)]; rfl⟩
  have mixed := L.mixed
  have t72 := L.t72; have a72 := L.a72; have z72 := L.z72; have v72 := L.v72; have u72 := run_underlying L.t72
  have t70 := L.t70; have a70 := L.a70; have z70 := L.z70; have v70 := L.v70; have u70 := run_underlying L.t70
  have t37 := L.t37; have a37 := L.a37; have z37 := L.z37; have v37 := L.v37; have u37 := run_underlying L.t37
  have t127 := L.t127; have a127 := L.a127; have z127 := L.z127; have v127 := L.v127; have u127 := run_underlying L.t127
  have t3 := L.t3; have a3 := L.a3; have z3 := L.z3; have v3 := L.v3; have u3 := run_underlying L.t3
  have t9 := L.t9; have a9 := L.a9; have z9 := L.z9; have v9 := L.v9; have u9 := run_underlying L.t9
  have t5 := X.t5; have a5 := X.a5; have z5 := X.z5; have v5 := X.v5; have u5 := run_underlying X.t5
  go_enter L.f169, Body.n169_ntmps ρ
  go_wp2
  go_region_o
  all_goals (go_wp2; go_ret; exact ⟨rfl, hT⟩)
end
end Go.Ab
