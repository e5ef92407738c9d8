/- The two look-ups that range ic a function. -/
import Derived.RangeFuncNested
import Derived.RangeFuncLeaves
import Derived.Shelf.Abstract
import Derived.WalkKit
import Derived.OwnWalkIn
import Derived.TacticsInMore
import Derived.LoopNIn
import Derived.LoopIn
import Derived.Test.YtcolbcpeialmhaaGreatDoorProg
import Derived.Test.YtcolbcpeialmhaaGreatDoorAH
namespace Go.Proofs.YtcolbcpeialmhaaGreatDoor
open Go Go.Proofs Go.RowKit Go.Shelf
attribute [local go_sem] Oper.semAt_some
def upto {α : Type} (f : Nat → α) (k : Nat) : List α := (List.range k).map f
theorem cw {α : Type} (f : Nat → α) (k : Nat) : upto f (k + 1) = upto f k ++ [f k] := by simp [upto, List.range_succ]
theorem gD {α : Type} (f : Nat → α) (k : Nat) : (upto f k).length = k := by simp [upto]
set_option maxRecDepth 100000 in
set_option maxHeartbeats 2000000 in
theorem HL (F : Fence) (n : Nat) (h7 : F.fn 452) (hro : F.round = none) (hn : 1 ≤ n) (l Bs n₀ b off len cap : Nat) (ad : Nat → Option Addr) (ln cp : Nat → Nat) (hreach : len ≤ 1000000) (hb : b < n₀) (J Jx : List Nat → World → Prop)
 (hY : ∀ (pre : List Nat) (x : Nat) (W : World), J pre W → pre.length < len → YieldAt F (n - 1) Tryz.prog l #[.int .i64 (x : Int), .slice (ad x) (ln x) (cp x)] W fun e W' =>
  (e = .returned (.bool true) ∧ J (pre ++ [x]) W' ∧ Below n₀ W W') ∨ (e = .returned (.bool false) ∧ Jx (pre ++ [x]) W'))
 (W : World) (hBs : W.cell? ⟨Bs, 0, none⟩ = some (.slice (some ⟨b, off, none⟩) len cap)) (hlo : Bs < n₀) (hc : ∀ j, j < len → W.cell? ⟨b, off + j, none⟩ = some (.slice (ad j) (ln j) (cp j))) (h0 : J [] W) :
 CallsIn F n Tryz.prog 452 #[.func (.yield l) #[] #[], .pointer (some ⟨Bs, 0, none⟩)] W fun e W' => (∃ v, e = .returned v) ∧
  ((∃ ys, ys = upto (fun j => len - 1 - j) len ∧ J ys W') ∨ (∃ pre, (∃ k, k ≤ len ∧ pre = upto (fun j => len - 1 - j) k) ∧ Jx pre W')) := by
 refine callsIn_of_wp Tryz.func452 rfl h7 ?_ hro
 simp only [Tryz.ntmps452, List.size_toArray, List.length_cons, List.length_nil, Nat.reduceAdd, Nat.reduceSub, Array.replicate_succ, Array.replicate_zero, List.push_toArray, List.append_toArray, List.nil_append, List.cons_append]
 gi_wp2
 gi_loopw [3] (fun i wr => ∃ k : Nat, k ≤ len ∧ i = .int .i64 ((len : Int) - 1 - k) ∧ J (upto (fun j => len - 1 - j) k) wr ∧ Below n₀ W wr)
  (fun i _ => (intOf i + 1).toNat)
 case atStart => exact ⟨0, Nat.zero_le _, by simp, h0, Below.refl _ _⟩
 case round =>
  obtain ⟨k, hk, rfl, hJs, hnx⟩ := hrel
  by_cases hlt : k < len
  · obtain ⟨q, hq⟩ : ∃ q, q + 1 + k = len := ⟨len - 1 - k, by omega⟩
    have e1 : ((len : Int) - 1 - k) = (q : Int) := by omega
    rw [e1]
    have hql : q < len := by omega
    have hcx : wr.cell? ⟨b, off + q, none⟩ = some (.slice (ad q) (ln q) (cp q)) := (hnx.cell (p := ⟨b, off + q, none⟩) hb).trans (hc q hql)
    have hBx : wr.cell? ⟨Bs, 0, none⟩ = some (.slice (some ⟨b, off, none⟩) len cap) := (hnx.cell (p := ⟨Bs, 0, none⟩) hlo).trans hBs
    obtain ⟨fn, tmps, assign, body, hy, hR⟩ := hY _ q wr hJs (by rw [gD]; exact hlt)
    gi_wp2
    refine hR.mono ?_
    rintro e W3 (⟨rfl, hJ3, hk3⟩ | ⟨rfl, hJx3⟩)
    · gi_wp2
      go_roundw
      case rel => exact ⟨k + 1, by omega, by simp; omega, by rw [cw, show len - 1 - k = q by omega]; exact hJ3, hnx.trans hk3⟩
      case measure => simp [intOf]
    · gi_wp2
      refine bodyPost_ret (results_none rfl _ _ _) rfl ?_
      exact ⟨⟨_, rfl⟩, .inr ⟨_, ⟨k + 1, by omega, by rw [cw, show len - 1 - k = q by omega]⟩, hJx3⟩⟩
  · obtain rfl : k = len := by omega
    have e1 : ((k : Int) - 1 - k) = -1 := by omega
    rw [e1]
    gi_wp2
    go_end0
    exact ⟨⟨_, rfl⟩, .inl ⟨_, rfl, hJs⟩⟩
set_option maxRecDepth 100000 in
set_option maxHeartbeats 1000000 in
theorem Fy (F : Fence) (n : Nat) (h7 : F.fn 452) (hro : F.round = none) (l Bs : Nat) (J : List Nat → World → Prop) (W : World) (hBs : W.cell? ⟨Bs, 0, none⟩ = some (.slice none 0 0)) (h0 : J [] W) :
 CallsIn F n Tryz.prog 452 #[.func (.yield l) #[] #[], .pointer (some ⟨Bs, 0, none⟩)] W fun e W' => (∃ v, e = .returned v) ∧ J [] W' := by
 refine callsIn_of_wp Tryz.func452 rfl h7 ?_ hro
 simp only [Tryz.ntmps452, List.size_toArray, List.length_cons, List.length_nil, Nat.reduceAdd, Nat.reduceSub, Array.replicate_succ, Array.replicate_zero, List.push_toArray, List.append_toArray, List.nil_append, List.cons_append]
 gi_wp2
 gi_loopw [3] (fun i wr => i = .int .i64 (-1) ∧ J [] wr) (fun _ _ => 0)
 case atStart => exact ⟨by simp, h0⟩
 case round =>
  obtain ⟨rfl, hJs⟩ := hrel
  gi_wp2
  go_end0
  exact ⟨⟨_, rfl⟩, hJs⟩
set_option maxHeartbeats 1000000 in
theorem HP (F : Fence) (n : Nat) (h5 : F.fn 413) (hro : F.round = none) (a : Option Addr) (len cap : Nat) (w : World) :
 CallsIn F n Tryz.prog 413 #[.slice a len cap] w fun e w' => e = .returned (.func (.func 452) #[] #[.pointer (some ⟨w.heap.size, 0, none⟩)]) ∧ w' = w.alloc (.cells #[.slice a len cap] 87) := by
 refine callsIn_of_wp Tryz.func413 rfl h5 ?_ hro
 simp only [Tryz.ntmps413, List.size_toArray, List.length_cons, List.length_nil, Nat.reduceAdd, Nat.reduceSub, Array.replicate_succ, Array.replicate_zero, List.push_toArray, List.append_toArray, List.nil_append, List.cons_append]
 gi_wp2
 go_ret
 exact ⟨rfl, rfl⟩
def Rows (n₀ : Nat) (W : World) (sv : Value) (len : Nat) (ad : Nat → Option Addr) (ln cp : Nat → Nat) : Prop :=
 (sv = .slice none 0 0 ∧ len = 0) ∨ ∃ b off cap, sv = .slice (some ⟨b, off, none⟩) len cap ∧ b < n₀ ∧ ∀ j, j < len → W.cell? ⟨b, off + j, none⟩ = some (.slice (ad j) (ln j) (cp j))
theorem Rows.below {n₀ : Nat} {A B : World} (h : Below n₀ A B) {sv : Value} {len : Nat} {ad : Nat → Option Addr} {ln cp : Nat → Nat} : Rows n₀ A sv len ad ln cp → Rows n₀ B sv len ad ln cp
 | .inl e => .inl e
 | .inr ⟨b, off, cap, e, hb, hc⟩ => .inr ⟨b, off, cap, e, hb, fun j hj => (h.cell (p := ⟨b, off + j, none⟩) hb).trans (hc j hj)⟩
theorem Rows.mono {n₀ n₁ : Nat} (h : n₀ ≤ n₁) {W : World} {sv : Value} {len : Nat} {ad : Nat → Option Addr} {ln cp : Nat → Nat} : Rows n₀ W sv len ad ln cp → Rows n₁ W sv len ad ln cp
 | .inl e => .inl e
 | .inr ⟨b, off, cap, e, hb, hc⟩ => .inr ⟨b, off, cap, e, by omega, hc⟩
theorem vW (F : Fence) (n : Nat) (h7 : F.fn 452) (hro : F.round = none) (hn : 1 ≤ n) (Bs n₀ : Nat) (sv : Value) (len : Nat) (ad : Nat → Option Addr) (ln cp : Nat → Nat) (hreach : len ≤ 1000000) (w : World) (hBs : Bs < n₀) (hn₀ : n₀ ≤ w.heap.size)
 (hc : w.cell? ⟨Bs, 0, none⟩ = some sv) (hI : Rows n₀ w sv len ad ln cp) :
 SeqStopsK F n Tryz.prog 452 #[.pointer (some ⟨Bs, 0, none⟩)] (fun x : Nat => #[Value.int .i64 (x : Int), .slice (ad x) (ln x) (cp x)]) (Below n₀) (fun ys => ys = upto (fun j => len - 1 - j) len)
  (fun pre => ∃ k, k ≤ len ∧ pre = upto (fun j => len - 1 - j) k) len w := fun l J Jx W hW _ _ hY h0 => by
 have hc' := (hW.cell (p := ⟨Bs, 0, none⟩) (by show Bs < _; omega)).trans hc
 rcases hI.below (hW.mono hn₀) with ⟨rfl, rfl⟩ | ⟨b, off, cap, rfl, hb, hcs⟩
 · exact (Fy F n h7 hro l Bs J W hc' h0).mono fun e W' ⟨he, hj⟩ => ⟨he, .inl ⟨_, rfl, hj⟩⟩
 · exact HL F n h7 hro hn l Bs n₀ b off len cap ad ln cp hreach hb J Jx hY W hc' hBs hcs h0
end Go.Proofs.YtcolbcpeialmhaaGreatDoor
namespace Go.Proofs.YtcolbcpeialmhaaGreatDoor
open Go Go.Proofs Go.RowKit Go.Shelf
open Go.Ab (VarV VarV.cells VRows)
attribute [local go_sem] Oper.semAt_some
structure Vars (n₀ : Nat) (W : World) (ad : Option Addr) (ln : Nat) (vs : Nat → VarV) : Prop where
 ex : ln ≠ 0 → ∃ b off, ad = some ⟨b, off, none⟩ ∧ b < n₀ ∧ ∀ k, k < ln → ∀ c, c < 6 → W.cell? ⟨b, off + k * 6 + c, none⟩ = (vs k).cells[c]?
 few : ln ≤ 1000000
def Blk (W : World) (B : Nat) (t : TypeId) (a : Array Value) : Prop := W.heap[B]? = some (.cells a t (0, 0))
theorem Blk.lt {W : World} {B : Nat} {t : TypeId} {a : Array Value} (h : Blk W B t a) : B < W.heap.size := (Array.getElem?_eq_some_iff.1 h).1
theorem Blk.new (W : World) (t : TypeId) (a : Array Value) : Blk (W.alloc (.cells a t)) W.heap.size t a := World.alloc_heap_new W _
theorem Blk.kept {W W' : World} {row : Option Nat} {B : Nat} {t : TypeId} {a : Array Value} (h : Blk W B t a) (hg : W.grownBy W' row) (hne : some B ≠ row) : Blk W' B t a := (hg.block B h.lt hne).trans h
theorem Blk.alloc {W : World} {B : Nat} {t : TypeId} {a : Array Value} (h : Blk W B t a) (o : Obj) : Blk (W.alloc o) B t a := h.kept (World.grownBy_alloc W o none) (by simp)
theorem fS {β : Type} (B : Nat) (t : TypeId) (f : β → Array Value) : Own (fun s W => Blk W B t (f s)) := fun s X Y row hs hg hrow =>
 hs.kept hg (fun e' => by obtain ⟨o, ho, hc⟩ := hrow B e'.symm; rw [show X.heap[B]? = _ from hs] at ho; cases ho; cases hc)
theorem Blk.cell {W : World} {B : Nat} {t : TypeId} {a : Array Value} (h : Blk W B t a) (i : Nat) : W.cell? ⟨B, i, none⟩ = a[i]? := by simp [World.cell?, show W.heap[B]? = _ from h]
theorem Blk.frozen {W : World} {B : Nat} {t : TypeId} {a : Array Value} (h : Blk W B t a) (i : Nat) : W.frozen? ⟨B, i, none⟩ = false := by simp [World.frozen?, show W.heap[B]? = _ from h]
theorem fx (W : World) (b i : Nat) (v : Value) : W.grownBy (W.setCell ⟨b, i, none⟩ v) (some b) :=
 ⟨rfl, rfl, rfl, (KeepsWalks.setCell W _ v).size, fun k _ hk => Below.heap_setCell _ _ _ k (fun e => hk (by rw [e]))⟩
theorem Blk.set {W : World} {B : Nat} {t : TypeId} {a : Array Value} (i : Nat) (v' : Value) (h : Blk W B t a) : Blk (W.setCell ⟨B, i, none⟩ v') B t (a.setIfInBounds i v') := by
 obtain ⟨hlt, hk⟩ := Array.getElem?_eq_some_iff.1 h
 show (W.heap.modify B _)[B]? = _
 rw [Array.getElem?_eq_getElem (by rw [Array.size_modify]; exact hlt), Array.getElem_modify_self, hk]
 rfl
theorem Boxed.otherI {W : World} {B B' : Nat} {t : TypeId} {v : Value} (h : Boxed W B t v) (hne : B ≠ B') (i : Nat) (u : Value) : Boxed (W.setCell ⟨B', i, none⟩ u) B t v := h.kept (fx W B' i u) (fun e => hne (by cases e; rfl))
theorem Blk.otherI {W : World} {B B' : Nat} {t : TypeId} {a : Array Value} (h : Blk W B t a) (hne : B ≠ B') (i : Nat) (u : Value) : Blk (W.setCell ⟨B', i, none⟩ u) B t a := h.kept (fx W B' i u) (fun e => hne (by cases e; rfl))
def zeroVar : Array Value := #[.string ⟨#[]⟩, .string ⟨#[]⟩, .string ⟨#[]⟩, .int .i64 0, .slice none 0 0, .int .i64 0]
set_option maxRecDepth 100000 in
set_option maxHeartbeats 600000 in
theorem Mw (F : Fence) (n : Nat) (h3 : F.fn 327) (h4 : F.fn 413) (h5 : F.fn 452) (hro : F.round = none) (hn : 3 ≤ n) (bc oc : Nat) (name : ByteArray) (sa : Option Addr) (len cap : Nat) (ad : Nat → Option Addr) (ln cp : Nat → Nat) (vs : Nat → Nat → VarV) (hreach : len ≤ 1000000)
 (w : World) (hbc : bc < w.heap.size) (hsv : w.cell? ⟨bc, oc + 6, none⟩ = some (.slice sa len cap)) (hI : Rows w.heap.size w (.slice sa len cap) len ad ln cp) (hV : ∀ x, Vars w.heap.size w (ad x) (ln x) (vs x)) :
 CallsIn F n Tryz.prog 327 #[.pointer (some ⟨bc, oc, none⟩), .string name] w fun e W' =>
  ((∃ x k, x < len ∧ k < ln x ∧ (vs x k).nm.toList = name.toList ∧ (∀ k', k' < k → (vs x k').nm.toList ≠ name.toList) ∧ (∀ x', x < x' → x' < len → ∀ k', k' < ln x' → (vs x' k').nm.toList ≠ name.toList) ∧ e = .returned (.tuple #[.agg (vs x k).cells, .bool true]))
   ∨ ((∀ x, x < len → ∀ k, k < ln x → (vs x k).nm.toList ≠ name.toList) ∧ e = .returned (.tuple #[.agg zeroVar, .bool false])))
  ∧ Below w.heap.size w W' := by
 have h1 : 1 ≤ n := by omega
 refine callsIn_of_wp_marks Tryz.func327 rfl h3 ?_ hro
 simp only [Tryz.ntmps327, List.size_toArray, List.length_cons, List.length_nil, Nat.reduceAdd, Nat.reduceSub, Array.replicate_succ, Array.replicate_zero, List.push_toArray, List.append_toArray, List.nil_append, List.cons_append]
 have hB3 : Below w.heap.size w (((w.alloc (Obj.cells #[Value.string name] 9)).alloc (Obj.cells zeroVar 249)).alloc (Obj.cells #[Value.bool false] 4)) := (((Below.refl _ w).alloc (Nat.le_refl _) _).alloc (by simp) _).alloc (by simp; omega) _
 have hA := (hB3.cell (p := ⟨bc, oc + 6, none⟩) hbc).trans hsv
 unfold zeroVar at hA
 gi_wp2_with (gi_at_call 413; refine (HP F (n - 1) h4 hro _ _ _ _).mono ?_; rintro e w' ⟨rfl, rfl⟩)
 have bN := ((Boxed.new w 9 (.string name)).alloc (Obj.cells zeroVar 249)).alloc (Obj.cells #[Value.bool false] 4) |>.alloc (Obj.cells #[.slice sa len cap] 87)
 have bR := ((Blk.new (w.alloc (Obj.cells #[Value.string name] 9)) 249 zeroVar).alloc (Obj.cells #[Value.bool false] 4)).alloc (Obj.cells #[.slice sa len cap] 87)
 have bO := (Boxed.new ((w.alloc (Obj.cells #[Value.string name] 9)).alloc (Obj.cells zeroVar 249)) 4 (.bool false)).alloc (Obj.cells #[.slice sa len cap] 87)
 have bS := Boxed.new (((w.alloc (Obj.cells #[Value.string name] 9)).alloc (Obj.cells zeroVar 249)).alloc (Obj.cells #[Value.bool false] 4)) 87 (.slice sa len cap)
 have hB4 := hB3.alloc (by simp; omega) (Obj.cells #[.slice sa len cap] 87)
 simp only [World.size_alloc] at bR bO bS
 have hsz : ((((w.alloc (Obj.cells #[Value.string name] 9)).alloc (Obj.cells zeroVar 249)).alloc (Obj.cells #[Value.bool false] 4)).alloc (Obj.cells #[.slice sa len cap] 87)).heap.size = w.heap.size + 4 := by simp
 unfold zeroVar at bN bR bO bS hB4 hsz
 obtain ⟨W0, hW0⟩ : ∃ W0, ((((w.alloc (Obj.cells #[Value.string name] 9)).alloc (Obj.cells #[Value.string { data := #[] }, Value.string { data := #[] }, Value.string { data := #[] }, Value.int IntKind.i64 0, Value.slice none 0 0, Value.int IntKind.i64 0] 249)).alloc (Obj.cells #[Value.bool false] 4)).alloc (Obj.cells #[.slice sa len cap] 87)) = W0 := ⟨_, rfl⟩
 rw [hW0] at bN bR bO bS hB4 hsz ⊢
 clear hW0 hA hB3
 refine wpIn_rangeFunc_ownG hro h1 (gf := 452) (lb := #[.pointer (some ⟨w.heap.size + 1 + 1 + 1, 0, none⟩)]) rfl h5 (enters_of Tryz.func452 (by kernel_rfl) rfl)
  (vW F (n - 1) h5 hro (by omega) (w.heap.size + 1 + 1 + 1) (w.heap.size + 4) _ len ad ln cp hreach _ (by omega) (by omega) bS.cell ((hI.below hB4).mono (by omega))) belowK_t (belowK_b (by omega)) (Below.refl _ _) (fun _ => rfl)
  (fun pre W => ((((∀ x ∈ pre, ∀ k, k < ln x → (vs x k).nm.toList ≠ name.toList) ∧ Boxed W w.heap.size 9 (.string name)) ∧ Blk W (w.heap.size + 1) 249 zeroVar) ∧ Boxed W (w.heap.size + 1 + 1) 4 (.bool false)) ∧ (Below w.heap.size w W ∧ Below (w.heap.size + 4) W0 W))
  (fun c pre W => (((c = .ret ∧ ∃ ini x k, pre = ini ++ [x] ∧ (∀ y ∈ ini, ∀ k, k < ln y → (vs y k).nm.toList ≠ name.toList) ∧ k < ln x ∧ (vs x k).nm.toList = name.toList ∧ (∀ k', k' < k → (vs x k').nm.toList ≠ name.toList) ∧ Blk W (w.heap.size + 1) 249 (vs x k).cells) ∧ Boxed W (w.heap.size + 1 + 1) 4 (.bool true))) ∧ Below w.heap.size w W)
  (OwnFrom.and (OwnFrom.and (OwnFrom.and (OwnFrom.and (ownFrom_pure _ _) (Own.from (boxed_own _ _ _) _)) (Own.from (fS _ _ _) _)) (Own.from (boxed_own _ _ _) _)) (OwnFrom.and (ownFrom_below (Nat.le_refl _) (by omega)) (ownFrom_below (by omega) (by omega))))
  (fun c => OwnFrom.and (OwnFrom.and (Own.from (fun s A B row hs hg hr => by
   obtain ⟨hc, ini, x, k, e1, e2, e3, e4, e5, e6⟩ := hs
   exact ⟨hc, ini, x, k, e1, e2, e3, e4, e5, fS _ _ (fun (_ : Unit) => _) () A B row e6 hg hr⟩) _) (Own.from (boxed_own _ _ _) _)) (ownFrom_below (Nat.le_refl _) (by omega)))
  ⟨⟨⟨⟨by simp, bN⟩, bR⟩, bO⟩, hB4, Below.refl _ _⟩
  (fun x => { tmps := #[.pointer (some ⟨bc, oc, none⟩), .string name, undef, .pointer (some ⟨w.heap.size, 0, none⟩), .pointer (some ⟨w.heap.size + 1, 0, none⟩), .pointer (some ⟨w.heap.size + 1 + 1, 0, none⟩), undef, .slice (ad x) (ln x) (cp x), undef, undef, .pointer (some ⟨bc, oc, none⟩), .pointer (some ⟨bc, oc, none⟩), .pointer (some ⟨bc, oc + 6, none⟩), .slice sa len cap, .func (.func 452) #[] #[.pointer (some ⟨w.heap.size + 1 + 1 + 1, 0, none⟩)], .int .i64 (x : Int), .slice (ad x) (ln x) (cp x), undef, undef, undef, undef, undef, undef, undef, undef, undef, undef, undef, undef, undef], defers := [] }) ?assign ?body ?done ?stop
 case assign =>
  intro l x W K hK
  gi_wp2
  exact hK
 case body =>
  rintro l pre x W ⟨⟨⟨⟨hp, bN1⟩, bR1⟩, bO1⟩, hB1, hB2⟩ _
  gi_wp2
  gi_loopw [19] (fun i wr => ∃ k : Nat, k ≤ ln x ∧ i = .int .i64 (k : Int) ∧ (∀ k', k' < k → (vs x k').nm.toList ≠ name.toList) ∧ Boxed wr w.heap.size 9 (.string name) ∧ Blk wr (w.heap.size + 1) 249 zeroVar ∧ Boxed wr (w.heap.size + 1 + 1) 4 (.bool false) ∧ Below w.heap.size w wr ∧ Below (w.heap.size + 4) W0 wr ∧ Below (w.heap.size + 4) W wr ∧ KeepsFrom W0.heap.size W wr)
   (fun i _ => ln x - (intOf i).toNat)
  case atStart => exact ⟨0, Nat.zero_le _, rfl, by omega, bN1, bR1, bO1, hB1, hB2, Below.refl _ _, KeepsFrom.refl _ _⟩
  case round =>
   obtain ⟨k, hk, rfl, hno, bN2, bR2, bO2, hB3, hB4', hB5, hK5⟩ := hrel
   have cN := bN2.cell
   by_cases hlt : k < ln x
   · obtain ⟨b', off', e1, e2, e3⟩ := (hV x).ex (by omega)
     have hfew := (hV x).few
     have cc : ∀ c, c < 6 → wr.cell? ⟨b', off' + k * 6 + c, none⟩ = (vs x k).cells[c]? := fun c hc => (hB3.cell (p := ⟨b', off' + k * 6 + c, none⟩) e2).trans (e3 k hlt c hc)
     generalize hv : vs x k = vv at cc hno ⊢
     obtain ⟨nm, kd, tx, at', ka, kl, kc, lv⟩ := vv
     have c0 : wr.cell? ⟨b', off' + k * 6, none⟩ = some (.string nm) := cc 0 (by omega)
     have c1 : wr.cell? ⟨b', off' + k * 6 + 1, none⟩ = some (.string kd) := cc 1 (by omega)
     have c2 : wr.cell? ⟨b', off' + k * 6 + 2, none⟩ = some (.string tx) := cc 2 (by omega)
     have c3 : wr.cell? ⟨b', off' + k * 6 + 3, none⟩ = some (.int .i64 at') := cc 3 (by omega)
     have c4 : wr.cell? ⟨b', off' + k * 6 + 4, none⟩ = some (.slice ka kl kc) := cc 4 (by omega)
     have c5 : wr.cell? ⟨b', off' + k * 6 + 5, none⟩ = some (.int .i64 lv) := cc 5 (by omega)
     clear cc
     have hlR := bR2.lt
     have hlO := bO2.lt
     have cN1 : (wr.alloc (Obj.cells #[.string nm, .string kd, .string tx, .int .i64 at', .slice ka kl kc, .int .i64 lv] 249)).cell? ⟨w.heap.size, 0, none⟩ = some (.string name) := (bN2.alloc _).cell
     have cR1 := fun i => (bR2.alloc (Obj.cells #[.string nm, .string kd, .string tx, .int .i64 at', .slice ka kl kc, .int .i64 lv] 249)).cell i
     have fR1 := fun i => (bR2.alloc (Obj.cells #[.string nm, .string kd, .string tx, .int .i64 at', .slice ka kl kc, .int .i64 lv] 249)).frozen i
     rw [e1]
     gi_wp2
     · have hR1 : Blk ((wr.setCell ⟨w.heap.size + 1, 0, none⟩ (.string nm)).alloc (Obj.cells #[.string nm, .string kd, .string tx, .int .i64 at', .slice ka kl kc, .int .i64 lv] 249)) (w.heap.size + 1) 249 #[.string nm, .string ⟨#[]⟩, .string ⟨#[]⟩, .int .i64 0, .slice none 0 0, .int .i64 0] := (bR2.set 0 (.string nm)).alloc _
       have hR2 : Blk (((wr.setCell ⟨w.heap.size + 1, 0, none⟩ (.string nm)).alloc (Obj.cells #[.string nm, .string kd, .string tx, .int .i64 at', .slice ka kl kc, .int .i64 lv] 249)).setCell ⟨w.heap.size + 1, 1, none⟩ (.string kd)) (w.heap.size + 1) 249 #[.string nm, .string kd, .string ⟨#[]⟩, .int .i64 0, .slice none 0 0, .int .i64 0] := hR1.set 1 _
       have kR1 := hR1.cell 1
       have gR1 := hR1.frozen 1
       simp only [List.getElem?_toArray, List.getElem?_cons_succ, List.getElem?_cons_zero] at kR1
       simp only [Result.andThen_ok, kR1, gR1, Bool.false_eq_true, if_false]
       have hR3 : Blk ((((wr.setCell ⟨w.heap.size + 1, 0, none⟩ (.string nm)).alloc (Obj.cells #[.string nm, .string kd, .string tx, .int .i64 at', .slice ka kl kc, .int .i64 lv] 249)).setCell ⟨w.heap.size + 1, 1, none⟩ (.string kd)).setCell ⟨w.heap.size + 1, 2, none⟩ (.string tx)) (w.heap.size + 1) 249 #[.string nm, .string kd, .string tx, .int .i64 0, .slice none 0 0, .int .i64 0] := hR2.set 2 _
       have kR2 := hR2.cell 2
       have gR2 := hR2.frozen 2
       simp only [List.getElem?_toArray, List.getElem?_cons_succ, List.getElem?_cons_zero] at kR2
       simp only [Result.andThen_ok, kR2, gR2, Bool.false_eq_true, if_false]
       have hR4 : Blk (((((wr.setCell ⟨w.heap.size + 1, 0, none⟩ (.string nm)).alloc (Obj.cells #[.string nm, .string kd, .string tx, .int .i64 at', .slice ka kl kc, .int .i64 lv] 249)).setCell ⟨w.heap.size + 1, 1, none⟩ (.string kd)).setCell ⟨w.heap.size + 1, 2, none⟩ (.string tx)).setCell ⟨w.heap.size + 1, 3, none⟩ (.int .i64 at')) (w.heap.size + 1) 249 #[.string nm, .string kd, .string tx, .int .i64 at', .slice none 0 0, .int .i64 0] := hR3.set 3 _
       have kR3 := hR3.cell 3
       have gR3 := hR3.frozen 3
       simp only [List.getElem?_toArray, List.getElem?_cons_succ, List.getElem?_cons_zero] at kR3
       simp only [Result.andThen_ok, kR3, gR3, Bool.false_eq_true, if_false]
       have hR5 : Blk ((((((wr.setCell ⟨w.heap.size + 1, 0, none⟩ (.string nm)).alloc (Obj.cells #[.string nm, .string kd, .string tx, .int .i64 at', .slice ka kl kc, .int .i64 lv] 249)).setCell ⟨w.heap.size + 1, 1, none⟩ (.string kd)).setCell ⟨w.heap.size + 1, 2, none⟩ (.string tx)).setCell ⟨w.heap.size + 1, 3, none⟩ (.int .i64 at')).setCell ⟨w.heap.size + 1, 4, none⟩ (.slice ka kl kc)) (w.heap.size + 1) 249 #[.string nm, .string kd, .string tx, .int .i64 at', .slice ka kl kc, .int .i64 0] := hR4.set 4 _
       have kR4 := hR4.cell 4
       have gR4 := hR4.frozen 4
       simp only [List.getElem?_toArray, List.getElem?_cons_succ, List.getElem?_cons_zero] at kR4
       simp only [Result.andThen_ok, kR4, gR4, Bool.false_eq_true, if_false]
       have hR6 : Blk (((((((wr.setCell ⟨w.heap.size + 1, 0, none⟩ (.string nm)).alloc (Obj.cells #[.string nm, .string kd, .string tx, .int .i64 at', .slice ka kl kc, .int .i64 lv] 249)).setCell ⟨w.heap.size + 1, 1, none⟩ (.string kd)).setCell ⟨w.heap.size + 1, 2, none⟩ (.string tx)).setCell ⟨w.heap.size + 1, 3, none⟩ (.int .i64 at')).setCell ⟨w.heap.size + 1, 4, none⟩ (.slice ka kl kc)).setCell ⟨w.heap.size + 1, 5, none⟩ (.int .i64 lv)) (w.heap.size + 1) 249 #[.string nm, .string kd, .string tx, .int .i64 at', .slice ka kl kc, .int .i64 lv] := hR5.set 5 _
       have kR5 := hR5.cell 5
       have gR5 := hR5.frozen 5
       simp only [List.getElem?_toArray, List.getElem?_cons_succ, List.getElem?_cons_zero] at kR5
       simp only [Result.andThen_ok, kR5, gR5, Bool.false_eq_true, if_false]
       have hO6 : Boxed (((((((wr.setCell ⟨w.heap.size + 1, 0, none⟩ (.string nm)).alloc (Obj.cells #[.string nm, .string kd, .string tx, .int .i64 at', .slice ka kl kc, .int .i64 lv] 249)).setCell ⟨w.heap.size + 1, 1, none⟩ (.string kd)).setCell ⟨w.heap.size + 1, 2, none⟩ (.string tx)).setCell ⟨w.heap.size + 1, 3, none⟩ (.int .i64 at')).setCell ⟨w.heap.size + 1, 4, none⟩ (.slice ka kl kc)).setCell ⟨w.heap.size + 1, 5, none⟩ (.int .i64 lv)) (w.heap.size + 1 + 1) 4 (.bool false) := Boxed.otherI (Boxed.otherI (Boxed.otherI (Boxed.otherI (Boxed.otherI ((Boxed.otherI bO2 (by omega) _ _).alloc _) (by omega) _ _) (by omega) _ _) (by omega) _ _) (by omega) _ _) (by omega) _ _
       have hK6 : KeepsOthers wr (((((((wr.setCell ⟨w.heap.size + 1, 0, none⟩ (.string nm)).alloc (Obj.cells #[.string nm, .string kd, .string tx, .int .i64 at', .slice ka kl kc, .int .i64 lv] 249)).setCell ⟨w.heap.size + 1, 1, none⟩ (.string kd)).setCell ⟨w.heap.size + 1, 2, none⟩ (.string tx)).setCell ⟨w.heap.size + 1, 3, none⟩ (.int .i64 at')).setCell ⟨w.heap.size + 1, 4, none⟩ (.slice ka kl kc)).setCell ⟨w.heap.size + 1, 5, none⟩ (.int .i64 lv)) := ((((((KeepsOthers.setCell _ _ _).trans (KeepsOthers.alloc _ _)).trans (KeepsOthers.setCell _ _ _)).trans (KeepsOthers.setCell _ _ _)).trans (KeepsOthers.setCell _ _ _)).trans (KeepsOthers.setCell _ _ _)).trans (KeepsOthers.setCell _ _ _)
       have hB6 : Below w.heap.size w (((((((wr.setCell ⟨w.heap.size + 1, 0, none⟩ (.string nm)).alloc (Obj.cells #[.string nm, .string kd, .string tx, .int .i64 at', .slice ka kl kc, .int .i64 lv] 249)).setCell ⟨w.heap.size + 1, 1, none⟩ (.string kd)).setCell ⟨w.heap.size + 1, 2, none⟩ (.string tx)).setCell ⟨w.heap.size + 1, 3, none⟩ (.int .i64 at')).setCell ⟨w.heap.size + 1, 4, none⟩ (.slice ka kl kc)).setCell ⟨w.heap.size + 1, 5, none⟩ (.int .i64 lv)) := ((((((hB3.setCell (p := ⟨w.heap.size + 1, 0, none⟩) (by simp) _).alloc (by have := hB3.size; simpa using this) _).setCell (p := ⟨w.heap.size + 1, 1, none⟩) (by simp) _).setCell (p := ⟨w.heap.size + 1, 2, none⟩) (by simp) _).setCell (p := ⟨w.heap.size + 1, 3, none⟩) (by simp) _).setCell (p := ⟨w.heap.size + 1, 4, none⟩) (by simp) _).setCell (p := ⟨w.heap.size + 1, 5, none⟩) (by simp) _
       generalize hW6 : (((((((wr.setCell ⟨w.heap.size + 1, 0, none⟩ (.string nm)).alloc (Obj.cells #[.string nm, .string kd, .string tx, .int .i64 at', .slice ka kl kc, .int .i64 lv] 249)).setCell ⟨w.heap.size + 1, 1, none⟩ (.string kd)).setCell ⟨w.heap.size + 1, 2, none⟩ (.string tx)).setCell ⟨w.heap.size + 1, 3, none⟩ (.int .i64 at')).setCell ⟨w.heap.size + 1, 4, none⟩ (.slice ka kl kc)).setCell ⟨w.heap.size + 1, 5, none⟩ (.int .i64 lv)) = W6 at hR6 hO6 hK6 hB6 ⊢
       have cO6 := hO6.cell
       have fO6 := hO6.frozen
       gi_wp2
       rename_i hxy _ _ _
       have hxy := eq_of_beq hxy
       exact ⟨hK5.trans ((hK6.trans (KeepsOthers.setCell _ _ _)).from _), ⟨⟨rfl, pre, x, k, rfl, hp, hlt, by rw [hv]; exact hxy, hno, by rw [hv]; exact hR6.otherI (by omega) _ _⟩, hO6.set _⟩, hB6.setCell (p := ⟨w.heap.size + 1 + 1, 0, none⟩) (by simp; omega) _⟩
     · rename_i hxy
       have hs1 := hB3.size
       have hs2 := hB4'.size
       have hs3 := hB5.size
       refine ⟨⟨k + 1, by omega, by simp, fun k' hk' => ?_, bN2.alloc _, bR2.alloc _, bO2.alloc _, hB3.alloc hs1 _, hB4'.alloc (by omega) _, hB5.alloc (by omega) _, hK5.trans ((KeepsOthers.alloc _ _).from _)⟩, ?_⟩
       · by_cases e : k' < k
         · exact hno k' e
         · obtain rfl : k' = k := by omega
           rw [hv]; intro e2; rw [e2] at hxy; simp at hxy
       · simp [intOf]; omega
   · obtain rfl : k = ln x := by omega
     gi_wp2
     exact ⟨hK5, hB5, ⟨⟨⟨fun y hy k' hk' => (List.mem_append.1 hy).elim (fun h => hp y h k' hk') (fun h => by simp at h; subst h; exact hno k' hk'), bN2⟩, bR2⟩, bO2⟩, hB3, hB4'⟩
 case done =>
  rintro D ys W hD rfl ⟨⟨⟨⟨hp, bN1⟩, bR1⟩, bO1⟩, hB1, hB2⟩ hK
  have cR := fun i => bR1.cell i
  have fR := fun i => bR1.frozen i
  gi_wp2
  have hR1 : Blk (W.setCell ⟨w.heap.size + 1, 0, none⟩ (.string ⟨#[]⟩)) (w.heap.size + 1) 249 #[.string ⟨#[]⟩, .string ⟨#[]⟩, .string ⟨#[]⟩, .int .i64 0, .slice none 0 0, .int .i64 0] := bR1.set 0 _
  have hR2 : Blk ((W.setCell ⟨w.heap.size + 1, 0, none⟩ (.string ⟨#[]⟩)).setCell ⟨w.heap.size + 1, 1, none⟩ (.string ⟨#[]⟩)) (w.heap.size + 1) 249 #[.string ⟨#[]⟩, .string ⟨#[]⟩, .string ⟨#[]⟩, .int .i64 0, .slice none 0 0, .int .i64 0] := hR1.set 1 _
  have kR1 := hR1.cell 1
  have gR1 := hR1.frozen 1
  simp only [List.getElem?_toArray, List.getElem?_cons_succ, List.getElem?_cons_zero] at kR1
  simp only [Result.andThen_ok, kR1, gR1, Bool.false_eq_true, if_false]
  have hR3 : Blk (((W.setCell ⟨w.heap.size + 1, 0, none⟩ (.string ⟨#[]⟩)).setCell ⟨w.heap.size + 1, 1, none⟩ (.string ⟨#[]⟩)).setCell ⟨w.heap.size + 1, 2, none⟩ (.string ⟨#[]⟩)) (w.heap.size + 1) 249 #[.string ⟨#[]⟩, .string ⟨#[]⟩, .string ⟨#[]⟩, .int .i64 0, .slice none 0 0, .int .i64 0] := hR2.set 2 _
  have kR2 := hR2.cell 2
  have gR2 := hR2.frozen 2
  simp only [List.getElem?_toArray, List.getElem?_cons_succ, List.getElem?_cons_zero] at kR2
  simp only [Result.andThen_ok, kR2, gR2, Bool.false_eq_true, if_false]
  have hR4 : Blk ((((W.setCell ⟨w.heap.size + 1, 0, none⟩ (.string ⟨#[]⟩)).setCell ⟨w.heap.size + 1, 1, none⟩ (.string ⟨#[]⟩)).setCell ⟨w.heap.size + 1, 2, none⟩ (.string ⟨#[]⟩)).setCell ⟨w.heap.size + 1, 3, none⟩ (.int .i64 0)) (w.heap.size + 1) 249 #[.string ⟨#[]⟩, .string ⟨#[]⟩, .string ⟨#[]⟩, .int .i64 0, .slice none 0 0, .int .i64 0] := hR3.set 3 _
  have kR3 := hR3.cell 3
  have gR3 := hR3.frozen 3
  simp only [List.getElem?_toArray, List.getElem?_cons_succ, List.getElem?_cons_zero] at kR3
  simp only [Result.andThen_ok, kR3, gR3, Bool.false_eq_true, if_false]
  have hR5 : Blk (((((W.setCell ⟨w.heap.size + 1, 0, none⟩ (.string ⟨#[]⟩)).setCell ⟨w.heap.size + 1, 1, none⟩ (.string ⟨#[]⟩)).setCell ⟨w.heap.size + 1, 2, none⟩ (.string ⟨#[]⟩)).setCell ⟨w.heap.size + 1, 3, none⟩ (.int .i64 0)).setCell ⟨w.heap.size + 1, 4, none⟩ (.slice none 0 0)) (w.heap.size + 1) 249 #[.string ⟨#[]⟩, .string ⟨#[]⟩, .string ⟨#[]⟩, .int .i64 0, .slice none 0 0, .int .i64 0] := hR4.set 4 _
  have kR4 := hR4.cell 4
  have gR4 := hR4.frozen 4
  simp only [List.getElem?_toArray, List.getElem?_cons_succ, List.getElem?_cons_zero] at kR4
  simp only [Result.andThen_ok, kR4, gR4, Bool.false_eq_true, if_false]
  have hR6 : Blk ((((((W.setCell ⟨w.heap.size + 1, 0, none⟩ (.string ⟨#[]⟩)).setCell ⟨w.heap.size + 1, 1, none⟩ (.string ⟨#[]⟩)).setCell ⟨w.heap.size + 1, 2, none⟩ (.string ⟨#[]⟩)).setCell ⟨w.heap.size + 1, 3, none⟩ (.int .i64 0)).setCell ⟨w.heap.size + 1, 4, none⟩ (.slice none 0 0)).setCell ⟨w.heap.size + 1, 5, none⟩ (.int .i64 0)) (w.heap.size + 1) 249 #[.string ⟨#[]⟩, .string ⟨#[]⟩, .string ⟨#[]⟩, .int .i64 0, .slice none 0 0, .int .i64 0] := hR5.set 5 _
  have kR5 := hR5.cell 5
  have gR5 := hR5.frozen 5
  simp only [List.getElem?_toArray, List.getElem?_cons_succ, List.getElem?_cons_zero] at kR5
  simp only [Result.andThen_ok, kR5, gR5, Bool.false_eq_true, if_false]
  have hO6 : Boxed ((((((W.setCell ⟨w.heap.size + 1, 0, none⟩ (.string ⟨#[]⟩)).setCell ⟨w.heap.size + 1, 1, none⟩ (.string ⟨#[]⟩)).setCell ⟨w.heap.size + 1, 2, none⟩ (.string ⟨#[]⟩)).setCell ⟨w.heap.size + 1, 3, none⟩ (.int .i64 0)).setCell ⟨w.heap.size + 1, 4, none⟩ (.slice none 0 0)).setCell ⟨w.heap.size + 1, 5, none⟩ (.int .i64 0)) (w.heap.size + 1 + 1) 4 (.bool false) := Boxed.otherI (Boxed.otherI (Boxed.otherI (Boxed.otherI (Boxed.otherI (Boxed.otherI bO1 (by omega) _ _) (by omega) _ _) (by omega) _ _) (by omega) _ _) (by omega) _ _) (by omega) _ _
  have hK6 : KeepsOthers W ((((((W.setCell ⟨w.heap.size + 1, 0, none⟩ (.string ⟨#[]⟩)).setCell ⟨w.heap.size + 1, 1, none⟩ (.string ⟨#[]⟩)).setCell ⟨w.heap.size + 1, 2, none⟩ (.string ⟨#[]⟩)).setCell ⟨w.heap.size + 1, 3, none⟩ (.int .i64 0)).setCell ⟨w.heap.size + 1, 4, none⟩ (.slice none 0 0)).setCell ⟨w.heap.size + 1, 5, none⟩ (.int .i64 0)) := (((((KeepsOthers.setCell _ _ _).trans (KeepsOthers.setCell _ _ _)).trans (KeepsOthers.setCell _ _ _)).trans (KeepsOthers.setCell _ _ _)).trans (KeepsOthers.setCell _ _ _)).trans (KeepsOthers.setCell _ _ _)
  have hB6 : Below w.heap.size w ((((((W.setCell ⟨w.heap.size + 1, 0, none⟩ (.string ⟨#[]⟩)).setCell ⟨w.heap.size + 1, 1, none⟩ (.string ⟨#[]⟩)).setCell ⟨w.heap.size + 1, 2, none⟩ (.string ⟨#[]⟩)).setCell ⟨w.heap.size + 1, 3, none⟩ (.int .i64 0)).setCell ⟨w.heap.size + 1, 4, none⟩ (.slice none 0 0)).setCell ⟨w.heap.size + 1, 5, none⟩ (.int .i64 0)) := (((((hB1.setCell (p := ⟨w.heap.size + 1, 0, none⟩) (by simp) _).setCell (p := ⟨w.heap.size + 1, 1, none⟩) (by simp) _).setCell (p := ⟨w.heap.size + 1, 2, none⟩) (by simp) _).setCell (p := ⟨w.heap.size + 1, 3, none⟩) (by simp) _).setCell (p := ⟨w.heap.size + 1, 4, none⟩) (by simp) _).setCell (p := ⟨w.heap.size + 1, 5, none⟩) (by simp) _
  generalize hW6 : ((((((W.setCell ⟨w.heap.size + 1, 0, none⟩ (.string ⟨#[]⟩)).setCell ⟨w.heap.size + 1, 1, none⟩ (.string ⟨#[]⟩)).setCell ⟨w.heap.size + 1, 2, none⟩ (.string ⟨#[]⟩)).setCell ⟨w.heap.size + 1, 3, none⟩ (.int .i64 0)).setCell ⟨w.heap.size + 1, 4, none⟩ (.slice none 0 0)).setCell ⟨w.heap.size + 1, 5, none⟩ (.int .i64 0)) = W6 at hR6 hO6 hK6 hB6 ⊢
  have cO6 := hO6.cell
  have fO6 := hO6.frozen
  gi_wp2
  have hK7 := (hK6.trans (KeepsOthers.setCell W6 ⟨w.heap.size + 1 + 1, 0, none⟩ (.bool false))).same D _ hK rfl
  refine ⟨by simp, .inl ⟨_, _, rfl, run_takeDeferred hK7, ?_⟩⟩
  have bR7 := (hR6.otherI (B' := w.heap.size + 1 + 1) (by omega) 0 (.bool false)).kept (grownBy_putObj' _ D (.deferred none)) (fun e => by cases e; omega)
  have bO7 := (hO6.set (.bool false)).kept (grownBy_putObj' _ D (.deferred none)) (fun e => by cases e; omega)
  have c0 := bR7.cell 0
  have c1 := bR7.cell 1
  have c2 := bR7.cell 2
  have c3 := bR7.cell 3
  have c4 := bR7.cell 4
  have c5 := bR7.cell 5
  have cO := bO7.cell
  simp only [List.getElem?_toArray, List.getElem?_cons_succ, List.getElem?_cons_zero] at c0 c1 c2 c3 c4 c5
  refine ⟨.tuple #[.agg zeroVar, .bool false], ?_, .inr ⟨fun x hx k hk => hp x ?_ k hk, rfl⟩, (hB6.setCell (p := ⟨w.heap.size + 1 + 1, 0, none⟩) (by simp; omega) _).trans (belowK_b (w := w) (Nat.le_refl _) _ D _ _ (by omega) hK7 rfl rfl)⟩
  · simp [results, Tryz.f327, go_sem, c0, c1, c2, c3, c4, c5, cO, zeroVar]
  · simp only [upto, List.mem_map, List.mem_range]
    exact ⟨len - 1 - x, by omega, by omega⟩
 case stop =>
  rintro D c pre W hD ⟨k, hk, rfl⟩ ⟨⟨⟨rfl, ini, x, kk, e1, e2, e3, e4, e5, e6⟩, bO1⟩, hB1⟩ hK
  gi_wp2
  refine ⟨by simp, .inl ⟨_, _, rfl, run_takeDeferred hK, ?_⟩⟩
  obtain ⟨k', rfl⟩ : ∃ k', k = k' + 1 := by
   cases k with
   | zero => simp [upto] at e1
   | succ k' => exact ⟨k', rfl⟩
  rw [cw] at e1
  obtain ⟨rfl, e7⟩ := List.append_inj' e1 rfl
  obtain rfl : len - 1 - k' = x := by simpa using e7
  have bR7 := e6.kept (grownBy_putObj' _ D (.deferred none)) (fun e => by cases e; omega)
  have bO7 := bO1.kept (grownBy_putObj' _ D (.deferred none)) (fun e => by cases e; omega)
  have c0 := bR7.cell 0
  have c1 := bR7.cell 1
  have c2 := bR7.cell 2
  have c3 := bR7.cell 3
  have c4 := bR7.cell 4
  have c5 := bR7.cell 5
  have cO := bO7.cell
  simp only [VarV.cells, List.getElem?_toArray, List.getElem?_cons_succ, List.getElem?_cons_zero] at c0 c1 c2 c3 c4 c5
  refine ⟨.tuple #[.agg (vs (len - 1 - k') kk).cells, .bool true], ?_, .inl ⟨len - 1 - k', kk, by omega, e3, e4, e5, fun x' h1 h2 k2 h3 => e2 x' ?_ k2 h3, rfl⟩, hB1.trans (belowK_b (w := w) (Nat.le_refl _) W D _ _ (by omega) hK rfl rfl)⟩
  · simp [results, Tryz.f327, go_sem, c0, c1, c2, c3, c4, c5, cO, VarV.cells]
  · simp only [upto, List.mem_map, List.mem_range]
    exact ⟨len - 1 - x', by omega, by omega⟩
end Go.Proofs.YtcolbcpeialmhaaGreatDoor
namespace Go.Proofs.YtcolbcpeialmhaaGreatDoor
open Go Go.Proofs Go.RowKit Go.Shelf
open Go.Ab (VarV VarV.cells VRows)
attribute [local go_sem] Oper.semAt_some
set_option maxRecDepth 100000 in
set_option maxHeartbeats 2000000 in
theorem HK (F : Fence) (n : Nat) (h7 : F.fn 455) (hro : F.round = none) (hn : 1 ≤ n) (l Bs n₀ b off len cap : Nat) (ad : Nat → Option Addr) (ln cp : Nat → Nat) (hreach : len ≤ 1000000) (hb : b < n₀) (J Jx : List Nat → World → Prop)
 (hY : ∀ (pre : List Nat) (x : Nat) (W : World), J pre W → pre.length < len → YieldAt F (n - 1) Tryz.prog l #[.int .i64 (x : Int), .slice (ad x) (ln x) (cp x)] W fun e W' =>
  (e = .returned (.bool true) ∧ J (pre ++ [x]) W' ∧ Below n₀ W W') ∨ (e = .returned (.bool false) ∧ Jx (pre ++ [x]) W'))
 (W : World) (hBs : W.cell? ⟨Bs, 0, none⟩ = some (.slice (some ⟨b, off, none⟩) len cap)) (hlo : Bs < n₀) (hc : ∀ j, j < len → W.cell? ⟨b, off + j, none⟩ = some (.slice (ad j) (ln j) (cp j))) (h0 : J [] W) :
 CallsIn F n Tryz.prog 455 #[.func (.yield l) #[] #[], .pointer (some ⟨Bs, 0, none⟩)] W fun e W' => (∃ v, e = .returned v) ∧
  ((∃ ys, ys = upto (fun j => len - 1 - j) len ∧ J ys W') ∨ (∃ pre, (∃ k, k ≤ len ∧ pre = upto (fun j => len - 1 - j) k) ∧ Jx pre W')) := by
 refine callsIn_of_wp Tryz.func455 rfl h7 ?_ hro
 simp only [Tryz.ntmps455, List.size_toArray, List.length_cons, List.length_nil, Nat.reduceAdd, Nat.reduceSub, Array.replicate_succ, Array.replicate_zero, List.push_toArray, List.append_toArray, List.nil_append, List.cons_append]
 gi_wp2
 gi_loopw [3] (fun i wr => ∃ k : Nat, k ≤ len ∧ i = .int .i64 ((len : Int) - 1 - k) ∧ J (upto (fun j => len - 1 - j) k) wr ∧ Below n₀ W wr)
  (fun i _ => (intOf i + 1).toNat)
 case atStart => exact ⟨0, Nat.zero_le _, by simp, h0, Below.refl _ _⟩
 case round =>
  obtain ⟨k, hk, rfl, hJs, hnx⟩ := hrel
  by_cases hlt : k < len
  · obtain ⟨q, hq⟩ : ∃ q, q + 1 + k = len := ⟨len - 1 - k, by omega⟩
    have e1 : ((len : Int) - 1 - k) = (q : Int) := by omega
    rw [e1]
    have hql : q < len := by omega
    have hcx : wr.cell? ⟨b, off + q, none⟩ = some (.slice (ad q) (ln q) (cp q)) := (hnx.cell (p := ⟨b, off + q, none⟩) hb).trans (hc q hql)
    have hBx : wr.cell? ⟨Bs, 0, none⟩ = some (.slice (some ⟨b, off, none⟩) len cap) := (hnx.cell (p := ⟨Bs, 0, none⟩) hlo).trans hBs
    obtain ⟨fn, tmps, assign, body, hy, hR⟩ := hY _ q wr hJs (by rw [gD]; exact hlt)
    gi_wp2
    refine hR.mono ?_
    rintro e W3 (⟨rfl, hJ3, hk3⟩ | ⟨rfl, hJx3⟩)
    · gi_wp2
      go_roundw
      case rel => exact ⟨k + 1, by omega, by simp; omega, by rw [cw, show len - 1 - k = q by omega]; exact hJ3, hnx.trans hk3⟩
      case measure => simp [intOf]
    · gi_wp2
      refine bodyPost_ret (results_none rfl _ _ _) rfl ?_
      exact ⟨⟨_, rfl⟩, .inr ⟨_, ⟨k + 1, by omega, by rw [cw, show len - 1 - k = q by omega]⟩, hJx3⟩⟩
  · obtain rfl : k = len := by omega
    have e1 : ((k : Int) - 1 - k) = -1 := by omega
    rw [e1]
    gi_wp2
    go_end0
    exact ⟨⟨_, rfl⟩, .inl ⟨_, rfl, hJs⟩⟩
set_option maxRecDepth 100000 in
set_option maxHeartbeats 1000000 in
theorem Fx (F : Fence) (n : Nat) (h7 : F.fn 455) (hro : F.round = none) (l Bs : Nat) (J : List Nat → World → Prop) (W : World) (hBs : W.cell? ⟨Bs, 0, none⟩ = some (.slice none 0 0)) (h0 : J [] W) :
 CallsIn F n Tryz.prog 455 #[.func (.yield l) #[] #[], .pointer (some ⟨Bs, 0, none⟩)] W fun e W' => (∃ v, e = .returned v) ∧ J [] W' := by
 refine callsIn_of_wp Tryz.func455 rfl h7 ?_ hro
 simp only [Tryz.ntmps455, List.size_toArray, List.length_cons, List.length_nil, Nat.reduceAdd, Nat.reduceSub, Array.replicate_succ, Array.replicate_zero, List.push_toArray, List.append_toArray, List.nil_append, List.cons_append]
 gi_wp2
 gi_loopw [3] (fun i wr => i = .int .i64 (-1) ∧ J [] wr) (fun _ _ => 0)
 case atStart => exact ⟨by simp, h0⟩
 case round =>
  obtain ⟨rfl, hJs⟩ := hrel
  gi_wp2
  go_end0
  exact ⟨⟨_, rfl⟩, hJs⟩
set_option maxHeartbeats 1000000 in
theorem HO (F : Fence) (n : Nat) (h5 : F.fn 421) (hro : F.round = none) (a : Option Addr) (len cap : Nat) (w : World) :
 CallsIn F n Tryz.prog 421 #[.slice a len cap] w fun e w' => e = .returned (.func (.func 455) #[] #[.pointer (some ⟨w.heap.size, 0, none⟩)]) ∧ w' = w.alloc (.cells #[.slice a len cap] 154) := by
 refine callsIn_of_wp Tryz.func421 rfl h5 ?_ hro
 simp only [Tryz.ntmps421, List.size_toArray, List.length_cons, List.length_nil, Nat.reduceAdd, Nat.reduceSub, Array.replicate_succ, Array.replicate_zero, List.push_toArray, List.append_toArray, List.nil_append, List.cons_append]
 gi_wp2
 go_ret
 exact ⟨rfl, rfl⟩
theorem vV (F : Fence) (n : Nat) (h7 : F.fn 455) (hro : F.round = none) (hn : 1 ≤ n) (Bs n₀ : Nat) (sv : Value) (len : Nat) (ad : Nat → Option Addr) (ln cp : Nat → Nat) (hreach : len ≤ 1000000) (w : World) (hBs : Bs < n₀) (hn₀ : n₀ ≤ w.heap.size)
 (hc : w.cell? ⟨Bs, 0, none⟩ = some sv) (hI : Rows n₀ w sv len ad ln cp) :
 SeqStopsK F n Tryz.prog 455 #[.pointer (some ⟨Bs, 0, none⟩)] (fun x : Nat => #[Value.int .i64 (x : Int), .slice (ad x) (ln x) (cp x)]) (Below n₀) (fun ys => ys = upto (fun j => len - 1 - j) len)
  (fun pre => ∃ k, k ≤ len ∧ pre = upto (fun j => len - 1 - j) k) len w := fun l J Jx W hW _ _ hY h0 => by
 have hc' := (hW.cell (p := ⟨Bs, 0, none⟩) (by show Bs < _; omega)).trans hc
 rcases hI.below (hW.mono hn₀) with ⟨rfl, rfl⟩ | ⟨b, off, cap, rfl, hb, hcs⟩
 · exact (Fx F n h7 hro l Bs J W hc' h0).mono fun e W' ⟨he, hj⟩ => ⟨he, .inl ⟨_, rfl, hj⟩⟩
 · exact HK F n h7 hro hn l Bs n₀ b off len cap ad ln cp hreach hb J Jx hY W hc' hBs hcs h0
set_option maxRecDepth 100000 in
set_option maxHeartbeats 2000000 in
theorem HJ (F : Fence) (n : Nat) (h7 : F.fn 456) (hro : F.round = none) (hn : 1 ≤ n) (l Bs n₀ b off len cap : Nat) (vs : Nat → VarV) (hreach : len ≤ 1000000) (hb : b < n₀) (J Jx : List Nat → World → Prop)
 (hY : ∀ (pre : List Nat) (x : Nat) (W : World), J pre W → pre.length < len → YieldAt F (n - 1) Tryz.prog l #[.int .i64 (x : Int), .agg (vs x).cells] W fun e W' =>
  (e = .returned (.bool true) ∧ J (pre ++ [x]) W' ∧ Below n₀ W W') ∨ (e = .returned (.bool false) ∧ Jx (pre ++ [x]) W'))
 (W : World) (hBs : W.cell? ⟨Bs, 0, none⟩ = some (.slice (some ⟨b, off, none⟩) len cap)) (hlo : Bs < n₀) (hc : ∀ j, j < len → ∀ c, c < 6 → W.cell? ⟨b, off + j * 6 + c, none⟩ = (vs j).cells[c]?) (h0 : J [] W) :
 CallsIn F n Tryz.prog 456 #[.func (.yield l) #[] #[], .pointer (some ⟨Bs, 0, none⟩)] W fun e W' => (∃ v, e = .returned v) ∧
  ((∃ ys, ys = upto (fun j => len - 1 - j) len ∧ J ys W') ∨ (∃ pre, (∃ k, k ≤ len ∧ pre = upto (fun j => len - 1 - j) k) ∧ Jx pre W')) := by
 refine callsIn_of_wp Tryz.func456 rfl h7 ?_ hro
 simp only [Tryz.ntmps456, List.size_toArray, List.length_cons, List.length_nil, Nat.reduceAdd, Nat.reduceSub, Array.replicate_succ, Array.replicate_zero, List.push_toArray, List.append_toArray, List.nil_append, List.cons_append]
 gi_wp2
 gi_loopw [3] (fun i wr => ∃ k : Nat, k ≤ len ∧ i = .int .i64 ((len : Int) - 1 - k) ∧ J (upto (fun j => len - 1 - j) k) wr ∧ Below n₀ W wr)
  (fun i _ => (intOf i + 1).toNat)
 case atStart => exact ⟨0, Nat.zero_le _, by simp, h0, Below.refl _ _⟩
 case round =>
  obtain ⟨k, hk, rfl, hJs, hnx⟩ := hrel
  by_cases hlt : k < len
  · obtain ⟨q, hq⟩ : ∃ q, q + 1 + k = len := ⟨len - 1 - k, by omega⟩
    have e1 : ((len : Int) - 1 - k) = (q : Int) := by omega
    rw [e1]
    have hql : q < len := by omega
    have cc : ∀ c, c < 6 → wr.cell? ⟨b, off + q * 6 + c, none⟩ = (vs q).cells[c]? := fun c h6 => (hnx.cell (p := ⟨b, off + q * 6 + c, none⟩) hb).trans (hc q hql c h6)
    have hBx : wr.cell? ⟨Bs, 0, none⟩ = some (.slice (some ⟨b, off, none⟩) len cap) := (hnx.cell (p := ⟨Bs, 0, none⟩) hlo).trans hBs
    obtain ⟨fn, tmps, assign, body, hy, hR⟩ := hY _ q wr hJs (by rw [gD]; exact hlt)
    generalize hv : vs q = vv at cc hy
    obtain ⟨nm, kd, tx, at', ka, kl, kc, lv⟩ := vv
    have c0 : wr.cell? ⟨b, off + q * 6, none⟩ = some (.string nm) := cc 0 (by omega)
    have c1 : wr.cell? ⟨b, off + q * 6 + 1, none⟩ = some (.string kd) := cc 1 (by omega)
    have c2 : wr.cell? ⟨b, off + q * 6 + 2, none⟩ = some (.string tx) := cc 2 (by omega)
    have c3 : wr.cell? ⟨b, off + q * 6 + 3, none⟩ = some (.int .i64 at') := cc 3 (by omega)
    have c4 : wr.cell? ⟨b, off + q * 6 + 4, none⟩ = some (.slice ka kl kc) := cc 4 (by omega)
    have c5 : wr.cell? ⟨b, off + q * 6 + 5, none⟩ = some (.int .i64 lv) := cc 5 (by omega)
    clear cc
    simp only [VarV.cells] at hy
    gi_wp2
    refine hR.mono ?_
    rintro e W3 (⟨rfl, hJ3, hk3⟩ | ⟨rfl, hJx3⟩)
    · gi_wp2
      go_roundw
      case rel => exact ⟨k + 1, by omega, by simp; omega, by rw [cw, show len - 1 - k = q by omega]; exact hJ3, hnx.trans hk3⟩
      case measure => simp [intOf]
    · gi_wp2
      refine bodyPost_ret (results_none rfl _ _ _) rfl ?_
      exact ⟨⟨_, rfl⟩, .inr ⟨_, ⟨k + 1, by omega, by rw [cw, show len - 1 - k = q by omega]⟩, hJx3⟩⟩
  · obtain rfl : k = len := by omega
    have e1 : ((k : Int) - 1 - k) = -1 := by omega
    rw [e1]
    gi_wp2
    go_end0
    exact ⟨⟨_, rfl⟩, .inl ⟨_, rfl, hJs⟩⟩
set_option maxRecDepth 100000 in
set_option maxHeartbeats 1000000 in
theorem Fw (F : Fence) (n : Nat) (h7 : F.fn 456) (hro : F.round = none) (l Bs : Nat) (J : List Nat → World → Prop) (W : World) (hBs : W.cell? ⟨Bs, 0, none⟩ = some (.slice none 0 0)) (h0 : J [] W) :
 CallsIn F n Tryz.prog 456 #[.func (.yield l) #[] #[], .pointer (some ⟨Bs, 0, none⟩)] W fun e W' => (∃ v, e = .returned v) ∧ J [] W' := by
 refine callsIn_of_wp Tryz.func456 rfl h7 ?_ hro
 simp only [Tryz.ntmps456, List.size_toArray, List.length_cons, List.length_nil, Nat.reduceAdd, Nat.reduceSub, Array.replicate_succ, Array.replicate_zero, List.push_toArray, List.append_toArray, List.nil_append, List.cons_append]
 gi_wp2
 gi_loopw [3] (fun i wr => i = .int .i64 (-1) ∧ J [] wr) (fun _ _ => 0)
 case atStart => exact ⟨by simp, h0⟩
 case round =>
  obtain ⟨rfl, hJs⟩ := hrel
  gi_wp2
  go_end0
  exact ⟨⟨_, rfl⟩, hJs⟩
set_option maxHeartbeats 1000000 in
theorem HM (F : Fence) (n : Nat) (h5 : F.fn 422) (hro : F.round = none) (a : Option Addr) (len cap : Nat) (w : World) :
 CallsIn F n Tryz.prog 422 #[.slice a len cap] w fun e w' => e = .returned (.func (.func 456) #[] #[.pointer (some ⟨w.heap.size, 0, none⟩)]) ∧ w' = w.alloc (.cells #[.slice a len cap] 152) := by
 refine callsIn_of_wp Tryz.func422 rfl h5 ?_ hro
 simp only [Tryz.ntmps422, List.size_toArray, List.length_cons, List.length_nil, Nat.reduceAdd, Nat.reduceSub, Array.replicate_succ, Array.replicate_zero, List.push_toArray, List.append_toArray, List.nil_append, List.cons_append]
 gi_wp2
 go_ret
 exact ⟨rfl, rfl⟩
end Go.Proofs.YtcolbcpeialmhaaGreatDoor
namespace Go.Ab
open Go Go.Proofs Go.RowKit
theorem VRows.below {n₀ : Nat} {A B : World} (h : Below n₀ A B) {sv : Value} {len : Nat} {vs : Nat → VarV} : VRows n₀ A sv len vs → VRows n₀ B sv len vs
 | .inl e => .inl e
 | .inr ⟨b, off, cap, e, hb, hc⟩ => .inr ⟨b, off, cap, e, hb, fun j hj c h6 => (h.cell (p := ⟨b, off + j * 6 + c, none⟩) hb).trans (hc j hj c h6)⟩
theorem VRows.mono {n₀ n₁ : Nat} (h : n₀ ≤ n₁) {W : World} {sv : Value} {len : Nat} {vs : Nat → VarV} : VRows n₀ W sv len vs → VRows n₁ W sv len vs
 | .inl e => .inl e
 | .inr ⟨b, off, cap, e, hb, hc⟩ => .inr ⟨b, off, cap, e, by omega, hc⟩
end Go.Ab
namespace Go.Proofs.YtcolbcpeialmhaaGreatDoor
open Go Go.Proofs Go.RowKit Go.Shelf
open Go.Ab (VarV VarV.cells VRows)
attribute [local go_sem] Oper.semAt_some
theorem vU (F : Fence) (n : Nat) (h7 : F.fn 456) (hro : F.round = none) (hn : 1 ≤ n) (Bs n₀ : Nat) (sv : Value) (len : Nat) (vs : Nat → VarV) (hreach : len ≤ 1000000) (w : World) (hBs : Bs < n₀) (hn₀ : n₀ ≤ w.heap.size)
 (hc : w.cell? ⟨Bs, 0, none⟩ = some sv) (hI : VRows n₀ w sv len vs) :
 SeqStopsK F n Tryz.prog 456 #[.pointer (some ⟨Bs, 0, none⟩)] (fun x : Nat => #[Value.int .i64 (x : Int), .agg (vs x).cells]) (Below n₀) (fun ys => ys = upto (fun j => len - 1 - j) len)
  (fun pre => ∃ k, k ≤ len ∧ pre = upto (fun j => len - 1 - j) k) len w := fun l J Jx W hW _ _ hY h0 => by
 have hc' := (hW.cell (p := ⟨Bs, 0, none⟩) (by show Bs < _; omega)).trans hc
 rcases hI.below (hW.mono hn₀) with ⟨rfl, rfl⟩ | ⟨b, off, cap, rfl, hb, hcs⟩
 · exact (Fw F n h7 hro l Bs J W hc' h0).mono fun e W' ⟨he, hj⟩ => ⟨he, .inl ⟨_, rfl, hj⟩⟩
 · exact HJ F n h7 hro hn l Bs n₀ b off len cap vs hreach hb J Jx hY W hc' hBs hcs h0
end Go.Proofs.YtcolbcpeialmhaaGreatDoor
namespace Go.Proofs.YtcolbcpeialmhaaGreatDoor
open Go Go.Proofs Go.RowKit Go.Shelf
open Go.Ab (VarV VarV.cells VRows)
attribute [local go_sem] Oper.semAt_some
set_option maxRecDepth 100000 in
set_option maxHeartbeats 1000000 in
theorem vd (F : Fence) (n : Nat) (h3 : F.fn 338) (h4 : F.fn 421) (h5 : F.fn 455) (h6 : F.fn 422) (h7 : F.fn 456) (hro : F.round = none) (hn : 6 ≤ n) (bc oc : Nat) (name : ByteArray) (sa : Option Addr) (len cap : Nat) (ad : Nat → Option Addr) (ln cp : Nat → Nat) (vs : Nat → Nat → VarV) (hreach : len ≤ 1000000) (hfew : ∀ x, ln x ≤ 1000000)
 (w : World) (hbc : bc < w.heap.size) (hsv : w.cell? ⟨bc, oc + 1, none⟩ = some (.slice sa len cap)) (hI : Rows w.heap.size w (.slice sa len cap) len ad ln cp) (hV : ∀ x, VRows w.heap.size w (.slice (ad x) (ln x) (cp x)) (ln x) (vs x)) :
 CallsIn F n Tryz.prog 338 #[.pointer (some ⟨bc, oc, none⟩), .string name] w fun e W' =>
  ((∃ x k, x < len ∧ k < ln x ∧ (vs x k).nm.toList = name.toList ∧ (∀ k', k < k' → k' < ln x → (vs x k').nm.toList ≠ name.toList) ∧ (∀ x', x < x' → x' < len → ∀ k', k' < ln x' → (vs x' k').nm.toList ≠ name.toList) ∧ e = .returned (.tuple #[.agg (vs x k).cells, .bool true]))
   ∨ ((∀ x, x < len → ∀ k, k < ln x → (vs x k).nm.toList ≠ name.toList) ∧ e = .returned (.tuple #[.agg zeroVar, .bool false])))
  ∧ Below w.heap.size w W' := by
 have h1 : 1 ≤ n := by omega
 refine callsIn_of_wp_marks Tryz.func338 rfl h3 ?_ hro
 simp only [Tryz.ntmps338, List.size_toArray, List.length_cons, List.length_nil, Nat.reduceAdd, Nat.reduceSub, Array.replicate_succ, Array.replicate_zero, List.push_toArray, List.append_toArray, List.nil_append, List.cons_append]
 have hB3 : Below w.heap.size w (((w.alloc (Obj.cells #[Value.string name] 9)).alloc (Obj.cells zeroVar 160)).alloc (Obj.cells #[Value.bool false] 4)) := (((Below.refl _ w).alloc (Nat.le_refl _) _).alloc (by simp) _).alloc (by simp; omega) _
 have hA := (hB3.cell (p := ⟨bc, oc + 1, none⟩) hbc).trans hsv
 unfold zeroVar at hA
 gi_wp2_with (gi_at_call 421; refine (HO F (n - 1) h4 hro _ _ _ _).mono ?_; rintro e w' ⟨rfl, rfl⟩)
 have bN := ((Boxed.new w 9 (.string name)).alloc (Obj.cells zeroVar 160)).alloc (Obj.cells #[Value.bool false] 4) |>.alloc (Obj.cells #[.slice sa len cap] 154)
 have bR := ((Blk.new (w.alloc (Obj.cells #[Value.string name] 9)) 160 zeroVar).alloc (Obj.cells #[Value.bool false] 4)).alloc (Obj.cells #[.slice sa len cap] 154)
 have bO := (Boxed.new ((w.alloc (Obj.cells #[Value.string name] 9)).alloc (Obj.cells zeroVar 160)) 4 (.bool false)).alloc (Obj.cells #[.slice sa len cap] 154)
 have bS := Boxed.new (((w.alloc (Obj.cells #[Value.string name] 9)).alloc (Obj.cells zeroVar 160)).alloc (Obj.cells #[Value.bool false] 4)) 154 (.slice sa len cap)
 have hB4 := hB3.alloc (by simp; omega) (Obj.cells #[.slice sa len cap] 154)
 simp only [World.size_alloc] at bR bO bS
 have hsz : ((((w.alloc (Obj.cells #[Value.string name] 9)).alloc (Obj.cells zeroVar 160)).alloc (Obj.cells #[Value.bool false] 4)).alloc (Obj.cells #[.slice sa len cap] 154)).heap.size = w.heap.size + 4 := by simp
 unfold zeroVar at bN bR bO bS hB4 hsz
 obtain ⟨W0, hW0⟩ : ∃ W0, ((((w.alloc (Obj.cells #[Value.string name] 9)).alloc (Obj.cells #[Value.string { data := #[] }, Value.string { data := #[] }, Value.string { data := #[] }, Value.int IntKind.i64 0, Value.slice none 0 0, Value.int IntKind.i64 0] 160)).alloc (Obj.cells #[Value.bool false] 4)).alloc (Obj.cells #[.slice sa len cap] 154)) = W0 := ⟨_, rfl⟩
 rw [hW0] at bN bR bO bS hB4 hsz ⊢
 clear hW0 hA hB3
 refine wpIn_rangeFunc_ownH hro h1 (gf := 455) (lb := #[.pointer (some ⟨w.heap.size + 1 + 1 + 1, 0, none⟩)]) rfl h5 (enters_of Tryz.func455 (by kernel_rfl) rfl)
  (vV F (n - 1) h5 hro (by omega) (w.heap.size + 1 + 1 + 1) (w.heap.size + 4) _ len ad ln cp hreach _ (by omega) (by omega) bS.cell ((hI.below hB4).mono (by omega))) belowK_t (belowK_b (by omega)) (Below.refl _ _) (fun _ => rfl)
  (fun pre W => ((((∀ x ∈ pre, ∀ k, k < ln x → (vs x k).nm.toList ≠ name.toList) ∧ Boxed W w.heap.size 9 (.string name)) ∧ Blk W (w.heap.size + 1) 160 zeroVar) ∧ Boxed W (w.heap.size + 1 + 1) 4 (.bool false)) ∧ (Below w.heap.size w W ∧ Below (w.heap.size + 4) W0 W))
  (fun c pre W => (((c = .ret ∧ ∃ ini x k, pre = ini ++ [x] ∧ (∀ y ∈ ini, ∀ k, k < ln y → (vs y k).nm.toList ≠ name.toList) ∧ k < ln x ∧ (vs x k).nm.toList = name.toList ∧ (∀ k', k < k' → k' < ln x → (vs x k').nm.toList ≠ name.toList) ∧ Blk W (w.heap.size + 1) 160 (vs x k).cells) ∧ Boxed W (w.heap.size + 1 + 1) 4 (.bool true))) ∧ Below w.heap.size w W)
  (OwnFrom.and (OwnFrom.and (OwnFrom.and (OwnFrom.and (ownFrom_pure _ _) (Own.from (boxed_own _ _ _) _)) (Own.from (fS _ _ _) _)) (Own.from (boxed_own _ _ _) _)) (OwnFrom.and (ownFrom_below (Nat.le_refl _) (by omega)) (ownFrom_below (by omega) (by omega))))
  (fun c => OwnFrom.and (OwnFrom.and (Own.from (fun s A B row hs hg hr => by
   obtain ⟨hc, ini, x, k, e1, e2, e3, e4, e5, e6⟩ := hs
   exact ⟨hc, ini, x, k, e1, e2, e3, e4, e5, fS _ _ (fun (_ : Unit) => _) () A B row e6 hg hr⟩) _) (Own.from (boxed_own _ _ _) _)) (ownFrom_below (Nat.le_refl _) (by omega)))
  ⟨⟨⟨⟨by simp, bN⟩, bR⟩, bO⟩, hB4, Below.refl _ _⟩
  (fun x a' _ => a' = { tmps := #[.pointer (some ⟨bc, oc, none⟩), .string name, undef, .pointer (some ⟨w.heap.size, 0, none⟩), .pointer (some ⟨w.heap.size + 1, 0, none⟩), .pointer (some ⟨w.heap.size + 1 + 1, 0, none⟩), undef, .slice (ad x) (ln x) (cp x), undef, undef, .pointer (some ⟨bc, oc, none⟩), .pointer (some ⟨bc, oc, none⟩), .pointer (some ⟨bc, oc + 1, none⟩), .slice sa len cap, .func (.func 455) #[] #[.pointer (some ⟨w.heap.size + 1 + 1 + 1, 0, none⟩)], .int .i64 (x : Int), .slice (ad x) (ln x) (cp x), undef, undef, undef, undef, undef, undef, undef, undef, undef, undef], defers := [] })
  (fun _ _ _ _ _ _ hs _ _ => hs)
  ?assign ?body ?done ?stop
 case assign =>
  rintro l pre x W K hi hK
  gi_wp2
  exact hK _ _ (KeepsFrom.refl _ _) (Below.refl _ _) hi rfl
 case body =>
  rintro l pre x a' W hl ⟨r, hr⟩ ⟨⟨⟨⟨hp, bN1⟩, bR1⟩, bO1⟩, hB1, hB2⟩ rfl hlt
  have h1' : 1 ≤ n - 1 - 1 := by omega
  gi_wp2_with (gi_at_call 422; refine (CallsIn.inRound l (HM F (n - 1 - 1 - 1) h6 hro _ _ _ _)).mono ?_; rintro e w' ⟨rfl, rfl⟩)
  have hsW := hB1.size
  have hsW2 := hB2.size
  have bX := Boxed.new W 152 (.slice (ad x) (ln x) (cp x))
  have hr' : (W.alloc (.cells #[.slice (ad x) (ln x) (cp x)] 152)).heap[l]? = some (.loop r) := (Below.heap_alloc W _ l (Array.getElem?_eq_some_iff.1 hr).1).trans hr
  refine wpIn_rangeFunc_ownN (l₀ := l) (r₀ := r) rfl hr' h1' (gf := 456) (lb := #[.pointer (some ⟨W.heap.size, 0, none⟩)]) rfl h7 (enters_of Tryz.func456 (by kernel_rfl) rfl)
   ((vU F (n - 1 - 1 - 1) h7 hro (by omega) W.heap.size (W.heap.size + 1) _ (ln x) (vs x) (hfew x) _ (by omega) (by simp) bX.cell (((hV x).below (hB1.alloc hsW _)).mono (by omega))).inRound l) belowK_t (belowK_b (by simp)) (Below.refl _ _) (fun _ => rfl)
   (fun pre' W' => ((((∀ k ∈ pre', (vs x k).nm.toList ≠ name.toList) ∧ Boxed W' w.heap.size 9 (.string name)) ∧ Blk W' (w.heap.size + 1) 160 zeroVar) ∧ Boxed W' (w.heap.size + 1 + 1) 4 (.bool false)) ∧ (((Below w.heap.size W W' ∧ Below (w.heap.size + 4) W W') ∧ Below (W.heap.size + 1) (W.alloc (.cells #[.slice (ad x) (ln x) (cp x)] 152)) W') ∧ KeepsFrom W0.heap.size W W'))
   (fun c pre' W' => (((c = .ret ∧ ∃ ini k, pre' = ini ++ [k] ∧ (∀ y ∈ ini, (vs x y).nm.toList ≠ name.toList) ∧ (vs x k).nm.toList = name.toList ∧ Blk W' (w.heap.size + 1) 160 (vs x k).cells) ∧ Boxed W' (w.heap.size + 1 + 1) 4 (.bool true))) ∧ (Below w.heap.size W W' ∧ KeepsFrom W0.heap.size W W'))
   (OwnFrom.and (OwnFrom.and (OwnFrom.and (OwnFrom.and (ownFrom_pure _ _) (Own.from (boxed_own _ _ _) _)) (Own.from (fS _ _ _) _)) (Own.from (boxed_own _ _ _) _)) (OwnFrom.and (OwnFrom.and (OwnFrom.and (ownFrom_below hsW (by simp; omega)) (ownFrom_below (by omega) (by simp; omega))) (ownFrom_below (by simp) (by simp))) (ownFrom_keepsFrom (by simp))))
   (fun c => OwnFrom.and (OwnFrom.and (Own.from (fun s A B row hs hg hr => by
    obtain ⟨hc, ini, k, e1, e2, e4, e6⟩ := hs
    exact ⟨hc, ini, k, e1, e2, e4, fS _ _ (fun (_ : Unit) => _) () A B row e6 hg hr⟩) _) (Own.from (boxed_own _ _ _) _)) (OwnFrom.and (ownFrom_below hsW (by simp; omega)) (ownFrom_keepsFrom (by simp))))
   ⟨⟨⟨⟨by simp, bN1.alloc _⟩, bR1.alloc _⟩, bO1.alloc _⟩, ⟨⟨(Below.refl _ W).alloc hsW _, (Below.refl _ W).alloc (by omega) _⟩, Below.refl _ _⟩, (KeepsOthers.alloc _ _).from _⟩
   (fun k a'' W' => ∃ Bv, w.heap.size + 4 ≤ Bv ∧ Blk W' Bv 160 (vs x k).cells ∧ a'' = { tmps := #[.pointer (some ⟨bc, oc, none⟩), .string name, undef, .pointer (some ⟨w.heap.size, 0, none⟩), .pointer (some ⟨w.heap.size + 1, 0, none⟩), .pointer (some ⟨w.heap.size + 1 + 1, 0, none⟩), undef, .slice (ad x) (ln x) (cp x), undef, .pointer (some ⟨Bv, 0, none⟩), .pointer (some ⟨bc, oc, none⟩), .pointer (some ⟨bc, oc, none⟩), .pointer (some ⟨bc, oc + 1, none⟩), .slice sa len cap, .func (.func 455) #[] #[.pointer (some ⟨w.heap.size + 1 + 1 + 1, 0, none⟩)], .int .i64 (x : Int), .slice (ad x) (ln x) (cp x), .slice (ad x) (ln x) (cp x), .func (.func 456) #[] #[.pointer (some ⟨W.heap.size, 0, none⟩)], .int .i64 (k : Int), .agg (vs x k).cells, undef, undef, undef, undef, undef, undef], defers := [] })
   (fun k a'' _ X Y row hs hg hr => by
    obtain ⟨Bv, e1, e2, e3⟩ := hs
    exact ⟨Bv, e1, fS Bv 160 (fun (_ : Unit) => _) () X Y row e2 hg (fun r e => (hr r e).2), e3⟩)
   ?assign2 ?body2 ?done2 ?stop2
  case assign2 =>
   rintro l2 pre' k W' K ⟨⟨⟨⟨hq, bN2⟩, bR2⟩, bO2⟩, ⟨⟨hBW, hBW2⟩, hBW3⟩, hKF⟩ hK
   have hs1 : w.heap.size ≤ W'.heap.size := Nat.le_trans hsW hBW.size
   have hs2 : w.heap.size + 4 ≤ W'.heap.size := by have := hBW2.size; omega
   have hs3 : W.heap.size + 1 ≤ W'.heap.size := by have := hBW3.size; simpa using this
   generalize hv : vs x k = vv at hK ⊢
   obtain ⟨nm, kd, tx, at', ka, kl, kc, lv⟩ := vv
   simp only [VarV.cells] at hK ⊢
   gi_wp2
   exact hK _ _ ((KeepsOthers.alloc _ _).from _) ((Below.refl _ W').alloc hs3 _) ⟨⟨⟨⟨hq, bN2.alloc _⟩, bR2.alloc _⟩, bO2.alloc _⟩, ⟨⟨hBW.alloc hs1 _, hBW2.alloc hs2 _⟩, hBW3.alloc hs3 _⟩, hKF.trans ((KeepsOthers.alloc _ _).from _)⟩ ⟨W'.heap.size, hs2, Blk.new W' 160 _, rfl⟩
  case body2 =>
   rintro l2 pre' k a'' W' _ _ ⟨⟨⟨⟨hq, bN2⟩, bR2⟩, bO2⟩, ⟨⟨hBW, hBW2⟩, hBW3⟩, hKF⟩ ⟨Bv, hBv, bV, rfl⟩ _
   generalize hv : vs x k = vv at bV ⊢
   obtain ⟨nm, kd, tx, at', ka, kl, kc, lv⟩ := vv
   simp only [VarV.cells] at bV ⊢
   have v0 := bV.cell 0
   have v1 := bV.cell 1
   have v2 := bV.cell 2
   have v3 := bV.cell 3
   have v4 := bV.cell 4
   have v5 := bV.cell 5
   simp only [List.getElem?_toArray, List.getElem?_cons_succ, List.getElem?_cons_zero] at v0 v1 v2 v3 v4 v5
   have cN := bN2.cell
   have cR := fun i => bR2.cell i
   have fR := fun i => bR2.frozen i
   gi_wp2
   · have hR1 : Blk (W'.setCell ⟨w.heap.size + 1, 0, none⟩ (.string nm)) (w.heap.size + 1) 160 #[.string nm, .string ⟨#[]⟩, .string ⟨#[]⟩, .int .i64 0, .slice none 0 0, .int .i64 0] := bR2.set 0 _
     have hR2 : Blk ((W'.setCell ⟨w.heap.size + 1, 0, none⟩ (.string nm)).setCell ⟨w.heap.size + 1, 1, none⟩ (.string kd)) (w.heap.size + 1) 160 #[.string nm, .string kd, .string ⟨#[]⟩, .int .i64 0, .slice none 0 0, .int .i64 0] := hR1.set 1 _
     have kR1 := hR1.cell 1
     have gR1 := hR1.frozen 1
     simp only [List.getElem?_toArray, List.getElem?_cons_succ, List.getElem?_cons_zero] at kR1
     simp only [Result.andThen_ok, kR1, gR1, Bool.false_eq_true, if_false]
     have hR3 : Blk (((W'.setCell ⟨w.heap.size + 1, 0, none⟩ (.string nm)).setCell ⟨w.heap.size + 1, 1, none⟩ (.string kd)).setCell ⟨w.heap.size + 1, 2, none⟩ (.string tx)) (w.heap.size + 1) 160 #[.string nm, .string kd, .string tx, .int .i64 0, .slice none 0 0, .int .i64 0] := hR2.set 2 _
     have kR2 := hR2.cell 2
     have gR2 := hR2.frozen 2
     simp only [List.getElem?_toArray, List.getElem?_cons_succ, List.getElem?_cons_zero] at kR2
     simp only [Result.andThen_ok, kR2, gR2, Bool.false_eq_true, if_false]
     have hR4 : Blk ((((W'.setCell ⟨w.heap.size + 1, 0, none⟩ (.string nm)).setCell ⟨w.heap.size + 1, 1, none⟩ (.string kd)).setCell ⟨w.heap.size + 1, 2, none⟩ (.string tx)).setCell ⟨w.heap.size + 1, 3, none⟩ (.int .i64 at')) (w.heap.size + 1) 160 #[.string nm, .string kd, .string tx, .int .i64 at', .slice none 0 0, .int .i64 0] := hR3.set 3 _
     have kR3 := hR3.cell 3
     have gR3 := hR3.frozen 3
     simp only [List.getElem?_toArray, List.getElem?_cons_succ, List.getElem?_cons_zero] at kR3
     simp only [Result.andThen_ok, kR3, gR3, Bool.false_eq_true, if_false]
     have hR5 : Blk (((((W'.setCell ⟨w.heap.size + 1, 0, none⟩ (.string nm)).setCell ⟨w.heap.size + 1, 1, none⟩ (.string kd)).setCell ⟨w.heap.size + 1, 2, none⟩ (.string tx)).setCell ⟨w.heap.size + 1, 3, none⟩ (.int .i64 at')).setCell ⟨w.heap.size + 1, 4, none⟩ (.slice ka kl kc)) (w.heap.size + 1) 160 #[.string nm, .string kd, .string tx, .int .i64 at', .slice ka kl kc, .int .i64 0] := hR4.set 4 _
     have kR4 := hR4.cell 4
     have gR4 := hR4.frozen 4
     simp only [List.getElem?_toArray, List.getElem?_cons_succ, List.getElem?_cons_zero] at kR4
     simp only [Result.andThen_ok, kR4, gR4, Bool.false_eq_true, if_false]
     have hR6 : Blk ((((((W'.setCell ⟨w.heap.size + 1, 0, none⟩ (.string nm)).setCell ⟨w.heap.size + 1, 1, none⟩ (.string kd)).setCell ⟨w.heap.size + 1, 2, none⟩ (.string tx)).setCell ⟨w.heap.size + 1, 3, none⟩ (.int .i64 at')).setCell ⟨w.heap.size + 1, 4, none⟩ (.slice ka kl kc)).setCell ⟨w.heap.size + 1, 5, none⟩ (.int .i64 lv)) (w.heap.size + 1) 160 #[.string nm, .string kd, .string tx, .int .i64 at', .slice ka kl kc, .int .i64 lv] := hR5.set 5 _
     have kR5 := hR5.cell 5
     have gR5 := hR5.frozen 5
     simp only [List.getElem?_toArray, List.getElem?_cons_succ, List.getElem?_cons_zero] at kR5
     simp only [Result.andThen_ok, kR5, gR5, Bool.false_eq_true, if_false]
     have hO6 : Boxed ((((((W'.setCell ⟨w.heap.size + 1, 0, none⟩ (.string nm)).setCell ⟨w.heap.size + 1, 1, none⟩ (.string kd)).setCell ⟨w.heap.size + 1, 2, none⟩ (.string tx)).setCell ⟨w.heap.size + 1, 3, none⟩ (.int .i64 at')).setCell ⟨w.heap.size + 1, 4, none⟩ (.slice ka kl kc)).setCell ⟨w.heap.size + 1, 5, none⟩ (.int .i64 lv)) (w.heap.size + 1 + 1) 4 (.bool false) := Boxed.otherI (Boxed.otherI (Boxed.otherI (Boxed.otherI (Boxed.otherI (Boxed.otherI bO2 (by omega) _ _) (by omega) _ _) (by omega) _ _) (by omega) _ _) (by omega) _ _) (by omega) _ _
     have hK6 : KeepsOthers W' ((((((W'.setCell ⟨w.heap.size + 1, 0, none⟩ (.string nm)).setCell ⟨w.heap.size + 1, 1, none⟩ (.string kd)).setCell ⟨w.heap.size + 1, 2, none⟩ (.string tx)).setCell ⟨w.heap.size + 1, 3, none⟩ (.int .i64 at')).setCell ⟨w.heap.size + 1, 4, none⟩ (.slice ka kl kc)).setCell ⟨w.heap.size + 1, 5, none⟩ (.int .i64 lv)) := (((((KeepsOthers.setCell _ _ _).trans (KeepsOthers.setCell _ _ _)).trans (KeepsOthers.setCell _ _ _)).trans (KeepsOthers.setCell _ _ _)).trans (KeepsOthers.setCell _ _ _)).trans (KeepsOthers.setCell _ _ _)
     have hB6 : Below w.heap.size W ((((((W'.setCell ⟨w.heap.size + 1, 0, none⟩ (.string nm)).setCell ⟨w.heap.size + 1, 1, none⟩ (.string kd)).setCell ⟨w.heap.size + 1, 2, none⟩ (.string tx)).setCell ⟨w.heap.size + 1, 3, none⟩ (.int .i64 at')).setCell ⟨w.heap.size + 1, 4, none⟩ (.slice ka kl kc)).setCell ⟨w.heap.size + 1, 5, none⟩ (.int .i64 lv)) := (((((hBW.setCell (p := ⟨w.heap.size + 1, 0, none⟩) (by simp) _).setCell (p := ⟨w.heap.size + 1, 1, none⟩) (by simp) _).setCell (p := ⟨w.heap.size + 1, 2, none⟩) (by simp) _).setCell (p := ⟨w.heap.size + 1, 3, none⟩) (by simp) _).setCell (p := ⟨w.heap.size + 1, 4, none⟩) (by simp) _).setCell (p := ⟨w.heap.size + 1, 5, none⟩) (by simp) _
     generalize hW6 : ((((((W'.setCell ⟨w.heap.size + 1, 0, none⟩ (.string nm)).setCell ⟨w.heap.size + 1, 1, none⟩ (.string kd)).setCell ⟨w.heap.size + 1, 2, none⟩ (.string tx)).setCell ⟨w.heap.size + 1, 3, none⟩ (.int .i64 at')).setCell ⟨w.heap.size + 1, 4, none⟩ (.slice ka kl kc)).setCell ⟨w.heap.size + 1, 5, none⟩ (.int .i64 lv)) = W6 at hR6 hO6 hK6 hB6 ⊢
     have cO6 := hO6.cell
     have fO6 := hO6.frozen
     gi_wp2
     rename_i hxy _ _ _
     exact ⟨(hK6.trans (KeepsOthers.setCell _ _ _)).from _, ⟨⟨rfl, pre', k, rfl, hq, by rw [hv]; exact eq_of_beq hxy, by rw [hv]; exact hR6.otherI (by omega) _ _⟩, hO6.set _⟩, hB6.setCell (p := ⟨w.heap.size + 1 + 1, 0, none⟩) (by simp; omega) _, hKF.trans ((hK6.trans (KeepsOthers.setCell _ _ _)).from _)⟩
   · rename_i hxy
     exact ⟨KeepsFrom.refl _ _, Below.refl _ _, ⟨⟨⟨fun y hy => (List.mem_append.1 hy).elim (hq y) (fun h => by simp at h; subst h; rw [hv]; intro e; rw [e] at hxy; simp at hxy), bN2⟩, bR2⟩, bO2⟩, ⟨⟨hBW, hBW2⟩, hBW3⟩, hKF⟩
  case done2 =>
   rintro ys' W' rfl ⟨⟨⟨⟨hq, bN2⟩, bR2⟩, bO2⟩, ⟨⟨hBW, hBW2⟩, hBW3⟩, hKF⟩
   gi_wp2
   exact ⟨hKF, hBW2, ⟨⟨⟨fun y hy k hk => (List.mem_append.1 hy).elim (fun h => hp y h k hk) (fun h => by simp at h; subst h; exact hq k (by simp only [upto, List.mem_map, List.mem_range]; exact ⟨ln y - 1 - k, by omega, by omega⟩)), bN2⟩, bR2⟩, bO2⟩, hB1.trans hBW, hB2.trans hBW2⟩
  case stop2 =>
   rintro c pre' W' ⟨k2, hk2, rfl⟩ ⟨⟨⟨rfl, ini, k, e1, e2, e4, e6⟩, bO2⟩, hBW, hKF⟩
   gi_wp2
   obtain ⟨k', rfl⟩ : ∃ k', k2 = k' + 1 := by
    cases k2 with
    | zero => simp [upto] at e1
    | succ k' => exact ⟨k', rfl⟩
   rw [cw] at e1
   obtain ⟨rfl, e7⟩ := List.append_inj' e1 rfl
   obtain rfl : ln x - 1 - k' = k := by simpa using e7
   exact ⟨hKF, ⟨⟨rfl, pre, x, ln x - 1 - k', rfl, hp, by omega, e4, fun k' h1 h2 => e2 k' (by simp only [upto, List.mem_map, List.mem_range]; exact ⟨ln x - 1 - k', by omega, by omega⟩), e6⟩, bO2⟩, hB1.trans hBW⟩
 case done =>
  rintro D ys W hD rfl ⟨⟨⟨⟨hp, bN1⟩, bR1⟩, bO1⟩, hB1, hB2⟩ hK
  have cR := fun i => bR1.cell i
  have fR := fun i => bR1.frozen i
  gi_wp2
  have hR1 : Blk (W.setCell ⟨w.heap.size + 1, 0, none⟩ (.string ⟨#[]⟩)) (w.heap.size + 1) 160 #[.string ⟨#[]⟩, .string ⟨#[]⟩, .string ⟨#[]⟩, .int .i64 0, .slice none 0 0, .int .i64 0] := bR1.set 0 _
  have hR2 : Blk ((W.setCell ⟨w.heap.size + 1, 0, none⟩ (.string ⟨#[]⟩)).setCell ⟨w.heap.size + 1, 1, none⟩ (.string ⟨#[]⟩)) (w.heap.size + 1) 160 #[.string ⟨#[]⟩, .string ⟨#[]⟩, .string ⟨#[]⟩, .int .i64 0, .slice none 0 0, .int .i64 0] := hR1.set 1 _
  have kR1 := hR1.cell 1
  have gR1 := hR1.frozen 1
  simp only [List.getElem?_toArray, List.getElem?_cons_succ, List.getElem?_cons_zero] at kR1
  simp only [Result.andThen_ok, kR1, gR1, Bool.false_eq_true, if_false]
  have hR3 : Blk (((W.setCell ⟨w.heap.size + 1, 0, none⟩ (.string ⟨#[]⟩)).setCell ⟨w.heap.size + 1, 1, none⟩ (.string ⟨#[]⟩)).setCell ⟨w.heap.size + 1, 2, none⟩ (.string ⟨#[]⟩)) (w.heap.size + 1) 160 #[.string ⟨#[]⟩, .string ⟨#[]⟩, .string ⟨#[]⟩, .int .i64 0, .slice none 0 0, .int .i64 0] := hR2.set 2 _
  have kR2 := hR2.cell 2
  have gR2 := hR2.frozen 2
  simp only [List.getElem?_toArray, List.getElem?_cons_succ, List.getElem?_cons_zero] at kR2
  simp only [Result.andThen_ok, kR2, gR2, Bool.false_eq_true, if_false]
  have hR4 : Blk ((((W.setCell ⟨w.heap.size + 1, 0, none⟩ (.string ⟨#[]⟩)).setCell ⟨w.heap.size + 1, 1, none⟩ (.string ⟨#[]⟩)).setCell ⟨w.heap.size + 1, 2, none⟩ (.string ⟨#[]⟩)).setCell ⟨w.heap.size + 1, 3, none⟩ (.int .i64 0)) (w.heap.size + 1) 160 #[.string ⟨#[]⟩, .string ⟨#[]⟩, .string ⟨#[]⟩, .int .i64 0, .slice none 0 0, .int .i64 0] := hR3.set 3 _
  have kR3 := hR3.cell 3
  have gR3 := hR3.frozen 3
  simp only [List.getElem?_toArray, List.getElem?_cons_succ, List.getElem?_cons_zero] at kR3
  simp only [Result.andThen_ok, kR3, gR3, Bool.false_eq_true, if_false]
  have hR5 : Blk (((((W.setCell ⟨w.heap.size + 1, 0, none⟩ (.string ⟨#[]⟩)).setCell ⟨w.heap.size + 1, 1, none⟩ (.string ⟨#[]⟩)).setCell ⟨w.heap.size + 1, 2, none⟩ (.string ⟨#[]⟩)).setCell ⟨w.heap.size + 1, 3, none⟩ (.int .i64 0)).setCell ⟨w.heap.size + 1, 4, none⟩ (.slice none 0 0)) (w.heap.size + 1) 160 #[.string ⟨#[]⟩, .string ⟨#[]⟩, .string ⟨#[]⟩, .int .i64 0, .slice none 0 0, .int .i64 0] := hR4.set 4 _
  have kR4 := hR4.cell 4
  have gR4 := hR4.frozen 4
  simp only [List.getElem?_toArray, List.getElem?_cons_succ, List.getElem?_cons_zero] at kR4
  simp only [Result.andThen_ok, kR4, gR4, Bool.false_eq_true, if_false]
  have hR6 : Blk ((((((W.setCell ⟨w.heap.size + 1, 0, none⟩ (.string ⟨#[]⟩)).setCell ⟨w.heap.size + 1, 1, none⟩ (.string ⟨#[]⟩)).setCell ⟨w.heap.size + 1, 2, none⟩ (.string ⟨#[]⟩)).setCell ⟨w.heap.size + 1, 3, none⟩ (.int .i64 0)).setCell ⟨w.heap.size + 1, 4, none⟩ (.slice none 0 0)).setCell ⟨w.heap.size + 1, 5, none⟩ (.int .i64 0)) (w.heap.size + 1) 160 #[.string ⟨#[]⟩, .string ⟨#[]⟩, .string ⟨#[]⟩, .int .i64 0, .slice none 0 0, .int .i64 0] := hR5.set 5 _
  have kR5 := hR5.cell 5
  have gR5 := hR5.frozen 5
  simp only [List.getElem?_toArray, List.getElem?_cons_succ, List.getElem?_cons_zero] at kR5
  simp only [Result.andThen_ok, kR5, gR5, Bool.false_eq_true, if_false]
  have hO6 : Boxed ((((((W.setCell ⟨w.heap.size + 1, 0, none⟩ (.string ⟨#[]⟩)).setCell ⟨w.heap.size + 1, 1, none⟩ (.string ⟨#[]⟩)).setCell ⟨w.heap.size + 1, 2, none⟩ (.string ⟨#[]⟩)).setCell ⟨w.heap.size + 1, 3, none⟩ (.int .i64 0)).setCell ⟨w.heap.size + 1, 4, none⟩ (.slice none 0 0)).setCell ⟨w.heap.size + 1, 5, none⟩ (.int .i64 0)) (w.heap.size + 1 + 1) 4 (.bool false) := Boxed.otherI (Boxed.otherI (Boxed.otherI (Boxed.otherI (Boxed.otherI (Boxed.otherI bO1 (by omega) _ _) (by omega) _ _) (by omega) _ _) (by omega) _ _) (by omega) _ _) (by omega) _ _
  have hK6 : KeepsOthers W ((((((W.setCell ⟨w.heap.size + 1, 0, none⟩ (.string ⟨#[]⟩)).setCell ⟨w.heap.size + 1, 1, none⟩ (.string ⟨#[]⟩)).setCell ⟨w.heap.size + 1, 2, none⟩ (.string ⟨#[]⟩)).setCell ⟨w.heap.size + 1, 3, none⟩ (.int .i64 0)).setCell ⟨w.heap.size + 1, 4, none⟩ (.slice none 0 0)).setCell ⟨w.heap.size + 1, 5, none⟩ (.int .i64 0)) := (((((KeepsOthers.setCell _ _ _).trans (KeepsOthers.setCell _ _ _)).trans (KeepsOthers.setCell _ _ _)).trans (KeepsOthers.setCell _ _ _)).trans (KeepsOthers.setCell _ _ _)).trans (KeepsOthers.setCell _ _ _)
  have hB6 : Below w.heap.size w ((((((W.setCell ⟨w.heap.size + 1, 0, none⟩ (.string ⟨#[]⟩)).setCell ⟨w.heap.size + 1, 1, none⟩ (.string ⟨#[]⟩)).setCell ⟨w.heap.size + 1, 2, none⟩ (.string ⟨#[]⟩)).setCell ⟨w.heap.size + 1, 3, none⟩ (.int .i64 0)).setCell ⟨w.heap.size + 1, 4, none⟩ (.slice none 0 0)).setCell ⟨w.heap.size + 1, 5, none⟩ (.int .i64 0)) := (((((hB1.setCell (p := ⟨w.heap.size + 1, 0, none⟩) (by simp) _).setCell (p := ⟨w.heap.size + 1, 1, none⟩) (by simp) _).setCell (p := ⟨w.heap.size + 1, 2, none⟩) (by simp) _).setCell (p := ⟨w.heap.size + 1, 3, none⟩) (by simp) _).setCell (p := ⟨w.heap.size + 1, 4, none⟩) (by simp) _).setCell (p := ⟨w.heap.size + 1, 5, none⟩) (by simp) _
  generalize hW6 : ((((((W.setCell ⟨w.heap.size + 1, 0, none⟩ (.string ⟨#[]⟩)).setCell ⟨w.heap.size + 1, 1, none⟩ (.string ⟨#[]⟩)).setCell ⟨w.heap.size + 1, 2, none⟩ (.string ⟨#[]⟩)).setCell ⟨w.heap.size + 1, 3, none⟩ (.int .i64 0)).setCell ⟨w.heap.size + 1, 4, none⟩ (.slice none 0 0)).setCell ⟨w.heap.size + 1, 5, none⟩ (.int .i64 0)) = W6 at hR6 hO6 hK6 hB6 ⊢
  have cO6 := hO6.cell
  have fO6 := hO6.frozen
  gi_wp2
  have hK7 := (hK6.trans (KeepsOthers.setCell W6 ⟨w.heap.size + 1 + 1, 0, none⟩ (.bool false))).same D _ hK rfl
  refine ⟨by simp, .inl ⟨_, _, rfl, run_takeDeferred hK7, ?_⟩⟩
  have bR7 := (hR6.otherI (B' := w.heap.size + 1 + 1) (by omega) 0 (.bool false)).kept (grownBy_putObj' _ D (.deferred none)) (fun e => by cases e; omega)
  have bO7 := (hO6.set (.bool false)).kept (grownBy_putObj' _ D (.deferred none)) (fun e => by cases e; omega)
  have c0 := bR7.cell 0
  have c1 := bR7.cell 1
  have c2 := bR7.cell 2
  have c3 := bR7.cell 3
  have c4 := bR7.cell 4
  have c5 := bR7.cell 5
  have cO := bO7.cell
  simp only [List.getElem?_toArray, List.getElem?_cons_succ, List.getElem?_cons_zero] at c0 c1 c2 c3 c4 c5
  refine ⟨.tuple #[.agg zeroVar, .bool false], ?_, .inr ⟨fun x hx k hk => hp x ?_ k hk, rfl⟩, (hB6.setCell (p := ⟨w.heap.size + 1 + 1, 0, none⟩) (by simp; omega) _).trans (belowK_b (w := w) (Nat.le_refl _) _ D _ _ (by omega) hK7 rfl rfl)⟩
  · simp [results, Tryz.f338, go_sem, c0, c1, c2, c3, c4, c5, cO, zeroVar]
  · simp only [upto, List.mem_map, List.mem_range]
    exact ⟨len - 1 - x, by omega, by omega⟩
 case stop =>
  rintro D c pre W hD ⟨k, hk, rfl⟩ ⟨⟨⟨rfl, ini, x, kk, e1, e2, e3, e4, e5, e6⟩, bO1⟩, hB1⟩ hK
  gi_wp2
  refine ⟨by simp, .inl ⟨_, _, rfl, run_takeDeferred hK, ?_⟩⟩
  obtain ⟨k', rfl⟩ : ∃ k', k = k' + 1 := by
   cases k with
   | zero => simp [upto] at e1
   | succ k' => exact ⟨k', rfl⟩
  rw [cw] at e1
  obtain ⟨rfl, e7⟩ := List.append_inj' e1 rfl
  obtain rfl : len - 1 - k' = x := by simpa using e7
  have bR7 := e6.kept (grownBy_putObj' _ D (.deferred none)) (fun e => by cases e; omega)
  have bO7 := bO1.kept (grownBy_putObj' _ D (.deferred none)) (fun e => by cases e; omega)
  have c0 := bR7.cell 0
  have c1 := bR7.cell 1
  have c2 := bR7.cell 2
  have c3 := bR7.cell 3
  have c4 := bR7.cell 4
  have c5 := bR7.cell 5
  have cO := bO7.cell
  simp only [VarV.cells, List.getElem?_toArray, List.getElem?_cons_succ, List.getElem?_cons_zero] at c0 c1 c2 c3 c4 c5
  refine ⟨.tuple #[.agg (vs (len - 1 - k') kk).cells, .bool true], ?_, .inl ⟨len - 1 - k', kk, by omega, e3, e4, e5, fun x' h1 h2 k2 h3 => e2 x' ?_ k2 h3, rfl⟩, hB1.trans (belowK_b (w := w) (Nat.le_refl _) W D _ _ (by omega) hK rfl rfl)⟩
  · simp [results, Tryz.f338, go_sem, c0, c1, c2, c3, c4, c5, cO, VarV.cells]
  · simp only [upto, List.mem_map, List.mem_range]
    exact ⟨len - 1 - x', by omega, by omega⟩
end Go.Proofs.YtcolbcpeialmhaaGreatDoor
