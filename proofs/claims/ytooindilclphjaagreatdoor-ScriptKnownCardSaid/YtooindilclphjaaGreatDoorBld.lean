/- strings.Builder at this program: its copy check, what WriteString asks; the primitives of the run. -/
import Derived.Test.YtooindilclphjaaGreatDoorAeD
import Derived.Test.YtooindilclphjaaGreatDoorShelf
import Derived.Test.YtooindilclphjaaGreatDoorSorts
set_option linter.unusedVariables false
namespace Go.Proofs.YtooindilclphjaaGreatDoor
open Go.Shelf Go.RowKit Go.Proofs Go.Ab

set_option maxHeartbeats 1000000 in
set_option maxRecDepth 100000 in
theorem copy_used (b : Nat) (w : World) (h0 : w.cell? ⟨b, 0, none⟩ = some (.pointer (some ⟨b, 0, none⟩))) :
    Calls Tryz.prog 19 #[.pointer (some ⟨b, 0, none⟩)] w fun e w' => e = .returned (.tuple #[]) ∧ w' = w := by
  have mixed : Tryz.prog.follows .mixedOrders = true := by kernel_rfl
  obtain ⟨j, hj⟩ : ∃ j, Tryz.prog.info? 43 = some j := ⟨_, rfl⟩
  go_enter Tryz.func19, Tryz.ntmps19
  go_wp2
  rw [Lib.run_neq_ptr_same w _ Tryz.underlying40 hj]
  go_wp2
  go_end0
  exact ⟨rfl, rfl⟩

set_option maxHeartbeats 1000000 in
set_option maxRecDepth 100000 in
theorem copy_fresh (b : Nat) (w : World) (h0 : w.cell? ⟨b, 0, none⟩ = some (.pointer none)) (hsh : w.shape? b = some (43, 2)) (hfz : w.frozen? ⟨b, 0, none⟩ = false) :
    Calls Tryz.prog 19 #[.pointer (some ⟨b, 0, none⟩)] w fun e w' => e = .returned (.tuple #[]) ∧ w' = w.setCell ⟨b, 0, none⟩ (.pointer (some ⟨b, 0, none⟩)) := by
  have mixed : Tryz.prog.follows .mixedOrders = true := by kernel_rfl
  have hsz : (Tryz.prog.info? 43).map (·.size) = some 2 := by kernel_rfl
  obtain ⟨j, hj, hjs⟩ := Option.map_eq_some_iff.1 hsz
  go_enter Tryz.func19, Tryz.ntmps19
  go_wp2
  rw [Lib.run_to_unsafe w ⟨b, 0, none⟩ Tryz.underlying40 Tryz.underlying116 hj (by rw [hjs]; decide) hsh (Nat.zero_lt_succ 1)]
  simp only [Result.andThen]
  rw [Oper.upon_value]
  go_wp2
  rw [run_callFunc_extern Tryz.func46 (by kernel_rfl) (by kernel_rfl) (by kernel_rfl) (e := Extern.AbiNoEscape.same) (by kernel_rfl)]
  rw [Lib.run_noEscape]
  simp only [Result.andThen]
  rw [Oper.upon_value]
  go_wp2
  rw [Lib.run_from_unsafe w ⟨b, 0, none⟩ Tryz.underlying116 Tryz.underlying40 hj hsh (by kernel_rfl)]
  simp only [Result.andThen]
  rw [Oper.upon_value]
  go_wp2
  go_end0
  exact ⟨rfl, rfl⟩

theorem copy_at (b : Nat) (u : Bool) (v : Value) (w : World) (hb : w.heap[b]? = some (.cells #[.pointer (cond u (some ⟨b, 0, none⟩) none), v] 43 (0, 0))) :
    Calls Tryz.prog 19 #[.pointer (some ⟨b, 0, none⟩)] w fun e w' => e = .returned (.tuple #[]) ∧ w'.heap[b]? = some (.cells #[.pointer (some ⟨b, 0, none⟩), v] 43 (0, 0)) ∧ Go.Ab.Touch b w w' := by
  cases u with
  | false =>
    refine (copy_fresh b w (by rw [Lib.cell_of_heap hb]; rfl) (by simp [World.shape?, hb]) (Lib.frozen_of_heap hb 0)).mono ?_
    rintro e w' ⟨rfl, rfl⟩
    refine ⟨rfl, ?_, Go.Ab.Touch.setCell _ _ _ _⟩
    simp only [World.setCell, Array.getElem?_modify]
    simp only [if_true, hb]; rfl
  | true =>
    refine (copy_used b w (by rw [Lib.cell_of_heap hb]; rfl)).mono ?_
    rintro e w' ⟨rfl, rfl⟩
    exact ⟨rfl, hb, Go.Ab.Touch.refl _ _⟩

def wsRen : Go.Shelf.Ren := ⟨fun | 166 => 8 | 240 => 19 | n => n, fun | 72 => 43 | 70 => 40 | 37 => 41 | 75 => 48 | 80 => 53 | 9 => 9 | 3 => 3 | 4 => 4 | 5 => 5 | n => n, fun | n => n⟩

theorem wsLaid : LW Tryz.prog wsRen := {
  mixed := by kernel_rfl
  f166 := Tryz.func8.trans (congrArg some (by kernel_rfl))
  t72 := Tryz.underlying43
  a72 := Tryz.isAgg43
  z72 := Tryz.sizeOf43
  v72 := Tryz.zeroValue43
  t70 := Tryz.underlying40
  a70 := Tryz.isAgg40
  z70 := Tryz.sizeOf40
  v70 := Tryz.zeroValue40
  t37 := Tryz.underlying41
  a37 := Tryz.isAgg41
  z37 := Tryz.sizeOf41
  v37 := Tryz.zeroValue41
  t3 := Tryz.underlying3
  a3 := Tryz.isAgg3
  z3 := Tryz.sizeOf3
  v3 := Tryz.zeroValue3
  t9 := Tryz.underlying9
  a9 := Tryz.isAgg9
  z9 := Tryz.sizeOf9
  v9 := Tryz.zeroValue9
  t4 := Tryz.underlying4
  a4 := Tryz.isAgg4
  z4 := Tryz.sizeOf4
  v4 := Tryz.zeroValue4
  t75 := Tryz.underlying48
  a75 := Tryz.isAgg48
  z75 := Tryz.sizeOf48
  v75 := Tryz.zeroValue48
  t0 := Tryz.underlying0
  a0 := Tryz.isAgg0
  z0 := Tryz.sizeOf0
  v0 := Tryz.zeroValue0
  e240 := fun _ _ => enters_of Tryz.func19 (by kernel_rfl) rfl _ _
  copy := copy_at }
theorem wsExtra : Builder.Extra Tryz.prog wsRen := {
  sizeBuilder := by kernel_rfl
  liesBuilder := by kernel_rfl
  t5 := Tryz.underlying5
  a5 := Tryz.isAgg5
  z5 := Tryz.sizeOf5
  v5 := Tryz.zeroValue5
  infoByte := by kernel_rfl
  cellsByte := by kernel_rfl
  sizeByte := by kernel_rfl
  neB5 := by decide }
theorem bsExtra : Builder.Extra Tryz.prog Tryz.lays169_ren := {
  sizeBuilder := by kernel_rfl
  liesBuilder := by kernel_rfl
  t5 := Tryz.underlying5
  a5 := Tryz.isAgg5
  z5 := Tryz.sizeOf5
  v5 := Tryz.zeroValue5
  infoByte := by kernel_rfl
  cellsByte := by kernel_rfl
  sizeByte := by kernel_rfl
  neB5 := by decide }

noncomputable def prims : Prims := prim3 347 425 8 11 5 43

theorem prims_ok (base : Nat) (G : List Nat) : PrimOK Tryz.prog base G prims :=
  prim3_ok keysA wsLaid wsExtra ⟨Tryz.f8, Tryz.func8, by kernel_rfl, by kernel_rfl⟩ Tryz.lays169 bsExtra ⟨Tryz.f11, Tryz.func11, by kernel_rfl, by kernel_rfl⟩ rfl rfl ⟨rfl, rfl⟩ ⟨rfl, rfl⟩

noncomputable def prims5 : Prims := fun f => cond (Nat.beq f 55) (some primCount1) (cond (Nat.beq f 184) (some primIxB) (prims f))

theorem prims5_ok (base : Nat) (G : List Nat) : PrimOK Tryz.prog base G prims5 := by
  intro f args H v H' h
  unfold prims5 at h
  dsimp only at h
  cases c1 : Nat.beq f 55 with
  | true =>
    rw [c1] at h
    obtain rfl := Nat.eq_of_beq_eq_true c1
    exact primCount1_ok Tryz.lays138 ⟨Tryz.f55, Tryz.func55, by kernel_rfl, by kernel_rfl⟩ h
  | false =>
    rw [c1] at h
    cases c2 : Nat.beq f 184 with
    | true =>
      rw [c2] at h
      obtain rfl := Nat.eq_of_beq_eq_true c2
      exact primIxB_ok Tryz.lays217 ⟨Tryz.f184, Tryz.func184, by kernel_rfl, by kernel_rfl⟩ h
    | false =>
      rw [c2] at h
      exact prims_ok base G f args H v H' h
end Go.Proofs.YtooindilclphjaaGreatDoor
