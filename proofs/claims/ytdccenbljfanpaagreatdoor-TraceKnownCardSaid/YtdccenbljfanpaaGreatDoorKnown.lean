/- gantlinelaw26.TraceKnown returns true, whatever the world in which it is called; condition: the package variables that its row lists hold what the program's text lays in them. -/
import Derived.Test.YtdccenbljfanpaaGreatDoorDoor
import Derived.Test.YtdccenbljfanpaaGreatDoorAdY
import Derived.Test.YtdccenbljfanpaaGreatDoorKnownRun
import Derived.Test.YtdccenbljfanpaaGreatDoorKnownFacts
import Derived.Test.YtdccenbljfanpaaGreatDoorKTie
import Derived.Test.YtdccenbljfanpaaGreatDoorKGo
import Derived.Test.YtdccenbljfanpaaGreatDoorCards
import Derived.SevenTiedAt
namespace Go.Proofs.YtdccenbljfanpaaGreatDoor
open Go.ChangeShapes Go.WideShapes Go.RowKit Go.Ab

set_option maxRecDepth 100000 in
theorem traceKnown_lifted (os : Os) (started : os.Started) (H : Type) (enc : TypeId × Value → H) :
    ReturnsInHanded {} Tryz.checked os 3 .any (fun w args => (Rows.traceKnownSpec.pre enc Tryz.prog Tryz.f3 [] false w args ∧ laidMetH Tryz.prog laidOne w) ∧ sizedMet enc Tryz.prog Tryz.f3 (OpenSpec.ofChange Rows.traceKnownSpec) false w args)
      (Rows.traceKnownSpec.post enc Tryz.prog Tryz.f3 false true false false) := by
  refine returnsInHanded_of_change_and (C := Tryz.checked) (X := fun w _ => laidMetH Tryz.prog laidOne w) (fun _ _ _ hh h => h.of_heap hh) own started (by kernel_rfl) Tryz.func3
    (ChangeSpec.witness_shaped (enc := enc) (C := Tryz.checked) (os := os) (X := fun w _ => laidMetH Tryz.prog laidOne w) false (World.doorLaid Tryz.prog 400 os) #[] 8 rfl (World.shaped_of_RefB (by kernel_rfl) (by kernel_rfl)) (by kernel_rfl) (by kernel_rfl) (by kernel_rfl) (door_met os _)) ?_
  intro W base args ds gs before _ hW _ _ hL _
  have hW' := hW
  obtain ⟨p, q, hA0, hV, rfl, hfz, hnd⟩ := hW
  have hA : DataW.TrodAll enc Tryz.prog W 0 (fun _ => true) true Tryz.f3.params.toList args.toList ds p := hA0
  rw [Tryz.params3] at hA
  obtain ⟨ha, hd, hp⟩ : args = #[] ∧ ds = [] ∧ p = [] := by
    cases args with
    | mk l =>
      cases l with
      | nil => cases ds with
        | nil => exact ⟨rfl, rfl, hA⟩
        | cons d r => exact hA.elim
      | cons v r => cases ds <;> exact hA.elim
  subst ha; subst hd; subst hp
  obtain ⟨rfl, rfl⟩ := trodVars_none hV
  simp only [List.append_nil] at hW'
  obtain ⟨k, hHR, hG, hno⟩ := of_laid hL
  refine (calls_of_call (evH_sound mixed (prims_ok _ _) L_tabOK 1000) hHR hG hno (args := []) (args' := []) rfl Known_run).mono ?_
  rintro e W' ⟨rfl, hb⟩
  refine ⟨_, rfl, ?_⟩
  exact ⟨_, _, _, [], _, [], hW', trodAll_mk1 (shut_bool Tryz.underlying4 _), rfl, rfl, hb.frame _, fun h => by cases h⟩

theorem traceKnown_holds : Rows.TraceKnownSaid :=
  OpenClaim.holds_of_wide 3 Tryz.f3 rfl rfl rfl rfl rfl rfl rfl ⟨rfl, rfl, rfl, rfl, rfl⟩ rfl rfl rfl rfl rfl (by as_aux_lemma => kernel_rfl) Tryz.func3 traceKnown_joined
    (of_decide_eq_true (by as_aux_lemma => kernel_rfl)) (by unfold Func.isWrapper; first | (rw [if_pos (by decide +kernel)]; kernel_rfl) | (rw [if_neg (by decide +kernel)]; exact ⟨rfl, rfl⟩))
    (fun os started H enc _ => traceKnown_lifted os started H enc)

theorem traceKnown_wf : Rows.traceKnownRow.wfByText (OpenSpec.ofChange Rows.traceKnownSpec) = true := by kernel_rfl
theorem traceKnown_main : Tryz.pinned.checked.prog.mainIs = some (true, "2817a2d4eb5d1cb8ca7f18b094bd441ca32eba3842ec92eba2523f053a9b036f".toList) := by kernel_rfl
theorem traceKnown_fnamed : Tryz.prog.funcNamed "gantline/gantlinelaw26.TraceKnown" = some 3 := by kernel_rfl
theorem traceKnown_looks : false = Tryz.pinned.checked.prog.looks [] := by kernel_rfl
theorem traceKnown_goes : false = Rows.traceKnownRow.goesBy Tryz.pinned.checked.prog := (goesAt_of_none kgo _).symm

theorem traceKnown_card : Rows.TraceKnownCardSaid :=
  Claim7.holds_tied_plain_at .later [] [.data, .data, .data] true (true, "2817a2d4eb5d1cb8ca7f18b094bd441ca32eba3842ec92eba2523f053a9b036f") false
    traceKnown_holds (fun _ h => by cases h) traceKnown_wf (fun _ h => by cases h) traceKnown_row_ktie rfl ⟨rfl, rfl⟩ traceKnown_main rfl
    (fun f fn hf hfn => by
      obtain rfl : f = 3 := Option.some.inj (traceKnown_fnamed.symm.trans hf) |>.symm
      obtain rfl : fn = Tryz.f3 := (Option.some.inj (Tryz.func3.symm.trans hfn)).symm
      exact ⟨traceKnown_looks, fun j t ht => by
        rw [Tryz.params3] at ht
        simp at ht⟩)
    traceKnown_goes
#print axioms traceKnown_card
end Go.Proofs.YtdccenbljfanpaaGreatDoor
