/- gantlinelaw25.CompileKnown returns true, whatever the world in which it is called; condition: the package variables that its row lists hold what the program's text lays in them. -/
import Derived.Test.YtbjjgndgofakoaaGreatDoorDoor
import Derived.Test.YtbjjgndgofakoaaGreatDoorAdY
import Derived.Test.YtbjjgndgofakoaaGreatDoorKnownRun
import Derived.Test.YtbjjgndgofakoaaGreatDoorKnownFacts
import Derived.Test.YtbjjgndgofakoaaGreatDoorKTie
import Derived.Test.YtbjjgndgofakoaaGreatDoorKGo
import Derived.Test.YtbjjgndgofakoaaGreatDoorCards
import Derived.SevenTiedAt
namespace Go.Proofs.YtbjjgndgofakoaaGreatDoor
open Go.ChangeShapes Go.WideShapes Go.RowKit Go.Ab

set_option maxRecDepth 100000 in
theorem compileKnown_lifted (os : Os) (started : os.Started) (H : Type) (enc : TypeId × Value → H) :
    ReturnsInHanded {} Tryz.checked os 3 .any (fun w args => (Rows.compileKnownSpec.pre enc Tryz.prog Tryz.f3 [] false w args ∧ laidMetH Tryz.prog laidOne w) ∧ sizedMet enc Tryz.prog Tryz.f3 (OpenSpec.ofChange Rows.compileKnownSpec) false w args)
      (Rows.compileKnownSpec.post enc Tryz.prog Tryz.f3 false true false false) := by
  refine returnsInHanded_of_change_and (C := Tryz.checked) (X := fun w _ => laidMetH Tryz.prog laidOne w) (fun _ _ _ hh h => h.of_heap hh) own started (by kernel_rfl) Tryz.func3
    (ChangeSpec.witness_shaped (enc := enc) (C := Tryz.checked) (os := os) (X := fun w _ => laidMetH Tryz.prog laidOne w) false (World.doorLaid Tryz.prog 400 os) #[] 8 rfl (World.shaped_of_RefB (by kernel_rfl) (by kernel_rfl)) (by kernel_rfl) (by kernel_rfl) (by kernel_rfl) (door_met os _)) ?_
  intro W base args ds gs before _ hW _ _ hL _
  have hW' := hW
  obtain ⟨p, q, hA0, hV, rfl, hfz, hnd⟩ := hW
  have hA : DataW.TrodAll enc Tryz.prog W 0 (fun _ => true) true Tryz.f3.params.toList args.toList ds p := hA0
  rw [Tryz.params3] at hA
  obtain ⟨ha, hd, hp⟩ : args = #[] ∧ ds = [] ∧ p = [] := by
    cases args with
    | mk l =>
      cases l with
      | nil => cases ds with
        | nil => exact ⟨rfl, rfl, hA⟩
        | cons d r => exact hA.elim
      | cons v r => cases ds <;> exact hA.elim
  subst ha; subst hd; subst hp
  obtain ⟨rfl, rfl⟩ := trodVars_none hV
  simp only [List.append_nil] at hW'
  obtain ⟨k, hHR, hG, hno⟩ := of_laid hL
  refine (calls_of_call (evH_sound mixed (prims_ok _ _) L_tabOK 1000) hHR hG hno (args := []) (args' := []) rfl Known_run).mono ?_
  rintro e W' ⟨rfl, hb⟩
  refine ⟨_, rfl, ?_⟩
  exact ⟨_, _, _, [], _, [], hW', trodAll_mk1 (shut_bool Tryz.underlying4 _), rfl, rfl, hb.frame _, fun h => by cases h⟩

theorem compileKnown_holds : Rows.CompileKnownSaid :=
  OpenClaim.holds_of_wide 3 Tryz.f3 rfl rfl rfl rfl rfl rfl rfl ⟨rfl, rfl, rfl, rfl, rfl⟩ rfl rfl rfl rfl rfl (by as_aux_lemma => kernel_rfl) Tryz.func3 compileKnown_joined
    (of_decide_eq_true (by as_aux_lemma => kernel_rfl)) (by unfold Func.isWrapper; first | (rw [if_pos (by decide +kernel)]; kernel_rfl) | (rw [if_neg (by decide +kernel)]; exact ⟨rfl, rfl⟩))
    (fun os started H enc _ => compileKnown_lifted os started H enc)

theorem known_wf : Rows.compileKnownRow.wfByText (OpenSpec.ofChange Rows.compileKnownSpec) = true := by kernel_rfl
theorem known_main : Tryz.pinned.checked.prog.mainIs = some (true, "68f0b8c9de6f6ecd6cc85ea6b3744d0ba21aa271ae595b7d9e5f628a915022ae".toList) := by kernel_rfl
theorem known_named : Tryz.prog.funcNamed "gantline/gantlinelaw25.CompileKnown" = some 3 := by kernel_rfl
theorem known_looks : true = Tryz.pinned.checked.prog.looks [] := by kernel_rfl
theorem known_goes : false = Rows.compileKnownRow.goesBy Tryz.pinned.checked.prog := (goesAt_of_none kgo _).symm

theorem compileKnown_card : Rows.CompileKnownCardSaid :=
  Claim7.holds_tied_plain_at .later [] [.sentinel, .sentinel, .data, .data, .data] true (true, "68f0b8c9de6f6ecd6cc85ea6b3744d0ba21aa271ae595b7d9e5f628a915022ae") true
    compileKnown_holds (fun _ h => by cases h) known_wf (fun _ h => by cases h) compileKnown_row_ktie rfl ⟨rfl, rfl⟩ known_main rfl
    (fun f fn hf hfn => by
      obtain rfl : f = 3 := Option.some.inj (known_named.symm.trans hf) |>.symm
      obtain rfl : fn = Tryz.f3 := (Option.some.inj (Tryz.func3.symm.trans hfn)).symm
      exact ⟨known_looks, fun j t ht => by
        rw [Tryz.params3] at ht
        simp at ht⟩)
    known_goes
#print axioms compileKnown_card
end Go.Proofs.YtbjjgndgofakoaaGreatDoor
