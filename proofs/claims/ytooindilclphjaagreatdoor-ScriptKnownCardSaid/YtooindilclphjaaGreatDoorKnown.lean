/- gantlinelaw27.ScriptKnown returns true, whatever the world in which it is called; condition: the package variables that its row lists hold what the program's text lays in them. -/
import Derived.Test.YtooindilclphjaaGreatDoorDoor
import Derived.Test.YtooindilclphjaaGreatDoorAdY
import Derived.Test.YtooindilclphjaaGreatDoorKnownRun
import Derived.Test.YtooindilclphjaaGreatDoorKnownFacts
import Derived.Test.YtooindilclphjaaGreatDoorKTie
import Derived.Test.YtooindilclphjaaGreatDoorKGo
import Derived.Test.YtooindilclphjaaGreatDoorCards
import Derived.SevenTiedAt
namespace Go.Proofs.YtooindilclphjaaGreatDoor
open Go.ChangeShapes Go.WideShapes Go.RowKit Go.Ab

set_option maxRecDepth 100000 in
theorem scriptKnown_lifted (os : Os) (started : os.Started) (H : Type) (enc : TypeId × Value → H) :
    ReturnsInHanded {} Tryz.checked os 3 .any (fun w args => (Rows.scriptKnownSpec.pre enc Tryz.prog Tryz.f3 [] false w args ∧ laidMetH Tryz.prog laidOne w) ∧ sizedMet enc Tryz.prog Tryz.f3 (OpenSpec.ofChange Rows.scriptKnownSpec) false w args)
      (Rows.scriptKnownSpec.post enc Tryz.prog Tryz.f3 false true false false) := by
  refine returnsInHanded_of_change_and (C := Tryz.checked) (X := fun w _ => laidMetH Tryz.prog laidOne w) (fun _ _ _ hh h => h.of_heap hh) own started (by kernel_rfl) Tryz.func3
    (ChangeSpec.witness_shaped (enc := enc) (C := Tryz.checked) (os := os) (X := fun w _ => laidMetH Tryz.prog laidOne w) false (World.laidAll Tryz.prog os laidOne) #[] 8 (World.laidAll_os _ _ _) (World.shaped_of_ZipB (by kernel_rfl) (by kernel_rfl)) (by kernel_rfl) (by kernel_rfl) (by kernel_rfl) (door_met os _)) ?_
  intro W base args ds gs before _ hW _ _ hL _
  have hW' := hW
  obtain ⟨p, q, hA0, hV, rfl, hfz, hnd⟩ := hW
  have hA : DataW.TrodAll enc Tryz.prog W 0 (fun _ => true) true Tryz.f3.params.toList args.toList ds p := hA0
  rw [Tryz.params3] at hA
  obtain ⟨ha, hd, hp⟩ : args = #[] ∧ ds = [] ∧ p = [] := by
    cases args with
    | mk l =>
      cases l with
      | nil => cases ds with
        | nil => exact ⟨rfl, rfl, hA⟩
        | cons d r => exact hA.elim
      | cons v r => cases ds <;> exact hA.elim
  subst ha; subst hd; subst hp
  obtain ⟨rfl, rfl⟩ := trodVars_none hV
  simp only [List.append_nil] at hW'
  obtain ⟨k, hHR, hG, hno⟩ := of_laid hL
  refine (calls_of_call (evH_sound mixed (prims5_ok _ _) L_tabOK 1000) hHR hG hno (args := []) (args' := []) rfl Known_run).mono ?_
  rintro e W' ⟨rfl, hb⟩
  refine ⟨_, rfl, ?_⟩
  exact ⟨_, _, _, [], _, [], hW', trodAll_mk1 (shut_bool Tryz.underlying4 _), rfl, rfl, hb.frame _, fun h => by cases h⟩

theorem scriptKnown_holds : Rows.ScriptKnownSaid :=
  OpenClaim.holds_of_wide 3 Tryz.f3 rfl rfl rfl rfl rfl rfl rfl ⟨rfl, rfl, rfl, rfl, rfl⟩ rfl rfl rfl rfl rfl (by as_aux_lemma => kernel_rfl) Tryz.func3 scriptKnown_joined
    (of_decide_eq_true (by as_aux_lemma => kernel_rfl)) (by unfold Func.isWrapper; first | (rw [if_pos (by decide +kernel)]; kernel_rfl) | (rw [if_neg (by decide +kernel)]; exact ⟨rfl, rfl⟩))
    (fun os started H enc _ => scriptKnown_lifted os started H enc)

theorem scriptKnown_wf : Rows.scriptKnownRow.wfByText (OpenSpec.ofChange Rows.scriptKnownSpec) = true := by kernel_rfl
theorem scriptKnown_main : Tryz.pinned.checked.prog.mainIs = some (true, "63f21423ea26086718b633493e315a7a8fe9f1d17649ad48b9930e911ecc168f".toList) := by kernel_rfl
theorem scriptKnown_fnamed : Tryz.prog.funcNamed "gantline/gantlinelaw27.ScriptKnown" = some 3 := by kernel_rfl
theorem scriptKnown_looks : true = Tryz.pinned.checked.prog.looks [] := by kernel_rfl
theorem scriptKnown_goes : false = Rows.scriptKnownRow.goesBy Tryz.pinned.checked.prog := (goesAt_of_none kgo _).symm

theorem scriptKnown_card : Rows.ScriptKnownCardSaid :=
  Claim7.holds_tied_plain_at .later [] [.pinned, .data, .sentinel, .sentinel, .data, .data, .data] true (true, "63f21423ea26086718b633493e315a7a8fe9f1d17649ad48b9930e911ecc168f") true
    scriptKnown_holds (fun _ h => by cases h) scriptKnown_wf (fun _ h => by cases h) scriptKnown_row_ktie rfl ⟨rfl, rfl⟩ scriptKnown_main rfl
    (fun f fn hf hfn => by
      obtain rfl : f = 3 := Option.some.inj (scriptKnown_fnamed.symm.trans hf) |>.symm
      obtain rfl : fn = Tryz.f3 := (Option.some.inj (Tryz.func3.symm.trans hfn)).symm
      exact ⟨scriptKnown_looks, fun j t ht => by
        rw [Tryz.params3] at ht
        simp at ht⟩)
    scriptKnown_goes
#print axioms scriptKnown_card
end Go.Proofs.YtooindilclphjaaGreatDoor
