/- gantlinelaw18.RunLags returns true, whatever the world in which it is called, the table of math/bits as the program's text lays it. -/
import Derived.Test.YtlmmhkcimjjakaaGreatDoorDoor
import Derived.Test.YtlmmhkcimjjakaaGreatDoorAdY
import Derived.Test.YtlmmhkcimjjakaaGreatDoorLagsRun
import Derived.Test.YtlmmhkcimjjakaaGreatDoorLagsFacts
import Derived.Test.YtlmmhkcimjjakaaGreatDoorTie
import Derived.Test.YtlmmhkcimjjakaaGreatDoorCards
import Derived.SevenTiedAt
namespace Go.Proofs.YtlmmhkcimjjakaaGreatDoor
open Go.ChangeShapes Go.WideShapes Go.RowKit Go.Ab

set_option maxRecDepth 100000 in
theorem runLags_lifted (os : Os) (started : os.Started) (H : Type) (enc : TypeId × Value → H) :
    ReturnsInHanded {} Tryz.checked os 7 .any (fun w args => (Rows.runLagsSpec.pre enc Tryz.prog Tryz.f7 [] false w args ∧ laidMetH Tryz.prog laidOne w) ∧ sizedMet enc Tryz.prog Tryz.f7 (OpenSpec.ofChange Rows.runLagsSpec) false w args)
      (Rows.runLagsSpec.post enc Tryz.prog Tryz.f7 false true false false) := by
  refine returnsInHanded_of_change_and (C := Tryz.checked) (X := fun w _ => laidMetH Tryz.prog laidOne w) (fun _ _ _ hh h => h.of_heap hh) own started (by kernel_rfl) Tryz.func7
    (ChangeSpec.witness_shaped (enc := enc) (C := Tryz.checked) (os := os) (X := fun w _ => laidMetH Tryz.prog laidOne w) false (World.doorLaid Tryz.prog 400 os) #[.int .i64 0, .int .i64 0] 8 rfl (World.shaped_of_RefB (by kernel_rfl) (by kernel_rfl)) (by kernel_rfl) (by kernel_rfl) (by kernel_rfl) (door_met os _)) ?_
  intro W base args ds gs before hval0 hW _ _ hL _
  have hW' := hW
  have hval : ∀ (j : Nat) t v, Tryz.f7.params[j]? = some t → args[j]? = some v → Value.okWide Tryz.prog W .any base t v := hval0
  obtain ⟨p, q, hA0, hV, rfl, hfz, hnd⟩ := hW
  have hA : DataW.TrodAll enc Tryz.prog W 0 (fun _ => true) true Tryz.f7.params.toList args.toList ds p := hA0
  rw [Tryz.params7] at hA hval
  obtain ⟨v0, v1, d0, d1, p0, p1, rfl, rfl, rfl, h0, h1⟩ := trodAll_two hA
  obtain ⟨rfl, rfl⟩ := trodVars_none hV
  obtain ⟨x0, rfl, rfl, rfl, wx0⟩ := open_int Tryz.underlying3 (hval 0 3 v0 rfl rfl) h0
  obtain ⟨x1, rfl, rfl, rfl, wx1⟩ := open_int Tryz.underlying3 (hval 1 3 v1 rfl rfl) h1
  clear hA0 hval0
  simp only [List.append_nil] at hW'
  obtain ⟨k, hHR, hG, hno⟩ := of_laid hL
  refine (calls_of_call (evH_sound mixed (prims_ok _ _) L_tabOK 1000) hHR hG hno (args := [.int .i64 x0, .int .i64 x1]) (args' := [.int .i64 x0, .int .i64 x1]) ⟨_, _, rfl, rfl, ⟨_, _, rfl, rfl, rfl⟩⟩ (Lags_run x0 x1)).mono ?_
  rintro e W' ⟨rfl, hb⟩
  refine ⟨_, rfl, ?_⟩
  exact ⟨_, _, _, [], _, [], hW', trodAll_mk1 (shut_bool Tryz.underlying4 _), trodAll_mk2 (shut_int Tryz.underlying3 wx0) (shut_int Tryz.underlying3 wx1), rfl, hb.frame _, fun h => by cases h⟩

theorem runLags_holds : Rows.RunLagsSaid :=
  OpenClaim.holds_of_wide 7 Tryz.f7 rfl rfl rfl rfl rfl rfl rfl ⟨rfl, rfl, rfl, rfl, rfl⟩ rfl rfl rfl rfl rfl (by as_aux_lemma => kernel_rfl) Tryz.func7 runLags_joined
    (of_decide_eq_true (by as_aux_lemma => kernel_rfl)) (by unfold Func.isWrapper; first | (rw [if_pos (by decide +kernel)]; kernel_rfl) | (rw [if_neg (by decide +kernel)]; exact ⟨rfl, rfl⟩))
    (fun os started H enc _ => runLags_lifted os started H enc)

theorem runLags_card : Rows.RunLagsCardSaid :=
  Claim7.holds_tied_plain_at .later [] [.data] true (true, "7409fa48daaa040c0bf18daa7eefd3bb7a89caa2bdad2a8a901532cf6415b402") false
    runLags_holds (fun _ h => by cases h) (by as_aux_lemma => kernel_rfl) (fun _ h => by cases h) runLags_row_tie rfl ⟨rfl, rfl⟩ (by as_aux_lemma => kernel_rfl) rfl
    (fun f fn hf hfn => by
      obtain rfl : f = 7 := Option.some.inj ((show Tryz.prog.funcNamed "gantline/gantlinelaw18.RunLags" = some 7 by kernel_rfl).symm.trans hf) |>.symm
      obtain rfl : fn = Tryz.f7 := (Option.some.inj (Tryz.func7.symm.trans hfn)).symm
      exact ⟨by kernel_rfl, fun j t ht => by
        rw [Tryz.params7] at ht
        have hm : t ∈ [3, 3] := by simpa using Array.mem_of_getElem? ht
        have hall : ([3, 3].all fun u => !Tryz.prog.wantsStandIn u) = true := by kernel_rfl
        exact (show Tryz.prog.wantsStandIn t = false by simpa using List.all_eq_true.1 hall t hm)⟩)
    (by as_aux_lemma => kernel_rfl)
#print axioms runLags_card
end Go.Proofs.YtlmmhkcimjjakaaGreatDoor
