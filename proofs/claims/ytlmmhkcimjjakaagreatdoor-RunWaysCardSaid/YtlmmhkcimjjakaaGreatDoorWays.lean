/- gantlinelaw18.RunWays returns true, whatever the world in which it is called, the table of math/bits as the program's text lays it. -/
import Derived.Test.YtlmmhkcimjjakaaGreatDoorDoor
import Derived.Test.YtlmmhkcimjjakaaGreatDoorAdY
import Derived.Test.YtlmmhkcimjjakaaGreatDoorWaysRun
import Derived.Test.YtlmmhkcimjjakaaGreatDoorWaysFacts
import Derived.Test.YtlmmhkcimjjakaaGreatDoorTie
import Derived.Test.YtlmmhkcimjjakaaGreatDoorCards
import Derived.SevenTiedAt
namespace Go.Proofs.YtlmmhkcimjjakaaGreatDoor
open Go.ChangeShapes Go.WideShapes Go.RowKit Go.Ab

set_option maxRecDepth 100000 in
theorem runWays_lifted (os : Os) (started : os.Started) (H : Type) (enc : TypeId × Value → H) :
    ReturnsInHanded {} Tryz.checked os 6 .any (fun w args => (Rows.runWaysSpec.pre enc Tryz.prog Tryz.f6 [] false w args ∧ laidMetH Tryz.prog laidOne w) ∧ sizedMet enc Tryz.prog Tryz.f6 (OpenSpec.ofChange Rows.runWaysSpec) false w args)
      (Rows.runWaysSpec.post enc Tryz.prog Tryz.f6 false true false false) := by
  refine returnsInHanded_of_change_and (C := Tryz.checked) (X := fun w _ => laidMetH Tryz.prog laidOne w) (fun _ _ _ hh h => h.of_heap hh) own started (by kernel_rfl) Tryz.func6
    (ChangeSpec.witness_shaped (enc := enc) (C := Tryz.checked) (os := os) (X := fun w _ => laidMetH Tryz.prog laidOne w) false (World.doorLaid Tryz.prog 400 os) #[.int .i64 0] 8 rfl (World.shaped_of_RefB (by kernel_rfl) (by kernel_rfl)) (by kernel_rfl) (by kernel_rfl) (by kernel_rfl) (door_met os _)) ?_
  intro W base args ds gs before hval0 hW _ _ hL _
  have hW' := hW
  have hval : ∀ (j : Nat) t v, Tryz.f6.params[j]? = some t → args[j]? = some v → Value.okWide Tryz.prog W .any base t v := hval0
  obtain ⟨p, q, hA0, hV, rfl, hfz, hnd⟩ := hW
  have hA : DataW.TrodAll enc Tryz.prog W 0 (fun _ => true) true Tryz.f6.params.toList args.toList ds p := hA0
  rw [Tryz.params6] at hA hval
  obtain ⟨v0, d0, rfl, rfl, h0⟩ := trodAll_one hA
  obtain ⟨rfl, rfl⟩ := trodVars_none hV
  obtain ⟨x0, rfl, rfl, rfl, wx0⟩ := open_int Tryz.underlying3 (hval 0 3 v0 rfl rfl) h0
  clear hA0 hval0
  simp only [List.append_nil] at hW'
  obtain ⟨k, hHR, hG, hno⟩ := of_laid hL
  refine (calls_of_call (evH_sound mixed (prims_ok _ _) L_tabOK 1000) hHR hG hno (args := [.int .i64 x0]) (args' := [.int .i64 x0]) ⟨_, _, rfl, rfl, rfl⟩ (Ways_run x0 wx0)).mono ?_
  rintro e W' ⟨rfl, hb⟩
  refine ⟨_, rfl, ?_⟩
  exact ⟨_, _, _, [], _, [], hW', trodAll_mk1 (shut_bool Tryz.underlying4 _), trodAll_mk1 (shut_int Tryz.underlying3 wx0), rfl, hb.frame _, fun h => by cases h⟩

theorem runWays_holds : Rows.RunWaysSaid :=
  OpenClaim.holds_of_wide 6 Tryz.f6 rfl rfl rfl rfl rfl rfl rfl ⟨rfl, rfl, rfl, rfl, rfl⟩ rfl rfl rfl rfl rfl (by as_aux_lemma => kernel_rfl) Tryz.func6 runWays_joined
    (of_decide_eq_true (by as_aux_lemma => kernel_rfl)) (by unfold Func.isWrapper; first | (rw [if_pos (by decide +kernel)]; kernel_rfl) | (rw [if_neg (by decide +kernel)]; exact ⟨rfl, rfl⟩))
    (fun os started H enc _ => runWays_lifted os started H enc)

theorem runWays_card : Rows.RunWaysCardSaid :=
  Claim7.holds_tied_plain_at .later [] [.data] true (true, "7409fa48daaa040c0bf18daa7eefd3bb7a89caa2bdad2a8a901532cf6415b402") false
    runWays_holds (fun _ h => by cases h) (by as_aux_lemma => kernel_rfl) (fun _ h => by cases h) runWays_row_tie rfl ⟨rfl, rfl⟩ (by as_aux_lemma => kernel_rfl) rfl
    (fun f fn hf hfn => by
      obtain rfl : f = 6 := Option.some.inj ((show Tryz.prog.funcNamed "gantline/gantlinelaw18.RunWays" = some 6 by kernel_rfl).symm.trans hf) |>.symm
      obtain rfl : fn = Tryz.f6 := (Option.some.inj (Tryz.func6.symm.trans hfn)).symm
      exact ⟨by kernel_rfl, fun j t ht => by
        rw [Tryz.params6] at ht
        have hm : t ∈ [3] := by simpa using Array.mem_of_getElem? ht
        have hall : ([3].all fun u => !Tryz.prog.wantsStandIn u) = true := by kernel_rfl
        exact (show Tryz.prog.wantsStandIn t = false by simpa using List.all_eq_true.1 hall t hm)⟩)
    (by as_aux_lemma => kernel_rfl)
#print axioms runWays_card
end Go.Proofs.YtlmmhkcimjjakaaGreatDoor
