/- CompileCalls returns true, whatever its arguments and the world in which it is called; condition: the package variables that its row lists hold what the program's text lays in them. -/
import Derived.Test.YtlmcgeiacfbdnaaGreatDoorDoorC
import Derived.Test.YtlmcgeiacfbdnaaGreatDoorA2
import Derived.Test.YtlmcgeiacfbdnaaGreatDoorCKR
import Derived.Test.YtlmcgeiacfbdnaaGreatDoorCallsFacts
import Derived.Test.YtlmcgeiacfbdnaaGreatDoorKTie
import Derived.Test.YtlmcgeiacfbdnaaGreatDoorKGo
import Derived.Test.YtlmcgeiacfbdnaaGreatDoorCards
import Derived.SevenTiedAt
namespace Go.Proofs.YtlmcgeiacfbdnaaGreatDoor
open Go.ChangeShapes Go.WideShapes Go.RowKit Go.Ab
set_option maxRecDepth 100000 in
theorem compileCalls_lifted (os : Os) (started : os.Started) (H : Type) (enc : TypeId × Value → H) :
 ReturnsInHanded {} Tryz.checked os 4 .any (fun w args => (Rows.compileCallsSpec.pre enc Tryz.prog Tryz.f4 [] false w args ∧ laidMetH Tryz.prog laidOne w) ∧ sizedMet enc Tryz.prog Tryz.f4 (OpenSpec.ofChange Rows.compileCallsSpec) false w args)
  (Rows.compileCallsSpec.post enc Tryz.prog Tryz.f4 false true false false) := by
 refine returnsInHanded_of_change_and (C := Tryz.checked) (X := fun w _ => laidMetH Tryz.prog laidOne w) (fun _ _ _ hh h => h.of_heap hh) own started (by kernel_rfl) Tryz.func4
  (ChangeSpec.witness_shaped (enc := enc) (C := Tryz.checked) (os := os) (X := fun w _ => laidMetH Tryz.prog laidOne w) false (World.doorLaid Tryz.prog 400 os) #[.int .i64 0, .int .u32 0] 8 rfl (World.shaped_of_RefB (by kernel_rfl) (by kernel_rfl)) (by kernel_rfl) (by kernel_rfl) (by kernel_rfl) (door_met os _)) ?_
 intro W base args ds gs before hval0 hW _ _ hL _
 have hW' := hW
 have hval : ∀ (j : Nat) t v, Tryz.f4.params[j]? = some t → args[j]? = some v → Value.okWide Tryz.prog W .any base t v := hval0
 obtain ⟨p, q, hA0, hV, rfl, hfz, hnd⟩ := hW
 have hA : DataW.TrodAll enc Tryz.prog W 0 (fun _ => true) true Tryz.f4.params.toList args.toList ds p := hA0
 rw [Tryz.params4] at hA hval
 obtain ⟨v0, v1, d0, d1, p0, p1, rfl, rfl, rfl, h0, h1⟩ := trodAll_two hA
 obtain ⟨rfl, rfl⟩ := trodVars_none hV
 obtain ⟨x0, rfl, rfl, rfl, wx0⟩ := open_int Tryz.underlying3 (hval 0 3 v0 rfl rfl) h0
 obtain ⟨x1, rfl, rfl, rfl, wx1⟩ := open_int Tryz.underlying22 (hval 1 22 v1 rfl rfl) h1
 simp only [List.append_nil] at hW'
 obtain ⟨k, hHR, hG, hno⟩ := of_laid hL
 obtain ⟨pr, hpr, hrun⟩ := Calls_run x0 x1
 refine (calls_of_call (evH_sound mixed (hpr _) V_tabOK 1000) hHR hG hno (args := [.int .i64 x0, .int .u32 x1]) (args' := [.int .i64 x0, .int .u32 x1]) ⟨_, _, rfl, rfl, ⟨_, _, rfl, rfl, rfl⟩⟩ hrun).mono ?_
 rintro e W' ⟨rfl, hb⟩
 refine ⟨_, rfl, ?_⟩
 exact ⟨_, _, _, [], _, [], hW', trodAll_mk1 (shut_bool Tryz.underlying4 _), trodAll_mk2 (shut_int Tryz.underlying3 wx0) (shut_int Tryz.underlying22 wx1), rfl, hb.frame _, fun h => by cases h⟩
theorem compileCalls_holds : Rows.CompileCallsSaid :=
 OpenClaim.holds_of_wide 4 Tryz.f4 rfl rfl rfl rfl rfl rfl rfl ⟨rfl, rfl, rfl, rfl, rfl⟩ rfl rfl rfl rfl rfl (by as_aux_lemma => kernel_rfl) Tryz.func4 compileCalls_joined
  (of_decide_eq_true (by as_aux_lemma => kernel_rfl)) (by unfold Func.isWrapper; first | (rw [if_pos (by decide +kernel)]; kernel_rfl) | (rw [if_neg (by decide +kernel)]; exact ⟨rfl, rfl⟩))
  (fun os started H enc _ => compileCalls_lifted os started H enc)
theorem compileCalls_wf : Rows.compileCallsRow.wfByText (OpenSpec.ofChange Rows.compileCallsSpec) = true := by kernel_rfl
theorem compileCalls_main : Tryz.pinned.checked.prog.mainIs = some (true, "40be974198051bc76e37d03d47bec7736c1d287a26e465d2e29eb60cde98883b".toList) := by kernel_rfl
theorem compileCalls_fnamed : Tryz.prog.funcNamed "gantline/gantlinelaw25.CompileCalls" = some 4 := by kernel_rfl
theorem compileCalls_looks : true = Tryz.pinned.checked.prog.looks [] := by kernel_rfl
theorem compileCalls_goes : false = Rows.compileCallsRow.goesBy Tryz.pinned.checked.prog := (goesAt_of_none kgo _).symm
theorem compileCalls_card : Rows.CompileCallsCardSaid :=
 Claim7.holds_tied_plain_at .later [] [.sentinel, .sentinel, .data, .data, .data] true (true, "40be974198051bc76e37d03d47bec7736c1d287a26e465d2e29eb60cde98883b") true
  compileCalls_holds (fun _ h => by cases h) compileCalls_wf (fun _ h => by cases h) compileCalls_row_ktie rfl ⟨rfl, rfl⟩ compileCalls_main rfl
  (fun f fn hf hfn => by
   obtain rfl : f = 4 := Option.some.inj (compileCalls_fnamed.symm.trans hf) |>.symm
   obtain rfl : fn = Tryz.f4 := (Option.some.inj (Tryz.func4.symm.trans hfn)).symm
   exact ⟨compileCalls_looks, fun j t ht => by
    rw [Tryz.params4] at ht
    have hm : t ∈ [3, 22] := by simpa using Array.mem_of_getElem? ht
    have hall : ([3, 22].all fun u => !Tryz.prog.wantsStandIn u) = true := by kernel_rfl
    exact (show Tryz.prog.wantsStandIn t = false by simpa using List.all_eq_true.1 hall t hm)⟩)
  compileCalls_goes
#print axioms compileCalls_card
end Go.Proofs.YtlmcgeiacfbdnaaGreatDoor
