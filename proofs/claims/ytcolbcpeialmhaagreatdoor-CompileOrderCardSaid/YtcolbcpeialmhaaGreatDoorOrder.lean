/- CompileOrder returns true, whatever its arguments and the world in which it is called; condition: the package variables that its row lists hold what the program's text lays in them. -/
import Derived.Test.YtcolbcpeialmhaaGreatDoorDoor
import Derived.Test.YtcolbcpeialmhaaGreatDoorA2
import Derived.Test.YtcolbcpeialmhaaGreatDoorXOR
import Derived.Test.YtcolbcpeialmhaaGreatDoorOrderFacts
import Derived.Test.YtcolbcpeialmhaaGreatDoorKTie
import Derived.Test.YtcolbcpeialmhaaGreatDoorKGo
import Derived.Test.YtcolbcpeialmhaaGreatDoorCards
import Derived.SevenTiedAt
namespace Go.Proofs.YtcolbcpeialmhaaGreatDoor
open Go.ChangeShapes Go.WideShapes Go.RowKit Go.Ab
set_option maxRecDepth 100000 in
theorem compileOrder_lifted (os : Os) (started : os.Started) (H : Type) (enc : TypeId × Value → H) :
 ReturnsInHanded {} Tryz.checked os 3 .any (fun w args => (Rows.compileOrderSpec.pre enc Tryz.prog Tryz.f3 [] false w args ∧ laidMetH Tryz.prog laidOne w) ∧ sizedMet enc Tryz.prog Tryz.f3 (OpenSpec.ofChange Rows.compileOrderSpec) false w args)
  (Rows.compileOrderSpec.post enc Tryz.prog Tryz.f3 false true false false) := by
 refine returnsInHanded_of_change_and (C := Tryz.checked) (X := fun w _ => laidMetH Tryz.prog laidOne w) (fun _ _ _ hh h => h.of_heap hh) own started (by kernel_rfl) Tryz.func3
  (ChangeSpec.witness_shaped (enc := enc) (C := Tryz.checked) (os := os) (X := fun w _ => laidMetH Tryz.prog laidOne w) false (World.doorLaid Tryz.prog 400 os) #[.bool false, .bool false, .int .u32 0] 8 rfl (World.shaped_of_RefB (by kernel_rfl) (by kernel_rfl)) (by kernel_rfl) (by kernel_rfl) (by kernel_rfl) (door_met os _)) ?_
 intro W base args ds gs before hval0 hW _ _ hL _
 have hW' := hW
 have hval : ∀ (j : Nat) t v, Tryz.f3.params[j]? = some t → args[j]? = some v → Value.okWide Tryz.prog W .any base t v := hval0
 obtain ⟨p, q, hA0, hV, rfl, hfz, hnd⟩ := hW
 have hA : DataW.TrodAll enc Tryz.prog W 0 (fun _ => true) true Tryz.f3.params.toList args.toList ds p := hA0
 rw [Tryz.params3] at hA hval
 obtain ⟨v0, v1, v2, d0, d1, d2, p0, p1, p2, rfl, rfl, rfl, h0, h1, h2⟩ := trodAll_three hA
 obtain ⟨rfl, rfl⟩ := trodVars_none hV
 obtain ⟨x0, rfl, rfl, rfl⟩ := open_bool Tryz.underlying4 (hval 0 4 v0 rfl rfl) h0
 obtain ⟨x1, rfl, rfl, rfl⟩ := open_bool Tryz.underlying4 (hval 1 4 v1 rfl rfl) h1
 obtain ⟨x2, rfl, rfl, rfl, wx2⟩ := open_int Tryz.underlying22 (hval 2 22 v2 rfl rfl) h2
 simp only [List.append_nil] at hW'
 obtain ⟨k, hHR, hG, hno⟩ := of_laid hL
 obtain ⟨pr, hpr, hrun⟩ := Order_run x0 x1 x2
 refine (calls_of_call (evH_sound mixed (hpr _) V_tabOK 1000) hHR hG hno (args := [.bool x0, .bool x1, .int .u32 x2]) (args' := [.bool x0, .bool x1, .int .u32 x2]) ⟨_, _, rfl, rfl, ⟨_, _, rfl, rfl, ⟨_, _, rfl, rfl, rfl⟩⟩⟩ hrun).mono ?_
 rintro e W' ⟨rfl, hb⟩
 refine ⟨_, rfl, ?_⟩
 exact ⟨_, _, _, [], _, [], hW', trodAll_mk1 (shut_bool Tryz.underlying4 _), trodAll_mk3 (shut_bool Tryz.underlying4 _) (shut_bool Tryz.underlying4 _) (shut_int Tryz.underlying22 wx2), rfl, hb.frame _, fun h => by cases h⟩
theorem compileOrder_holds : Rows.CompileOrderSaid :=
 OpenClaim.holds_of_wide 3 Tryz.f3 rfl rfl rfl rfl rfl rfl rfl ⟨rfl, rfl, rfl, rfl, rfl⟩ rfl rfl rfl rfl rfl (by as_aux_lemma => kernel_rfl) Tryz.func3 compileOrder_joined
  (of_decide_eq_true (by as_aux_lemma => kernel_rfl)) (by unfold Func.isWrapper; first | (rw [if_pos (by decide +kernel)]; kernel_rfl) | (rw [if_neg (by decide +kernel)]; exact ⟨rfl, rfl⟩))
  (fun os started H enc _ => compileOrder_lifted os started H enc)
theorem compileOrder_wf : Rows.compileOrderRow.wfByText (OpenSpec.ofChange Rows.compileOrderSpec) = true := by kernel_rfl
theorem compileOrder_main : Tryz.pinned.checked.prog.mainIs = some (true, "46ce3697f7225a6e1ab7f895607f3140ae30b82fbbd1d0769c253943e1716b1e".toList) := by kernel_rfl
theorem compileOrder_fnamed : Tryz.prog.funcNamed "gantline/gantlinelaw25.CompileOrder" = some 3 := by kernel_rfl
theorem compileOrder_looks : true = Tryz.pinned.checked.prog.looks [] := by kernel_rfl
theorem compileOrder_goes : false = Rows.compileOrderRow.goesBy Tryz.pinned.checked.prog := (goesAt_of_none kgo _).symm
theorem compileOrder_card : Rows.CompileOrderCardSaid :=
 Claim7.holds_tied_plain_at .later [] [.sentinel, .sentinel, .data, .data, .data] true (true, "46ce3697f7225a6e1ab7f895607f3140ae30b82fbbd1d0769c253943e1716b1e") true
  compileOrder_holds (fun _ h => by cases h) compileOrder_wf (fun _ h => by cases h) compileOrder_row_ktie rfl ⟨rfl, rfl⟩ compileOrder_main rfl
  (fun f fn hf hfn => by
   obtain rfl : f = 3 := Option.some.inj (compileOrder_fnamed.symm.trans hf) |>.symm
   obtain rfl : fn = Tryz.f3 := (Option.some.inj (Tryz.func3.symm.trans hfn)).symm
   exact ⟨compileOrder_looks, fun j t ht => by
    rw [Tryz.params3] at ht
    have hm : t ∈ [4, 4, 22] := by simpa using Array.mem_of_getElem? ht
    have hall : ([4, 4, 22].all fun u => !Tryz.prog.wantsStandIn u) = true := by kernel_rfl
    exact (show Tryz.prog.wantsStandIn t = false by simpa using List.all_eq_true.1 hall t hm)⟩)
  compileOrder_goes
#print axioms compileOrder_card
end Go.Proofs.YtcolbcpeialmhaaGreatDoor
