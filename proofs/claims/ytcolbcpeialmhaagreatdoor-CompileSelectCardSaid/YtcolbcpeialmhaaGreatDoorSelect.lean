/- CompileSelect returns true, whatever its arguments and the world in which it is called; condition: the package variables that its row lists hold what the program's text lays in them. -/
import Derived.Test.YtcolbcpeialmhaaGreatDoorDoor
import Derived.Test.YtcolbcpeialmhaaGreatDoorA2
import Derived.Test.YtcolbcpeialmhaaGreatDoorXSR
import Derived.Test.YtcolbcpeialmhaaGreatDoorSelectFacts
import Derived.Test.YtcolbcpeialmhaaGreatDoorKTie
import Derived.Test.YtcolbcpeialmhaaGreatDoorKGo
import Derived.Test.YtcolbcpeialmhaaGreatDoorCards
import Derived.SevenTiedAt
namespace Go.Proofs.YtcolbcpeialmhaaGreatDoor
open Go.ChangeShapes Go.WideShapes Go.RowKit Go.Ab
set_option maxRecDepth 100000 in
theorem gR (os : Os) (started : os.Started) (H : Type) (enc : TypeId × Value → H) :
 ReturnsInHanded {} Tryz.checked os 5 .any (fun w args => (Rows.compileSelectSpec.pre enc Tryz.prog Tryz.f5 [] false w args ∧ laidMetH Tryz.prog ju w) ∧ sizedMet enc Tryz.prog Tryz.f5 (OpenSpec.ofChange Rows.compileSelectSpec) false w args)
  (Rows.compileSelectSpec.post enc Tryz.prog Tryz.f5 false true false false) := by
 refine returnsInHanded_of_change_and (C := Tryz.checked) (X := fun w _ => laidMetH Tryz.prog ju w) (fun _ _ _ hh h => h.of_heap hh) own started (by kernel_rfl) Tryz.func5
  (ChangeSpec.witness_shaped (enc := enc) (C := Tryz.checked) (os := os) (X := fun w _ => laidMetH Tryz.prog ju w) false (World.doorLaid Tryz.prog 400 os) #[.bool false, .bool false, .int .u32 0] 8 rfl (World.shaped_of_RefB (by kernel_rfl) (by kernel_rfl)) (by kernel_rfl) (by kernel_rfl) (by kernel_rfl) (HB os _)) ?_
 intro W base args ds gs before hval0 hW _ _ hL _
 have hW' := hW
 have hval : ∀ (j : Nat) t v, Tryz.f5.params[j]? = some t → args[j]? = some v → Value.okWide Tryz.prog W .any base t v := hval0
 obtain ⟨p, q, hA0, hV, rfl, hfz, hnd⟩ := hW
 have hA : DataW.TrodAll enc Tryz.prog W 0 (fun _ => true) true Tryz.f5.params.toList args.toList ds p := hA0
 rw [Tryz.params5] at hA hval
 obtain ⟨v0, v1, v2, d0, d1, d2, p0, p1, p2, rfl, rfl, rfl, h0, h1, h2⟩ := trodAll_three hA
 obtain ⟨rfl, rfl⟩ := trodVars_none hV
 obtain ⟨x0, rfl, rfl, rfl⟩ := open_bool Tryz.underlying4 (hval 0 4 v0 rfl rfl) h0
 obtain ⟨x1, rfl, rfl, rfl⟩ := open_bool Tryz.underlying4 (hval 1 4 v1 rfl rfl) h1
 obtain ⟨x2, rfl, rfl, rfl, wx2⟩ := open_int Tryz.underlying22 (hval 2 22 v2 rfl rfl) h2
 simp only [List.append_nil] at hW'
 obtain ⟨k, hHR, hG, hno⟩ := LA hL
 obtain ⟨pr, hpr, hrun⟩ := yb x0 x1 x2
 refine (pA (qq a1h (hpr _) Ea 1000) hHR hG hno (args := [.bool x0, .bool x1, .int .u32 x2]) (args' := [.bool x0, .bool x1, .int .u32 x2]) ⟨_, _, rfl, rfl, ⟨_, _, rfl, rfl, ⟨_, _, rfl, rfl, rfl⟩⟩⟩ hrun).mono ?_
 rintro e W' ⟨rfl, hb⟩
 refine ⟨_, rfl, ?_⟩
 exact ⟨_, _, _, [], _, [], hW', trodAll_mk1 (shut_bool Tryz.underlying4 _), trodAll_mk3 (shut_bool Tryz.underlying4 _) (shut_bool Tryz.underlying4 _) (shut_int Tryz.underlying22 wx2), rfl, hb.frame _, fun h => by cases h⟩
theorem il : Rows.CompileSelectSaid :=
 OpenClaim.holds_of_wide 5 Tryz.f5 rfl rfl rfl rfl rfl rfl rfl ⟨rfl, rfl, rfl, rfl, rfl⟩ rfl rfl rfl rfl rfl (by as_aux_lemma => kernel_rfl) Tryz.func5 gS
  (of_decide_eq_true (by as_aux_lemma => kernel_rfl)) (by unfold Func.isWrapper; first | (rw [if_pos (by decide +kernel)]; kernel_rfl) | (rw [if_neg (by decide +kernel)]; exact ⟨rfl, rfl⟩))
  (fun os started H enc _ => gR os started H enc)
theorem kQ : Rows.compileSelectRow.wfByText (OpenSpec.ofChange Rows.compileSelectSpec) = true := by kernel_rfl
theorem iT : Tryz.pinned.checked.prog.mainIs = some (true, "46ce3697f7225a6e1ab7f895607f3140ae30b82fbbd1d0769c253943e1716b1e".toList) := by kernel_rfl
theorem compileSelect_fnamed : Tryz.prog.funcNamed "gantline/gantlinelaw25.CompileSelect" = some 5 := by kernel_rfl
theorem ik : true = Tryz.pinned.checked.prog.looks [] := by kernel_rfl
theorem iU : false = Rows.compileSelectRow.goesBy Tryz.pinned.checked.prog := (ny kgo _).symm
theorem compileSelect_card : Rows.CompileSelectCardSaid :=
 Claim7.holds_tied_plain_at .later [] [.sentinel, .sentinel, .data, .data, .data] true (true, "46ce3697f7225a6e1ab7f895607f3140ae30b82fbbd1d0769c253943e1716b1e") true
  il (fun _ h => by cases h) kQ (fun _ h => by cases h) fP rfl ⟨rfl, rfl⟩ iT rfl
  (fun f fn hf hfn => by
   obtain rfl : f = 5 := Option.some.inj (compileSelect_fnamed.symm.trans hf) |>.symm
   obtain rfl : fn = Tryz.f5 := (Option.some.inj (Tryz.func5.symm.trans hfn)).symm
   exact ⟨ik, fun j t ht => by
    rw [Tryz.params5] at ht
    have hm : t ∈ [4, 4, 22] := by simpa using Array.mem_of_getElem? ht
    have hall : ([4, 4, 22].all fun u => !Tryz.prog.wantsStandIn u) = true := by kernel_rfl
    exact (show Tryz.prog.wantsStandIn t = false by simpa using List.all_eq_true.1 hall t hm)⟩)
  iU
#print axioms compileSelect_card
end Go.Proofs.YtcolbcpeialmhaaGreatDoor
