/- gantlinelaw26.TraceShows returns true, whatever the world in which it is called; condition: the package variables that its row lists hold what the program's text lays in them. -/
import Derived.Test.YtdccenbljfanpaaGreatDoorDoor
import Derived.Test.YtdccenbljfanpaaGreatDoorAdY
import Derived.Test.YtdccenbljfanpaaGreatDoorShB
import Derived.Test.YtdccenbljfanpaaGreatDoorShowsFacts
import Derived.Test.YtdccenbljfanpaaGreatDoorKTie
import Derived.Test.YtdccenbljfanpaaGreatDoorKGo
import Derived.Test.YtdccenbljfanpaaGreatDoorCards
import Derived.SevenTiedAt
import Derived.Carry
namespace Go.Proofs.YtdccenbljfanpaaGreatDoor
open Go.ChangeShapes Go.WideShapes Go.RowKit Go.Ab

set_option maxRecDepth 100000 in
theorem traceShows_lifted (os : Os) (started : os.Started) (H : Type) (enc : TypeId × Value → H) :
    ReturnsInHanded {} Tryz.checked os 4 .any (fun w args => (Rows.traceShowsSpec.pre enc Tryz.prog Tryz.f4 [] false w args ∧ laidMetH Tryz.prog laidOne w) ∧ sizedMet enc Tryz.prog Tryz.f4 (OpenSpec.ofChange Rows.traceShowsSpec) false w args)
      (Rows.traceShowsSpec.post enc Tryz.prog Tryz.f4 false true false false) := by
  refine returnsInHanded_of_change_and (C := Tryz.checked) (X := fun w _ => laidMetH Tryz.prog laidOne w) (fun _ _ _ hh h => h.of_heap hh) own started (by kernel_rfl) Tryz.func4
    (ChangeSpec.witness_shaped (enc := enc) (C := Tryz.checked) (os := os) (X := fun w _ => laidMetH Tryz.prog laidOne w) false (World.doorLaid Tryz.prog 400 os) #[.slice none 0 0, .int .i64 0, .int .i64 0] 8 rfl (World.shaped_of_RefB (by kernel_rfl) (by kernel_rfl)) (by kernel_rfl) (by kernel_rfl) (by kernel_rfl) (door_met os _)) ?_
  intro W base args ds gs before hval0 hW _ _ hL _
  have hW' := hW
  have hval : ∀ (j : Nat) t v, Tryz.f4.params[j]? = some t → args[j]? = some v → Value.okWide Tryz.prog W .any base t v := hval0
  obtain ⟨p, q, hA0, hV, rfl, hfz, hnd⟩ := hW
  have hA : DataW.TrodAll enc Tryz.prog W 0 (fun _ => true) true Tryz.f4.params.toList args.toList ds p := hA0
  rw [Tryz.params4] at hA hval
  obtain ⟨v0, v1, v2, d0, d1, d2, p0, p1, p2, rfl, rfl, rfl, h0, h1, h2⟩ := trodAll_three hA
  obtain ⟨rfl, rfl⟩ := trodVars_none hV
  obtain ⟨x1, rfl, rfl, rfl, wx1⟩ := open_int Tryz.underlying3 (hval 1 3 v1 rfl rfl) h1
  obtain ⟨x2, rfl, rfl, rfl, wx2⟩ := open_int Tryz.underlying3 (hval 2 3 v2 rfl rfl) h2
  simp only [List.append_nil] at hW'
  obtain ⟨c0, el0, fr0, hb0, hc0⟩ := pow_laid hL
  obtain ⟨A, v, ρ, hid, hv, hlen, hHR, hG, hno, hvr⟩ := acts_in (hval 0 26 v0 rfl rfl) h0 hb0 hc0
  refine (calls_of_call (evH_sound mixed (prims4_ok _) V_tabOK 1000) hHR hG hno (args := [v, .int .i64 x1, .int .i64 x2]) (args' := [v0, .int .i64 x1, .int .i64 x2]) ⟨_, _, rfl, hvr, ⟨_, _, rfl, rfl, ⟨_, _, rfl, rfl, rfl⟩⟩⟩ (Shows_run A hid v hv hlen x1 x2 (bounds_i64 wx1) (bounds_i64 wx2))).mono ?_
  rintro e W' ⟨rfl, hb⟩
  refine ⟨_, rfl, ?_⟩
  have hs0 := Below.trod traceShows_f2 (by kernel_rfl) (by decide +kernel) h0 hb fun x hx => hW'.lt x (by simpa using hx)
  exact ⟨_, _, _, [], _, [], hW', trodAll_mk1 (shut_bool Tryz.underlying4 _), trodAll_mk3 hs0 (shut_int Tryz.underlying3 wx1) (shut_int Tryz.underlying3 wx2), rfl, hb.frame _, fun h => by cases h⟩

theorem traceShows_holds : Rows.TraceShowsSaid :=
  OpenClaim.holds_of_wide 4 Tryz.f4 rfl rfl rfl rfl rfl rfl rfl ⟨rfl, rfl, rfl, rfl, rfl⟩ rfl rfl rfl rfl rfl (by as_aux_lemma => kernel_rfl) Tryz.func4 traceShows_joined
    (of_decide_eq_true (by as_aux_lemma => kernel_rfl)) (by unfold Func.isWrapper; first | (rw [if_pos (by decide +kernel)]; kernel_rfl) | (rw [if_neg (by decide +kernel)]; exact ⟨rfl, rfl⟩))
    (fun os started H enc _ => traceShows_lifted os started H enc)

theorem traceShows_wf : Rows.traceShowsRow.wfByText (OpenSpec.ofChange Rows.traceShowsSpec) = true := by kernel_rfl
theorem traceShows_main : Tryz.pinned.checked.prog.mainIs = some (true, "2817a2d4eb5d1cb8ca7f18b094bd441ca32eba3842ec92eba2523f053a9b036f".toList) := by kernel_rfl
theorem traceShows_fnamed : Tryz.prog.funcNamed "gantline/gantlinelaw26.TraceShows" = some 4 := by kernel_rfl
theorem traceShows_looks : false = Tryz.pinned.checked.prog.looks [] := by kernel_rfl
theorem traceShows_goes : false = Rows.traceShowsRow.goesBy Tryz.pinned.checked.prog := (goesAt_of_none kgo _).symm

theorem traceShows_card : Rows.TraceShowsCardSaid :=
  Claim7.holds_tied_plain_at .later [] [.data, .data, .data] true (true, "2817a2d4eb5d1cb8ca7f18b094bd441ca32eba3842ec92eba2523f053a9b036f") false
    traceShows_holds (fun _ h => by cases h) traceShows_wf (fun _ h => by cases h) traceShows_row_ktie rfl ⟨rfl, rfl⟩ traceShows_main rfl
    (fun f fn hf hfn => by
      obtain rfl : f = 4 := Option.some.inj (traceShows_fnamed.symm.trans hf) |>.symm
      obtain rfl : fn = Tryz.f4 := (Option.some.inj (Tryz.func4.symm.trans hfn)).symm
      exact ⟨traceShows_looks, fun j t ht => by
        rw [Tryz.params4] at ht
        have hm : t ∈ [26, 3, 3] := by simpa using Array.mem_of_getElem? ht
        have hall : ([26, 3, 3].all fun u => !Tryz.prog.wantsStandIn u) = true := by kernel_rfl
        exact (show Tryz.prog.wantsStandIn t = false by simpa using List.all_eq_true.1 hall t hm)⟩)
    traceShows_goes
#print axioms traceShows_card
end Go.Proofs.YtdccenbljfanpaaGreatDoor
