/- The closed facts of this seat and of RunLags. -/
import Derived.Test.YtlmmhkcimjjakaaGreatDoorAbV
import Derived.KernelRfl
import Derived.Test.YtlmmhkcimjjakaaGreatDoorRows
namespace Go.Proofs.YtlmmhkcimjjakaaGreatDoor
open Go.Ab
set_option maxRecDepth 100000
theorem runLags_f2 : laidOutB Tryz.prog = true := by kernel_rfl
theorem runLags_f3 : mapsRowed Tryz.prog = true := by kernel_rfl
theorem runLags_f23 : (false == Tryz.prog.plainKeys) = true := by kernel_rfl
theorem runLags_f25 : Tryz.prog.stopsHeard = true := by kernel_rfl
theorem runLags_f26 : Tryz.prog.mayEnter = true := by kernel_rfl
theorem runLags_f27 : (Rows.runLagsRow.lifted == Tryz.prog.liftsFinal) = true := by kernel_rfl
theorem runLags_f28 : (Tryz.prog.make == some Rows.runLagsRow.make) = true := by kernel_rfl
theorem runLags_f7 : (Tryz.prog.stops == []) = true := by kernel_rfl
theorem runLags_f9 : (Tryz.prog.stopKnobs == []) = true := by kernel_rfl
theorem runLags_f10 : (Rows.runLagsRow.inPlace == Tryz.prog.inPlace 7) = true := by kernel_rfl
theorem runLags_f11 : (Rows.runLagsRow.unfollowed == Tryz.prog.unfollowed 7) = true := by kernel_rfl
theorem runLags_f12 : (Rows.runLagsRow.recurses == Tryz.prog.recurses 7) = true := by kernel_rfl
theorem runLags_f13 : (Rows.runLagsRow.named == Tryz.prog.varsNamed 7) = true := by kernel_rfl
theorem runLags_joined : joinedFacts Tryz.prog 7 Tryz.f7 Rows.runLagsSpec Rows.runLagsRow = true :=
  joined_of (by as_aux_lemma => kernel_rfl) runLags_f2 runLags_f3 (by as_aux_lemma => kernel_rfl) (by as_aux_lemma => kernel_rfl) rfl runLags_f7 rfl runLags_f9 runLags_f10 runLags_f11 runLags_f12 runLags_f13
    (by as_aux_lemma => kernel_rfl) (by as_aux_lemma => kernel_rfl) (by as_aux_lemma => kernel_rfl) (by as_aux_lemma => kernel_rfl) (by as_aux_lemma => kernel_rfl) (by as_aux_lemma => kernel_rfl) (by as_aux_lemma => kernel_rfl) (by as_aux_lemma => kernel_rfl) (by as_aux_lemma => kernel_rfl)
    runLags_f23 rfl runLags_f25 runLags_f26 runLags_f27 runLags_f28 rfl rfl (by as_aux_lemma => kernel_rfl) (by as_aux_lemma => kernel_rfl) (by as_aux_lemma => kernel_rfl)
end Go.Proofs.YtlmmhkcimjjakaaGreatDoor
