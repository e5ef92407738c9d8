/- The closed facts of this seat and of RunWays. -/
import Derived.Test.YtlmmhkcimjjakaaGreatDoorAbV
import Derived.KernelRfl
import Derived.Test.YtlmmhkcimjjakaaGreatDoorRows
namespace Go.Proofs.YtlmmhkcimjjakaaGreatDoor
open Go.Ab
set_option maxRecDepth 100000
theorem runWays_f2 : laidOutB Tryz.prog = true := by kernel_rfl
theorem runWays_f3 : mapsRowed Tryz.prog = true := by kernel_rfl
theorem runWays_f23 : (false == Tryz.prog.plainKeys) = true := by kernel_rfl
theorem runWays_f25 : Tryz.prog.stopsHeard = true := by kernel_rfl
theorem runWays_f26 : Tryz.prog.mayEnter = true := by kernel_rfl
theorem runWays_f27 : (Rows.runWaysRow.lifted == Tryz.prog.liftsFinal) = true := by kernel_rfl
theorem runWays_f28 : (Tryz.prog.make == some Rows.runWaysRow.make) = true := by kernel_rfl
theorem runWays_f7 : (Tryz.prog.stops == []) = true := by kernel_rfl
theorem runWays_f9 : (Tryz.prog.stopKnobs == []) = true := by kernel_rfl
theorem runWays_f10 : (Rows.runWaysRow.inPlace == Tryz.prog.inPlace 6) = true := by kernel_rfl
theorem runWays_f11 : (Rows.runWaysRow.unfollowed == Tryz.prog.unfollowed 6) = true := by kernel_rfl
theorem runWays_f12 : (Rows.runWaysRow.recurses == Tryz.prog.recurses 6) = true := by kernel_rfl
theorem runWays_f13 : (Rows.runWaysRow.named == Tryz.prog.varsNamed 6) = true := by kernel_rfl
theorem runWays_joined : joinedFacts Tryz.prog 6 Tryz.f6 Rows.runWaysSpec Rows.runWaysRow = true :=
  joined_of (by as_aux_lemma => kernel_rfl) runWays_f2 runWays_f3 (by as_aux_lemma => kernel_rfl) (by as_aux_lemma => kernel_rfl) rfl runWays_f7 rfl runWays_f9 runWays_f10 runWays_f11 runWays_f12 runWays_f13
    (by as_aux_lemma => kernel_rfl) (by as_aux_lemma => kernel_rfl) (by as_aux_lemma => kernel_rfl) (by as_aux_lemma => kernel_rfl) (by as_aux_lemma => kernel_rfl) (by as_aux_lemma => kernel_rfl) (by as_aux_lemma => kernel_rfl) (by as_aux_lemma => kernel_rfl) (by as_aux_lemma => kernel_rfl)
    runWays_f23 rfl runWays_f25 runWays_f26 runWays_f27 runWays_f28 rfl rfl (by as_aux_lemma => kernel_rfl) (by as_aux_lemma => kernel_rfl) (by as_aux_lemma => kernel_rfl)
end Go.Proofs.YtlmmhkcimjjakaaGreatDoor
