/- The closed facts of this seat and of RunKnown. -/
import Derived.Test.YtlmmhkcimjjakaaGreatDoorAbV
import Derived.KernelRfl
import Derived.Test.YtlmmhkcimjjakaaGreatDoorRows
namespace Go.Proofs.YtlmmhkcimjjakaaGreatDoor
open Go.Ab
set_option maxRecDepth 100000
theorem runKnown_f2 : laidOutB Tryz.prog = true := by kernel_rfl
theorem runKnown_f3 : mapsRowed Tryz.prog = true := by kernel_rfl
theorem runKnown_f23 : (false == Tryz.prog.plainKeys) = true := by kernel_rfl
theorem runKnown_f25 : Tryz.prog.stopsHeard = true := by kernel_rfl
theorem runKnown_f26 : Tryz.prog.mayEnter = true := by kernel_rfl
theorem runKnown_f27 : (Rows.runKnownRow.lifted == Tryz.prog.liftsFinal) = true := by kernel_rfl
theorem runKnown_f28 : (Tryz.prog.make == some Rows.runKnownRow.make) = true := by kernel_rfl
theorem runKnown_f7 : (Tryz.prog.stops == []) = true := by kernel_rfl
theorem runKnown_f9 : (Tryz.prog.stopKnobs == []) = true := by kernel_rfl
theorem runKnown_f10 : (Rows.runKnownRow.inPlace == Tryz.prog.inPlace 3) = true := by kernel_rfl
theorem runKnown_f11 : (Rows.runKnownRow.unfollowed == Tryz.prog.unfollowed 3) = true := by kernel_rfl
theorem runKnown_f12 : (Rows.runKnownRow.recurses == Tryz.prog.recurses 3) = true := by kernel_rfl
theorem runKnown_f13 : (Rows.runKnownRow.named == Tryz.prog.varsNamed 3) = true := by kernel_rfl
theorem runKnown_joined : joinedFacts Tryz.prog 3 Tryz.f3 Rows.runKnownSpec Rows.runKnownRow = true :=
  joined_of (by as_aux_lemma => kernel_rfl) runKnown_f2 runKnown_f3 (by as_aux_lemma => kernel_rfl) (by as_aux_lemma => kernel_rfl) rfl runKnown_f7 rfl runKnown_f9 runKnown_f10 runKnown_f11 runKnown_f12 runKnown_f13
    (by as_aux_lemma => kernel_rfl) (by as_aux_lemma => kernel_rfl) (by as_aux_lemma => kernel_rfl) (by as_aux_lemma => kernel_rfl) (by as_aux_lemma => kernel_rfl) (by as_aux_lemma => kernel_rfl) (by as_aux_lemma => kernel_rfl) (by as_aux_lemma => kernel_rfl) (by as_aux_lemma => kernel_rfl)
    runKnown_f23 rfl runKnown_f25 runKnown_f26 runKnown_f27 runKnown_f28 rfl rfl (by as_aux_lemma => kernel_rfl) (by as_aux_lemma => kernel_rfl) (by as_aux_lemma => kernel_rfl)
end Go.Proofs.YtlmmhkcimjjakaaGreatDoor
