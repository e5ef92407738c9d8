/- The closed facts of this seat and of CompileCalls. -/
import Derived.Test.YtlmcgeiacfbdnaaGreatDoorA2
import Derived.KernelRfl
import Derived.Test.YtlmcgeiacfbdnaaGreatDoorRows
namespace Go.Proofs.YtlmcgeiacfbdnaaGreatDoor
open Go.Ab
set_option maxRecDepth 100000
theorem compileCalls_f2 : laidOutB Tryz.prog = true := by kernel_rfl
theorem compileCalls_f3 : mapsRowed Tryz.prog = true := by kernel_rfl
theorem compileCalls_f23 : (Rows.compileCallsRow.plainKeys == Tryz.prog.plainKeys) = true := by kernel_rfl
theorem compileCalls_f25 : Tryz.prog.stopsHeard = true := by kernel_rfl
theorem compileCalls_f26 : Tryz.prog.mayEnter = true := by kernel_rfl
theorem compileCalls_f27 : (Rows.compileCallsRow.lifted == Tryz.prog.liftsFinal) = true := by kernel_rfl
theorem compileCalls_f28 : (Tryz.prog.make == some Rows.compileCallsRow.make) = true := by kernel_rfl
theorem compileCalls_f7 : (Tryz.prog.stops == []) = true := by kernel_rfl
theorem compileCalls_f9 : (Tryz.prog.stopKnobs == []) = true := by kernel_rfl
theorem compileCalls_f10 : (Rows.compileCallsRow.inPlace == Tryz.prog.inPlace 4) = true := by kernel_rfl
theorem compileCalls_f11 : (Rows.compileCallsRow.unfollowed == Tryz.prog.unfollowed 4) = true := by kernel_rfl
theorem compileCalls_f12 : (Rows.compileCallsRow.recurses == Tryz.prog.recurses 4) = true := by kernel_rfl
theorem compileCalls_f13 : (Rows.compileCallsRow.named == Tryz.prog.varsNamed 4) = true := by kernel_rfl
theorem compileCalls_joined : joinedFacts Tryz.prog 4 Tryz.f4 Rows.compileCallsSpec Rows.compileCallsRow = true :=
 joined_of (by as_aux_lemma => kernel_rfl) compileCalls_f2 compileCalls_f3 (by as_aux_lemma => kernel_rfl) (by as_aux_lemma => kernel_rfl) rfl compileCalls_f7 rfl compileCalls_f9 compileCalls_f10 compileCalls_f11 compileCalls_f12 compileCalls_f13
  (by as_aux_lemma => kernel_rfl) (by as_aux_lemma => kernel_rfl) (by as_aux_lemma => kernel_rfl) (by as_aux_lemma => kernel_rfl) (by as_aux_lemma => kernel_rfl) (by as_aux_lemma => kernel_rfl) (by as_aux_lemma => kernel_rfl) (by as_aux_lemma => kernel_rfl) (by as_aux_lemma => kernel_rfl)
  compileCalls_f23 rfl compileCalls_f25 compileCalls_f26 compileCalls_f27 compileCalls_f28 rfl rfl (by as_aux_lemma => kernel_rfl) (by as_aux_lemma => kernel_rfl) (by as_aux_lemma => kernel_rfl)
end Go.Proofs.YtlmcgeiacfbdnaaGreatDoor
