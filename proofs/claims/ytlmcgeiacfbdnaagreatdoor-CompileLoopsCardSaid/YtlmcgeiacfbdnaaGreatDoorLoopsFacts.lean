/- The closed facts of this seat and of CompileLoops. -/
import Derived.Test.YtlmcgeiacfbdnaaGreatDoorA2
import Derived.KernelRfl
import Derived.Test.YtlmcgeiacfbdnaaGreatDoorRows
namespace Go.Proofs.YtlmcgeiacfbdnaaGreatDoor
open Go.Ab
set_option maxRecDepth 100000
theorem compileLoops_f2 : laidOutB Tryz.prog = true := by kernel_rfl
theorem compileLoops_f3 : mapsRowed Tryz.prog = true := by kernel_rfl
theorem compileLoops_f23 : (Rows.compileLoopsRow.plainKeys == Tryz.prog.plainKeys) = true := by kernel_rfl
theorem compileLoops_f25 : Tryz.prog.stopsHeard = true := by kernel_rfl
theorem compileLoops_f26 : Tryz.prog.mayEnter = true := by kernel_rfl
theorem compileLoops_f27 : (Rows.compileLoopsRow.lifted == Tryz.prog.liftsFinal) = true := by kernel_rfl
theorem compileLoops_f28 : (Tryz.prog.make == some Rows.compileLoopsRow.make) = true := by kernel_rfl
theorem compileLoops_f7 : (Tryz.prog.stops == []) = true := by kernel_rfl
theorem compileLoops_f9 : (Tryz.prog.stopKnobs == []) = true := by kernel_rfl
theorem compileLoops_f10 : (Rows.compileLoopsRow.inPlace == Tryz.prog.inPlace 3) = true := by kernel_rfl
theorem compileLoops_f11 : (Rows.compileLoopsRow.unfollowed == Tryz.prog.unfollowed 3) = true := by kernel_rfl
theorem compileLoops_f12 : (Rows.compileLoopsRow.recurses == Tryz.prog.recurses 3) = true := by kernel_rfl
theorem compileLoops_f13 : (Rows.compileLoopsRow.named == Tryz.prog.varsNamed 3) = true := by kernel_rfl
theorem compileLoops_joined : joinedFacts Tryz.prog 3 Tryz.f3 Rows.compileLoopsSpec Rows.compileLoopsRow = true :=
 joined_of (by as_aux_lemma => kernel_rfl) compileLoops_f2 compileLoops_f3 (by as_aux_lemma => kernel_rfl) (by as_aux_lemma => kernel_rfl) rfl compileLoops_f7 rfl compileLoops_f9 compileLoops_f10 compileLoops_f11 compileLoops_f12 compileLoops_f13
  (by as_aux_lemma => kernel_rfl) (by as_aux_lemma => kernel_rfl) (by as_aux_lemma => kernel_rfl) (by as_aux_lemma => kernel_rfl) (by as_aux_lemma => kernel_rfl) (by as_aux_lemma => kernel_rfl) (by as_aux_lemma => kernel_rfl) (by as_aux_lemma => kernel_rfl) (by as_aux_lemma => kernel_rfl)
  compileLoops_f23 rfl compileLoops_f25 compileLoops_f26 compileLoops_f27 compileLoops_f28 rfl rfl (by as_aux_lemma => kernel_rfl) (by as_aux_lemma => kernel_rfl) (by as_aux_lemma => kernel_rfl)
end Go.Proofs.YtlmcgeiacfbdnaaGreatDoor
