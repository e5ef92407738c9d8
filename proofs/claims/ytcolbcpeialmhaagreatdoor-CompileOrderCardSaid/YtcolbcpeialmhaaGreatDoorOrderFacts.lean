/- The closed facts of this seat and of CompileOrder. -/
import Derived.Test.YtcolbcpeialmhaaGreatDoorA2
import Derived.KernelRfl
import Derived.Test.YtcolbcpeialmhaaGreatDoorRows
namespace Go.Proofs.YtcolbcpeialmhaaGreatDoor
open Go.Ab
set_option maxRecDepth 100000
theorem compileOrder_f2 : laidOutB Tryz.prog = true := by kernel_rfl
theorem compileOrder_f3 : mapsRowed Tryz.prog = true := by kernel_rfl
theorem compileOrder_f23 : (Rows.compileOrderRow.plainKeys == Tryz.prog.plainKeys) = true := by kernel_rfl
theorem compileOrder_f25 : Tryz.prog.stopsHeard = true := by kernel_rfl
theorem compileOrder_f26 : Tryz.prog.mayEnter = true := by kernel_rfl
theorem compileOrder_f27 : (Rows.compileOrderRow.lifted == Tryz.prog.liftsFinal) = true := by kernel_rfl
theorem compileOrder_f28 : (Tryz.prog.make == some Rows.compileOrderRow.make) = true := by kernel_rfl
theorem compileOrder_f7 : (Tryz.prog.stops == []) = true := by kernel_rfl
theorem compileOrder_f9 : (Tryz.prog.stopKnobs == []) = true := by kernel_rfl
theorem compileOrder_f10 : (Rows.compileOrderRow.inPlace == Tryz.prog.inPlace 3) = true := by kernel_rfl
theorem compileOrder_f11 : (Rows.compileOrderRow.unfollowed == Tryz.prog.unfollowed 3) = true := by kernel_rfl
theorem compileOrder_f12 : (Rows.compileOrderRow.recurses == Tryz.prog.recurses 3) = true := by kernel_rfl
theorem compileOrder_f13 : (Rows.compileOrderRow.named == Tryz.prog.varsNamed 3) = true := by kernel_rfl
theorem compileOrder_joined : joinedFacts Tryz.prog 3 Tryz.f3 Rows.compileOrderSpec Rows.compileOrderRow = true :=
 joined_of (by as_aux_lemma => kernel_rfl) compileOrder_f2 compileOrder_f3 (by as_aux_lemma => kernel_rfl) (by as_aux_lemma => kernel_rfl) rfl compileOrder_f7 rfl compileOrder_f9 compileOrder_f10 compileOrder_f11 compileOrder_f12 compileOrder_f13
  (by as_aux_lemma => kernel_rfl) (by as_aux_lemma => kernel_rfl) (by as_aux_lemma => kernel_rfl) (by as_aux_lemma => kernel_rfl) (by as_aux_lemma => kernel_rfl) (by as_aux_lemma => kernel_rfl) (by as_aux_lemma => kernel_rfl) (by as_aux_lemma => kernel_rfl) (by as_aux_lemma => kernel_rfl)
  compileOrder_f23 rfl compileOrder_f25 compileOrder_f26 compileOrder_f27 compileOrder_f28 rfl rfl (by as_aux_lemma => kernel_rfl) (by as_aux_lemma => kernel_rfl) (by as_aux_lemma => kernel_rfl)
end Go.Proofs.YtcolbcpeialmhaaGreatDoor
