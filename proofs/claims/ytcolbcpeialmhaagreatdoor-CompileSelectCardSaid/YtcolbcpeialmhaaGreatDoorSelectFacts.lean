/- The closed facts of this seat and of CompileSelect. -/
import Derived.Test.YtcolbcpeialmhaaGreatDoorA2
import Derived.KernelRfl
import Derived.Test.YtcolbcpeialmhaaGreatDoorRows
namespace Go.Proofs.YtcolbcpeialmhaaGreatDoor
open Go.Ab
set_option maxRecDepth 100000
theorem kU : laidOutB Tryz.prog = true := by kernel_rfl
theorem kT : mapsRowed Tryz.prog = true := by kernel_rfl
theorem jI : (Rows.compileSelectRow.plainKeys == Tryz.prog.plainKeys) = true := by kernel_rfl
theorem jH : Tryz.prog.stopsHeard = true := by kernel_rfl
theorem jG : Tryz.prog.mayEnter = true := by kernel_rfl
theorem jF : (Rows.compileSelectRow.lifted == Tryz.prog.liftsFinal) = true := by kernel_rfl
theorem jE : (Tryz.prog.make == some Rows.compileSelectRow.make) = true := by kernel_rfl
theorem kS : (Tryz.prog.stops == []) = true := by kernel_rfl
theorem kR : (Tryz.prog.stopKnobs == []) = true := by kernel_rfl
theorem jM : (Rows.compileSelectRow.inPlace == Tryz.prog.inPlace 5) = true := by kernel_rfl
theorem jL : (Rows.compileSelectRow.unfollowed == Tryz.prog.unfollowed 5) = true := by kernel_rfl
theorem jK : (Rows.compileSelectRow.recurses == Tryz.prog.recurses 5) = true := by kernel_rfl
theorem jJ : (Rows.compileSelectRow.named == Tryz.prog.varsNamed 5) = true := by kernel_rfl
theorem gS : joinedFacts Tryz.prog 5 Tryz.f5 Rows.compileSelectSpec Rows.compileSelectRow = true :=
 F8 (by as_aux_lemma => kernel_rfl) kU kT (by as_aux_lemma => kernel_rfl) (by as_aux_lemma => kernel_rfl) rfl kS rfl kR jM jL jK jJ
  (by as_aux_lemma => kernel_rfl) (by as_aux_lemma => kernel_rfl) (by as_aux_lemma => kernel_rfl) (by as_aux_lemma => kernel_rfl) (by as_aux_lemma => kernel_rfl) (by as_aux_lemma => kernel_rfl) (by as_aux_lemma => kernel_rfl) (by as_aux_lemma => kernel_rfl) (by as_aux_lemma => kernel_rfl)
  jI rfl jH jG jF jE rfl rfl (by as_aux_lemma => kernel_rfl) (by as_aux_lemma => kernel_rfl) (by as_aux_lemma => kernel_rfl)
end Go.Proofs.YtcolbcpeialmhaaGreatDoor
