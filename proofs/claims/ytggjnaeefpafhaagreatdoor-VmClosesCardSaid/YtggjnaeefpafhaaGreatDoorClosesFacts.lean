/- The closed facts of this seat and of VmCloses. -/
import Derived.Test.YtggjnaeefpafhaaGreatDoorAbV
import Derived.KernelRfl
import Derived.Test.YtggjnaeefpafhaaGreatDoorRows
namespace Go.Proofs.YtggjnaeefpafhaaGreatDoor
open Go.Ab
set_option maxRecDepth 100000
theorem vmCloses_f2 : laidOutB Tryz.prog = true := by kernel_rfl
theorem vmCloses_f3 : mapsRowed Tryz.prog = true := by kernel_rfl
theorem vmCloses_f23 : (false == Tryz.prog.plainKeys) = true := by kernel_rfl
theorem vmCloses_f25 : Tryz.prog.stopsHeard = true := by kernel_rfl
theorem vmCloses_f26 : Tryz.prog.mayEnter = true := by kernel_rfl
theorem vmCloses_f27 : (Rows.vmClosesRow.lifted == Tryz.prog.liftsFinal) = true := by kernel_rfl
theorem vmCloses_f28 : (Tryz.prog.make == some Rows.vmClosesRow.make) = true := by kernel_rfl
theorem vmCloses_f7 : (Tryz.prog.stops == []) = true := by kernel_rfl
theorem vmCloses_f9 : (Tryz.prog.stopKnobs == []) = true := by kernel_rfl
theorem vmCloses_f10 : (Rows.vmClosesRow.inPlace == Tryz.prog.inPlace 7) = true := by kernel_rfl
theorem vmCloses_f11 : (Rows.vmClosesRow.unfollowed == Tryz.prog.unfollowed 7) = true := by kernel_rfl
theorem vmCloses_f12 : (Rows.vmClosesRow.recurses == Tryz.prog.recurses 7) = true := by kernel_rfl
theorem vmCloses_f13 : (Rows.vmClosesRow.named == Tryz.prog.varsNamed 7) = true := by kernel_rfl
theorem vmCloses_joined : joinedFacts Tryz.prog 7 Tryz.f7 Rows.vmClosesSpec Rows.vmClosesRow = true :=
  joined_of (by as_aux_lemma => kernel_rfl) vmCloses_f2 vmCloses_f3 (by as_aux_lemma => kernel_rfl) (by as_aux_lemma => kernel_rfl) rfl vmCloses_f7 rfl vmCloses_f9 vmCloses_f10 vmCloses_f11 vmCloses_f12 vmCloses_f13
    (by as_aux_lemma => kernel_rfl) (by as_aux_lemma => kernel_rfl) (by as_aux_lemma => kernel_rfl) (by as_aux_lemma => kernel_rfl) (by as_aux_lemma => kernel_rfl) (by as_aux_lemma => kernel_rfl) (by as_aux_lemma => kernel_rfl) (by as_aux_lemma => kernel_rfl) (by as_aux_lemma => kernel_rfl)
    vmCloses_f23 rfl vmCloses_f25 vmCloses_f26 vmCloses_f27 vmCloses_f28 rfl rfl (by as_aux_lemma => kernel_rfl) (by as_aux_lemma => kernel_rfl) (by as_aux_lemma => kernel_rfl)
end Go.Proofs.YtggjnaeefpafhaaGreatDoor
