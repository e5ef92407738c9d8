/- The closed facts of this seat and of VmKnown. -/
import Derived.Test.YtggjnaeefpafhaaGreatDoorAbV
import Derived.KernelRfl
import Derived.Test.YtggjnaeefpafhaaGreatDoorRows
namespace Go.Proofs.YtggjnaeefpafhaaGreatDoor
open Go.Ab
set_option maxRecDepth 100000
theorem vmKnown_f2 : laidOutB Tryz.prog = true := by kernel_rfl
theorem vmKnown_f3 : mapsRowed Tryz.prog = true := by kernel_rfl
theorem vmKnown_f23 : (false == Tryz.prog.plainKeys) = true := by kernel_rfl
theorem vmKnown_f25 : Tryz.prog.stopsHeard = true := by kernel_rfl
theorem vmKnown_f26 : Tryz.prog.mayEnter = true := by kernel_rfl
theorem vmKnown_f27 : (Rows.vmKnownRow.lifted == Tryz.prog.liftsFinal) = true := by kernel_rfl
theorem vmKnown_f28 : (Tryz.prog.make == some Rows.vmKnownRow.make) = true := by kernel_rfl
theorem vmKnown_f7 : (Tryz.prog.stops == []) = true := by kernel_rfl
theorem vmKnown_f9 : (Tryz.prog.stopKnobs == []) = true := by kernel_rfl
theorem vmKnown_f10 : (Rows.vmKnownRow.inPlace == Tryz.prog.inPlace 3) = true := by kernel_rfl
theorem vmKnown_f11 : (Rows.vmKnownRow.unfollowed == Tryz.prog.unfollowed 3) = true := by kernel_rfl
theorem vmKnown_f12 : (Rows.vmKnownRow.recurses == Tryz.prog.recurses 3) = true := by kernel_rfl
theorem vmKnown_f13 : (Rows.vmKnownRow.named == Tryz.prog.varsNamed 3) = true := by kernel_rfl
theorem vmKnown_joined : joinedFacts Tryz.prog 3 Tryz.f3 Rows.vmKnownSpec Rows.vmKnownRow = true :=
  joined_of (by as_aux_lemma => kernel_rfl) vmKnown_f2 vmKnown_f3 (by as_aux_lemma => kernel_rfl) (by as_aux_lemma => kernel_rfl) rfl vmKnown_f7 rfl vmKnown_f9 vmKnown_f10 vmKnown_f11 vmKnown_f12 vmKnown_f13
    (by as_aux_lemma => kernel_rfl) (by as_aux_lemma => kernel_rfl) (by as_aux_lemma => kernel_rfl) (by as_aux_lemma => kernel_rfl) (by as_aux_lemma => kernel_rfl) (by as_aux_lemma => kernel_rfl) (by as_aux_lemma => kernel_rfl) (by as_aux_lemma => kernel_rfl) (by as_aux_lemma => kernel_rfl)
    vmKnown_f23 rfl vmKnown_f25 vmKnown_f26 vmKnown_f27 vmKnown_f28 rfl rfl (by as_aux_lemma => kernel_rfl) (by as_aux_lemma => kernel_rfl) (by as_aux_lemma => kernel_rfl)
end Go.Proofs.YtggjnaeefpafhaaGreatDoor
