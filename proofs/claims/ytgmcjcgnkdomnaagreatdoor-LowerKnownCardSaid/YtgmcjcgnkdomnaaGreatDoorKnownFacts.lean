/- The closed facts of this seat and of LowerKnown. -/
import Derived.Test.YtgmcjcgnkdomnaaGreatDoorAbV
import Derived.KernelRfl
import Derived.Test.YtgmcjcgnkdomnaaGreatDoorRows
namespace Go.Proofs.YtgmcjcgnkdomnaaGreatDoor
open Go.Ab
set_option maxRecDepth 100000
theorem lowerKnown_f2 : laidOutB Tryz.prog = true := by kernel_rfl
theorem lowerKnown_f3 : mapsRowed Tryz.prog = true := by kernel_rfl
theorem lowerKnown_f23 : (Rows.lowerKnownRow.plainKeys == Tryz.prog.plainKeys) = true := by kernel_rfl
theorem lowerKnown_f25 : Tryz.prog.stopsHeard = true := by kernel_rfl
theorem lowerKnown_f26 : Tryz.prog.mayEnter = true := by kernel_rfl
theorem lowerKnown_f27 : (Rows.lowerKnownRow.lifted == Tryz.prog.liftsFinal) = true := by kernel_rfl
theorem lowerKnown_f28 : (Tryz.prog.make == some Rows.lowerKnownRow.make) = true := by kernel_rfl
theorem lowerKnown_f7 : (Tryz.prog.stops == []) = true := by kernel_rfl
theorem lowerKnown_f9 : (Tryz.prog.stopKnobs == []) = true := by kernel_rfl
theorem lowerKnown_f10 : (Rows.lowerKnownRow.inPlace == Tryz.prog.inPlace 3) = true := by kernel_rfl
theorem lowerKnown_f11 : (Rows.lowerKnownRow.unfollowed == Tryz.prog.unfollowed 3) = true := by kernel_rfl
theorem lowerKnown_f12 : (Rows.lowerKnownRow.recurses == Tryz.prog.recurses 3) = true := by kernel_rfl
theorem lowerKnown_f13 : (Rows.lowerKnownRow.named == Tryz.prog.varsNamed 3) = true := by kernel_rfl
theorem lowerKnown_joined : joinedFacts Tryz.prog 3 Tryz.f3 Rows.lowerKnownSpec Rows.lowerKnownRow = true :=
  joined_of (by as_aux_lemma => kernel_rfl) lowerKnown_f2 lowerKnown_f3 (by as_aux_lemma => kernel_rfl) (by as_aux_lemma => kernel_rfl) rfl lowerKnown_f7 rfl lowerKnown_f9 lowerKnown_f10 lowerKnown_f11 lowerKnown_f12 lowerKnown_f13
    (by as_aux_lemma => kernel_rfl) (by as_aux_lemma => kernel_rfl) (by as_aux_lemma => kernel_rfl) (by as_aux_lemma => kernel_rfl) (by as_aux_lemma => kernel_rfl) (by as_aux_lemma => kernel_rfl) (by as_aux_lemma => kernel_rfl) (by as_aux_lemma => kernel_rfl) (by as_aux_lemma => kernel_rfl)
    lowerKnown_f23 rfl lowerKnown_f25 lowerKnown_f26 lowerKnown_f27 lowerKnown_f28 rfl rfl (by as_aux_lemma => kernel_rfl) (by as_aux_lemma => kernel_rfl) (by as_aux_lemma => kernel_rfl)
end Go.Proofs.YtgmcjcgnkdomnaaGreatDoor
