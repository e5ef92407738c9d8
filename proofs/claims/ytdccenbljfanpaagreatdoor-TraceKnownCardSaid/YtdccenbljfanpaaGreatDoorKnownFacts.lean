/- The closed facts of this seat and of gantlinelaw26.TraceKnown. -/
import Derived.Test.YtdccenbljfanpaaGreatDoorAbV
import Derived.KernelRfl
import Derived.Test.YtdccenbljfanpaaGreatDoorRows
namespace Go.Proofs.YtdccenbljfanpaaGreatDoor
open Go.Ab
set_option maxRecDepth 100000
theorem traceKnown_f2 : laidOutB Tryz.prog = true := by kernel_rfl
theorem traceKnown_f3 : mapsRowed Tryz.prog = true := by kernel_rfl
theorem traceKnown_f23 : (Rows.traceKnownRow.plainKeys == Tryz.prog.plainKeys) = true := by kernel_rfl
theorem traceKnown_f25 : Tryz.prog.stopsHeard = true := by kernel_rfl
theorem traceKnown_f26 : Tryz.prog.mayEnter = true := by kernel_rfl
theorem traceKnown_f27 : (Rows.traceKnownRow.lifted == Tryz.prog.liftsFinal) = true := by kernel_rfl
theorem traceKnown_f28 : (Tryz.prog.make == some Rows.traceKnownRow.make) = true := by kernel_rfl
theorem traceKnown_f7 : (Tryz.prog.stops == []) = true := by kernel_rfl
theorem traceKnown_f9 : (Tryz.prog.stopKnobs == []) = true := by kernel_rfl
theorem traceKnown_f10 : (Rows.traceKnownRow.inPlace == Tryz.prog.inPlace 3) = true := by kernel_rfl
theorem traceKnown_f11 : (Rows.traceKnownRow.unfollowed == Tryz.prog.unfollowed 3) = true := by kernel_rfl
theorem traceKnown_f12 : (Rows.traceKnownRow.recurses == Tryz.prog.recurses 3) = true := by kernel_rfl
theorem traceKnown_f13 : (Rows.traceKnownRow.named == Tryz.prog.varsNamed 3) = true := by kernel_rfl
theorem traceKnown_joined : joinedFacts Tryz.prog 3 Tryz.f3 Rows.traceKnownSpec Rows.traceKnownRow = true :=
  joined_of (by as_aux_lemma => kernel_rfl) traceKnown_f2 traceKnown_f3 (by as_aux_lemma => kernel_rfl) (by as_aux_lemma => kernel_rfl) rfl traceKnown_f7 rfl traceKnown_f9 traceKnown_f10 traceKnown_f11 traceKnown_f12 traceKnown_f13
    (by as_aux_lemma => kernel_rfl) (by as_aux_lemma => kernel_rfl) (by as_aux_lemma => kernel_rfl) (by as_aux_lemma => kernel_rfl) (by as_aux_lemma => kernel_rfl) (by as_aux_lemma => kernel_rfl) (by as_aux_lemma => kernel_rfl) (by as_aux_lemma => kernel_rfl) (by as_aux_lemma => kernel_rfl)
    traceKnown_f23 rfl traceKnown_f25 traceKnown_f26 traceKnown_f27 traceKnown_f28 rfl rfl (by as_aux_lemma => kernel_rfl) (by as_aux_lemma => kernel_rfl) (by as_aux_lemma => kernel_rfl)
end Go.Proofs.YtdccenbljfanpaaGreatDoor
