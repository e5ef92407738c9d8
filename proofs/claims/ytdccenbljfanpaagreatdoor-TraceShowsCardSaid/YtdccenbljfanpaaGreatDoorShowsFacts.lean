/- The closed facts of this seat and of gantlinelaw26.TraceShows. -/
import Derived.Test.YtdccenbljfanpaaGreatDoorAbV
import Derived.KernelRfl
import Derived.Test.YtdccenbljfanpaaGreatDoorRows
namespace Go.Proofs.YtdccenbljfanpaaGreatDoor
open Go.Ab
set_option maxRecDepth 100000
theorem traceShows_f2 : laidOutB Tryz.prog = true := by kernel_rfl
theorem traceShows_f3 : mapsRowed Tryz.prog = true := by kernel_rfl
theorem traceShows_f23 : (Rows.traceShowsRow.plainKeys == Tryz.prog.plainKeys) = true := by kernel_rfl
theorem traceShows_f25 : Tryz.prog.stopsHeard = true := by kernel_rfl
theorem traceShows_f26 : Tryz.prog.mayEnter = true := by kernel_rfl
theorem traceShows_f27 : (Rows.traceShowsRow.lifted == Tryz.prog.liftsFinal) = true := by kernel_rfl
theorem traceShows_f28 : (Tryz.prog.make == some Rows.traceShowsRow.make) = true := by kernel_rfl
theorem traceShows_f7 : (Tryz.prog.stops == []) = true := by kernel_rfl
theorem traceShows_f9 : (Tryz.prog.stopKnobs == []) = true := by kernel_rfl
theorem traceShows_f10 : (Rows.traceShowsRow.inPlace == Tryz.prog.inPlace 4) = true := by kernel_rfl
theorem traceShows_f11 : (Rows.traceShowsRow.unfollowed == Tryz.prog.unfollowed 4) = true := by kernel_rfl
theorem traceShows_f12 : (Rows.traceShowsRow.recurses == Tryz.prog.recurses 4) = true := by kernel_rfl
theorem traceShows_f13 : (Rows.traceShowsRow.named == Tryz.prog.varsNamed 4) = true := by kernel_rfl
theorem traceShows_joined : joinedFacts Tryz.prog 4 Tryz.f4 Rows.traceShowsSpec Rows.traceShowsRow = true :=
  joined_of (by as_aux_lemma => kernel_rfl) traceShows_f2 traceShows_f3 (by as_aux_lemma => kernel_rfl) (by as_aux_lemma => kernel_rfl) rfl traceShows_f7 rfl traceShows_f9 traceShows_f10 traceShows_f11 traceShows_f12 traceShows_f13
    (by as_aux_lemma => kernel_rfl) (by as_aux_lemma => kernel_rfl) (by as_aux_lemma => kernel_rfl) (by as_aux_lemma => kernel_rfl) (by as_aux_lemma => kernel_rfl) (by as_aux_lemma => kernel_rfl) (by as_aux_lemma => kernel_rfl) (by as_aux_lemma => kernel_rfl) (by as_aux_lemma => kernel_rfl)
    traceShows_f23 rfl traceShows_f25 traceShows_f26 traceShows_f27 traceShows_f28 rfl rfl (by as_aux_lemma => kernel_rfl) (by as_aux_lemma => kernel_rfl) (by as_aux_lemma => kernel_rfl)
end Go.Proofs.YtdccenbljfanpaaGreatDoor
