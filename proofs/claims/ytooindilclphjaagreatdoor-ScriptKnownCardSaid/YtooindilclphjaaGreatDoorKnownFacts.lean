/- The closed facts of this seat and of gantlinelaw27.ScriptKnown. -/
import Derived.Test.YtooindilclphjaaGreatDoorAbV
import Derived.KernelRfl
import Derived.Test.YtooindilclphjaaGreatDoorRows
namespace Go.Proofs.YtooindilclphjaaGreatDoor
open Go.Ab
set_option maxRecDepth 100000
theorem scriptKnown_f2 : laidOutB Tryz.prog = true := by kernel_rfl
theorem scriptKnown_f3 : mapsRowed Tryz.prog = true := by kernel_rfl
theorem scriptKnown_f23 : (Rows.scriptKnownRow.plainKeys == Tryz.prog.plainKeys) = true := by kernel_rfl
theorem scriptKnown_f25 : Tryz.prog.stopsHeard = true := by kernel_rfl
theorem scriptKnown_f26 : Tryz.prog.mayEnter = true := by kernel_rfl
theorem scriptKnown_f27 : (Rows.scriptKnownRow.lifted == Tryz.prog.liftsFinal) = true := by kernel_rfl
theorem scriptKnown_f28 : (Tryz.prog.make == some Rows.scriptKnownRow.make) = true := by kernel_rfl
theorem scriptKnown_f7 : (Tryz.prog.stops == []) = true := by kernel_rfl
theorem scriptKnown_f9 : (Tryz.prog.stopKnobs == []) = true := by kernel_rfl
theorem scriptKnown_f10 : (Rows.scriptKnownRow.inPlace == Tryz.prog.inPlace 3) = true := by kernel_rfl
theorem scriptKnown_f11 : (Rows.scriptKnownRow.unfollowed == Tryz.prog.unfollowed 3) = true := by kernel_rfl
theorem scriptKnown_f12 : (Rows.scriptKnownRow.recurses == Tryz.prog.recurses 3) = true := by kernel_rfl
theorem scriptKnown_f13 : (Rows.scriptKnownRow.named == Tryz.prog.varsNamed 3) = true := by kernel_rfl
theorem scriptKnown_joined : joinedFacts Tryz.prog 3 Tryz.f3 Rows.scriptKnownSpec Rows.scriptKnownRow = true :=
  joined_of (by as_aux_lemma => kernel_rfl) scriptKnown_f2 scriptKnown_f3 (by as_aux_lemma => kernel_rfl) (by as_aux_lemma => kernel_rfl) rfl scriptKnown_f7 rfl scriptKnown_f9 scriptKnown_f10 scriptKnown_f11 scriptKnown_f12 scriptKnown_f13
    (by as_aux_lemma => kernel_rfl) (by as_aux_lemma => kernel_rfl) (by as_aux_lemma => kernel_rfl) (by as_aux_lemma => kernel_rfl) (by as_aux_lemma => kernel_rfl) (by as_aux_lemma => kernel_rfl) (by as_aux_lemma => kernel_rfl) (by as_aux_lemma => kernel_rfl) (by as_aux_lemma => kernel_rfl)
    scriptKnown_f23 rfl scriptKnown_f25 scriptKnown_f26 scriptKnown_f27 scriptKnown_f28 rfl rfl (by as_aux_lemma => kernel_rfl) (by as_aux_lemma => kernel_rfl) (by as_aux_lemma => kernel_rfl)
end Go.Proofs.YtooindilclphjaaGreatDoor
