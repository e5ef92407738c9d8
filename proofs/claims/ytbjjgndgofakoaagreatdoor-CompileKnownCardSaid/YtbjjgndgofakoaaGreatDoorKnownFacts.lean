/- The closed facts of this seat and of CompileKnown. -/
import Derived.Test.YtbjjgndgofakoaaGreatDoorAbV
import Derived.KernelRfl
import Derived.Test.YtbjjgndgofakoaaGreatDoorRows
namespace Go.Proofs.YtbjjgndgofakoaaGreatDoor
open Go.Ab
set_option maxRecDepth 100000
theorem compileKnown_f2 : laidOutB Tryz.prog = true := by kernel_rfl
theorem compileKnown_f3 : mapsRowed Tryz.prog = true := by kernel_rfl
theorem compileKnown_f23 : (Rows.compileKnownRow.plainKeys == Tryz.prog.plainKeys) = true := by kernel_rfl
theorem compileKnown_f25 : Tryz.prog.stopsHeard = true := by kernel_rfl
theorem compileKnown_f26 : Tryz.prog.mayEnter = true := by kernel_rfl
theorem compileKnown_f27 : (Rows.compileKnownRow.lifted == Tryz.prog.liftsFinal) = true := by kernel_rfl
theorem compileKnown_f28 : (Tryz.prog.make == some Rows.compileKnownRow.make) = true := by kernel_rfl
theorem compileKnown_f7 : (Tryz.prog.stops == []) = true := by kernel_rfl
theorem compileKnown_f9 : (Tryz.prog.stopKnobs == []) = true := by kernel_rfl
theorem compileKnown_f10 : (Rows.compileKnownRow.inPlace == Tryz.prog.inPlace 3) = true := by kernel_rfl
theorem compileKnown_f11 : (Rows.compileKnownRow.unfollowed == Tryz.prog.unfollowed 3) = true := by kernel_rfl
theorem compileKnown_f12 : (Rows.compileKnownRow.recurses == Tryz.prog.recurses 3) = true := by kernel_rfl
theorem compileKnown_f13 : (Rows.compileKnownRow.named == Tryz.prog.varsNamed 3) = true := by kernel_rfl
theorem compileKnown_joined : joinedFacts Tryz.prog 3 Tryz.f3 Rows.compileKnownSpec Rows.compileKnownRow = true :=
  joined_of (by as_aux_lemma => kernel_rfl) compileKnown_f2 compileKnown_f3 (by as_aux_lemma => kernel_rfl) (by as_aux_lemma => kernel_rfl) rfl compileKnown_f7 rfl compileKnown_f9 compileKnown_f10 compileKnown_f11 compileKnown_f12 compileKnown_f13
    (by as_aux_lemma => kernel_rfl) (by as_aux_lemma => kernel_rfl) (by as_aux_lemma => kernel_rfl) (by as_aux_lemma => kernel_rfl) (by as_aux_lemma => kernel_rfl) (by as_aux_lemma => kernel_rfl) (by as_aux_lemma => kernel_rfl) (by as_aux_lemma => kernel_rfl) (by as_aux_lemma => kernel_rfl)
    compileKnown_f23 rfl compileKnown_f25 compileKnown_f26 compileKnown_f27 compileKnown_f28 rfl rfl (by as_aux_lemma => kernel_rfl) (by as_aux_lemma => kernel_rfl) (by as_aux_lemma => kernel_rfl)
end Go.Proofs.YtbjjgndgofakoaaGreatDoor
