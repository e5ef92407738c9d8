/- The program's ties, each closed fact a theorem of its own. -/
import Derived.Test.YtcolbcpeialmhaaGreatDoorRows
import Derived.LaidByTextLater
import Derived.SevenTiedAt
namespace Go.Proofs.YtcolbcpeialmhaaGreatDoor
open Go
set_option maxRecDepth 100000
theorem dx : Tryz.pinned.checked.prog.headLifts.contains "ownunsafe" = false := by kernel_rfl
abbrev ktie_laid : List (String × DataW Unit) := [("strconv.ErrSyntax", Rows.laid_strconv_ErrSyntax), ("strconv.ErrRange", Rows.laid_strconv_ErrRange), ("internal/strconv.uint64pow10", Rows.laid_internal_strconv_uint64pow10), ("math/bits.deBruijn32tab", Rows.laid_math_bits_deBruijn32tab), ("math/bits.deBruijn64tab", Rows.laid_math_bits_deBruijn64tab)]
theorem a1r : Tryz.prog.worded (varsWordLater true) = true := by kernel_rfl
theorem a1q : Tryz.prog.worded (varsWordLater !true) = false := by kernel_rfl
theorem a1p : Tryz.prog.worded rootWordLater = true := by kernel_rfl
theorem a1o : ktie_laid.map (fun x => Tryz.prog.kindOfLater x.1) = ([.sentinel, .sentinel, .data, .data, .data] : List LaidKind).map some := by kernel_rfl
theorem a1n : (Tryz.prog.funcNamed "gosem.cut.vars").isSome = true := by kernel_rfl
theorem a1m : varsNamedLaterB Tryz.prog (varsId Tryz.prog) ktie_laid = true := by kernel_rfl
theorem a1l : ∀ os tape, varsDone Tryz.prog 400 (varsId Tryz.prog) os tape = true := fun _ _ => by kernel_rfl
theorem a1k : ∀ os tape, (DataW.laidRun Tryz.prog (varsWorld Tryz.prog 400 (varsId Tryz.prog) os tape).memory 8 (ktie_laid.map (·.1))).map (·.1) = some ktie_laid := fun _ _ => by kernel_rfl
theorem a1j : ∀ os tape, (DataW.laidRun Tryz.prog (varsWorld Tryz.prog 400 (varsId Tryz.prog) os tape).memory 8 (ktie_laid.map (·.1))).map (fun x => decide x.2.Nodup && laidRowsB Tryz.prog (varsWorld Tryz.prog 400 (varsId Tryz.prog) os tape).memory x.2) = some true := fun _ _ => by kernel_rfl
theorem SU : Tryz.prog.laidByTextLater ktie_laid [.sentinel, .sentinel, .data, .data, .data] true :=
 Program.laidByTextLater_by_run 400 8 a1r a1q a1p a1o a1n a1m a1l a1k a1j (by kernel_rfl)
theorem uZ : Rows.compileOrderRow.laidByTextAt .later Tryz.pinned [.sentinel, .sentinel, .data, .data, .data] true :=
 OpenClaim.laidByTextAt_later rfl rfl SU dx
theorem pz : Rows.compileChannelsRow.laidByTextAt .later Tryz.pinned [.sentinel, .sentinel, .data, .data, .data] true :=
 OpenClaim.laidByTextAt_later rfl rfl SU dx
theorem fP : Rows.compileSelectRow.laidByTextAt .later Tryz.pinned [.sentinel, .sentinel, .data, .data, .data] true :=
 OpenClaim.laidByTextAt_later rfl rfl SU dx
end Go.Proofs.YtcolbcpeialmhaaGreatDoor
