/- The program's ties, each closed fact a theorem of its own. -/
import Derived.Test.YtcolbcpeialmhaaGreatDoorRows
import Derived.LaidByTextLater
import Derived.SevenTiedAt
namespace Go.Proofs.YtcolbcpeialmhaaGreatDoor
open Go
set_option maxRecDepth 100000
theorem ktie_noOwnUnsafe : Tryz.pinned.checked.prog.headLifts.contains "ownunsafe" = false := by kernel_rfl
abbrev ktie_laid : List (String × DataW Unit) := [("strconv.ErrSyntax", Rows.laid_strconv_ErrSyntax), ("strconv.ErrRange", Rows.laid_strconv_ErrRange), ("internal/strconv.uint64pow10", Rows.laid_internal_strconv_uint64pow10), ("math/bits.deBruijn32tab", Rows.laid_math_bits_deBruijn32tab), ("math/bits.deBruijn64tab", Rows.laid_math_bits_deBruijn64tab)]
theorem ktie1 : Tryz.prog.worded (varsWordLater true) = true := by kernel_rfl
theorem ktie2 : Tryz.prog.worded (varsWordLater !true) = false := by kernel_rfl
theorem ktie3 : Tryz.prog.worded rootWordLater = true := by kernel_rfl
theorem ktie4 : ktie_laid.map (fun x => Tryz.prog.kindOfLater x.1) = ([.sentinel, .sentinel, .data, .data, .data] : List LaidKind).map some := by kernel_rfl
theorem ktie5 : (Tryz.prog.funcNamed "gosem.cut.vars").isSome = true := by kernel_rfl
theorem ktie6 : varsNamedLaterB Tryz.prog (varsId Tryz.prog) ktie_laid = true := by kernel_rfl
theorem ktie7 : ∀ os tape, varsDone Tryz.prog 400 (varsId Tryz.prog) os tape = true := fun _ _ => by kernel_rfl
theorem ktie8 : ∀ os tape, (DataW.laidRun Tryz.prog (varsWorld Tryz.prog 400 (varsId Tryz.prog) os tape).memory 8 (ktie_laid.map (·.1))).map (·.1) = some ktie_laid := fun _ _ => by kernel_rfl
theorem ktie9 : ∀ os tape, (DataW.laidRun Tryz.prog (varsWorld Tryz.prog 400 (varsId Tryz.prog) os tape).memory 8 (ktie_laid.map (·.1))).map (fun x => decide x.2.Nodup && laidRowsB Tryz.prog (varsWorld Tryz.prog 400 (varsId Tryz.prog) os tape).memory x.2) = some true := fun _ _ => by kernel_rfl
theorem ktie : Tryz.prog.laidByTextLater ktie_laid [.sentinel, .sentinel, .data, .data, .data] true :=
 Program.laidByTextLater_by_run 400 8 ktie1 ktie2 ktie3 ktie4 ktie5 ktie6 ktie7 ktie8 ktie9 (by kernel_rfl)
theorem compileOrder_row_ktie : Rows.compileOrderRow.laidByTextAt .later Tryz.pinned [.sentinel, .sentinel, .data, .data, .data] true :=
 OpenClaim.laidByTextAt_later rfl rfl ktie ktie_noOwnUnsafe
theorem compileChannels_row_ktie : Rows.compileChannelsRow.laidByTextAt .later Tryz.pinned [.sentinel, .sentinel, .data, .data, .data] true :=
 OpenClaim.laidByTextAt_later rfl rfl ktie ktie_noOwnUnsafe
theorem compileSelect_row_ktie : Rows.compileSelectRow.laidByTextAt .later Tryz.pinned [.sentinel, .sentinel, .data, .data, .data] true :=
 OpenClaim.laidByTextAt_later rfl rfl ktie ktie_noOwnUnsafe
end Go.Proofs.YtcolbcpeialmhaaGreatDoor
