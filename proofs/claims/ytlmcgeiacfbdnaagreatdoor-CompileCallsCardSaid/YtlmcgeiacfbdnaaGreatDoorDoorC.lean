/- The world in which a call of this seat begins. -/
import Derived.Test.YtlmcgeiacfbdnaaGreatDoorSorts
import Derived.Test.YtlmcgeiacfbdnaaGreatDoorRows
import Derived.ChangeSame
import Derived.ChangeVars
import Derived.JoinedOf
import Derived.RowKit
import Derived.ProofKit
import Derived.LaidMore
import Derived.LaidLaws
import Derived.OpenShut
import Derived.Stop.Joined
import Derived.KernelRfl
namespace Go.Proofs.YtlmcgeiacfbdnaaGreatDoor
open Go.ChangeShapes Go.WideShapes Go.RowKit Go.Ab
theorem own : ownKnob Tryz.prog.godebug = none := by kernel_rfl
theorem mixed : Tryz.prog.follows .mixedOrders = true := by kernel_rfl
def laidOne : List (String × DataW Unit) := Rows.compileCallsRow.laid
theorem of_laid {W : World} (_ : laidMetH Tryz.prog laidOne W) : ∃ k : Ren, HR W.heap.size k emptyH W ∧ Gl [] k ∧ ∀ j, ¬ Owns k emptyH j := ⟨fun _ => none, empty_HR W, empty_G, empty_no⟩
theorem door_met (os : Os) (args : Array Value) : laidMetH Tryz.prog laidOne ((World.doorLaid Tryz.prog 400 os).forCall (fun _ _ => 0) ⟨#[], args, []⟩).memory :=
 laidMetH_of_parts3 (fuel := 8) (laidMet_of_run' 8 (by kernel_rfl) (by kernel_rfl)) (by kernel_rfl) (by kernel_rfl)
end Go.Proofs.YtlmcgeiacfbdnaaGreatDoor
