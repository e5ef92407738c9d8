/- The world in which a call of this seat begins: nothing of it is read. -/
import Derived.Test.YtooindilclphjaaGreatDoorSorts
import Derived.Test.YtooindilclphjaaGreatDoorRows
import Derived.ChangeSame
import Derived.ChangeVars
import Derived.JoinedOf
import Derived.RowKit
import Derived.ProofKit
import Derived.LaidMore
import Derived.LaidLaws
import Derived.OpenShut
import Derived.Stop.Joined
import Derived.KernelRfl
import Derived.Lay
namespace Go.Proofs.YtooindilclphjaaGreatDoor
open Go.ChangeShapes Go.WideShapes Go.RowKit Go.Ab

theorem own : ownKnob Tryz.prog.godebug = none := by kernel_rfl
theorem mixed : Tryz.prog.follows .mixedOrders = true := by kernel_rfl

def laidOne : List (String × DataW Unit) := Rows.scriptKnownRow.laid

theorem of_laid {W : World} (_ : laidMetH Tryz.prog laidOne W) : ∃ k : Ren, HR W.heap.size k emptyH W ∧ Gl [] k ∧ ∀ j, ¬ Owns k emptyH j := ⟨fun _ => none, empty_HR W, empty_G, empty_no⟩

/-- The world as the condition has it meets the condition. -/
theorem door_fits (os : Os) : (World.holding Tryz.prog os ⟨#[], #[], []⟩).layFits Tryz.prog laidOne [] = true := by kernel_rfl
theorem door_ifaces (os : Os) : (World.holding Tryz.prog os ⟨#[], #[], []⟩).layIfaces Tryz.prog laidOne (World.laidAll Tryz.prog os laidOne) = true := by kernel_rfl
theorem door_met (os : Os) (args : Array Value) : laidMetH Tryz.prog laidOne ((World.laidAll Tryz.prog os laidOne).forCall (fun _ _ => 0) ⟨#[], args, []⟩).memory := by
  rw [MakeChecks.laidMetH_plain _ _ _ (by kernel_rfl)]
  exact laidMet_laidAll _ (door_fits os) (door_ifaces os)

end Go.Proofs.YtooindilclphjaaGreatDoor
