/- ScriptKnown, run. -/
import Derived.Test.YtooindilclphjaaGreatDoorLTab
import Derived.Test.YtooindilclphjaaGreatDoorBld
import Derived.KernelRfl
namespace Go.Proofs.YtooindilclphjaaGreatDoor
open Go.Ab
theorem Known_run : isTrue (evH L_tab prims5 1000 3 [] emptyH) = true := by kernel_rfl
end Go.Proofs.YtooindilclphjaaGreatDoor
