/- CompileKnown, run. -/
import Derived.Test.YtbjjgndgofakoaaGreatDoorLTab
import Derived.Test.YtbjjgndgofakoaaGreatDoorSorts
import Derived.KernelRfl
namespace Go.Proofs.YtbjjgndgofakoaaGreatDoor
open Go.Ab
theorem Known_run : isTrue (evH L_tab prims 1000 3 [] emptyH) = true := by kernel_rfl
end Go.Proofs.YtbjjgndgofakoaaGreatDoor
