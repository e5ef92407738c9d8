/- TraceKnown, run. -/
import Derived.Test.YtdccenbljfanpaaGreatDoorLTab
import Derived.Test.YtdccenbljfanpaaGreatDoorBld
import Derived.KernelRfl
namespace Go.Proofs.YtdccenbljfanpaaGreatDoor
open Go.Ab
theorem Known_run : isTrue (evH L_tab prims 1000 3 [] emptyH) = true := by kernel_rfl
end Go.Proofs.YtdccenbljfanpaaGreatDoor
