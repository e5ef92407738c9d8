/- LowerKnown, run. -/
import Derived.Test.YtgmcjcgnkdomnaaGreatDoorLTab
import Derived.Test.YtgmcjcgnkdomnaaGreatDoorSorts
import Derived.KernelRfl
namespace Go.Proofs.YtgmcjcgnkdomnaaGreatDoor
open Go.Ab
theorem Known_run : isTrue (evH L_tab prims 1000 3 [] emptyH) = true := by kernel_rfl
end Go.Proofs.YtgmcjcgnkdomnaaGreatDoor
