/- The run of RunKnown, by the kernel. -/
import Derived.Test.YtlmmhkcimjjakaaGreatDoorRunKnownTab
namespace Go.Proofs.YtlmmhkcimjjakaaGreatDoor
open Go.Ab
theorem RunKnown_run : isTrue (evG Tryz.prog RunKnown_tab prims 1000000 1000 3 [] (tabH bruijn)) = true := by kernel_rfl
end Go.Proofs.YtlmmhkcimjjakaaGreatDoor
