/- No function of the program starts a goroutine. -/
import Derived.Test.YtcolbcpeialmhaaGreatDoorA2
import Derived.KernelRfl
import Derived.Test.YtcolbcpeialmhaaGreatDoorProg
namespace Go.Proofs.YtcolbcpeialmhaaGreatDoor
open Go.Ab
set_option maxRecDepth 100000
theorem kgo : Tryz.prog.funcs.any Func.goes = false := by kernel_rfl
end Go.Proofs.YtcolbcpeialmhaaGreatDoor
