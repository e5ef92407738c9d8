/- No function of the program starts a goroutine. -/
import Derived.Test.YtdccenbljfanpaaGreatDoorAbV
import Derived.KernelRfl
import Derived.Test.YtdccenbljfanpaaGreatDoorProg
namespace Go.Proofs.YtdccenbljfanpaaGreatDoor
open Go.Ab
set_option maxRecDepth 100000
theorem kgo : Tryz.prog.funcs.any Func.goes = false := by kernel_rfl
end Go.Proofs.YtdccenbljfanpaaGreatDoor
