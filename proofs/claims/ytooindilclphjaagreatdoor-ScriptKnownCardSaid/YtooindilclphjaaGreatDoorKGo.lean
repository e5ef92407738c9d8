/- No function of the program starts a goroutine. -/
import Derived.Test.YtooindilclphjaaGreatDoorAbV
import Derived.KernelRfl
import Derived.Test.YtooindilclphjaaGreatDoorProg
namespace Go.Proofs.YtooindilclphjaaGreatDoor
open Go.Ab
set_option maxRecDepth 100000
theorem kgo : Tryz.prog.funcs.any Func.goes = false := by kernel_rfl
end Go.Proofs.YtooindilclphjaaGreatDoor
