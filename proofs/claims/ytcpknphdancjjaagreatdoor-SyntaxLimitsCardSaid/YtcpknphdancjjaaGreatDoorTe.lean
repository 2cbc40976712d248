/- A closed fact of the tie: the function that lays the variables is there. -/
import Derived.Test.YtcpknphdancjjaaGreatDoorLl
set_option maxRecDepth 100000
namespace Go.Proofs.YtcpknphdancjjaaGreatDoor
open Go
theorem hg : (Tryz.prog.funcNamed "gosem.cut.vars").isSome = true := by kernel_rfl
end Go.Proofs.YtcpknphdancjjaaGreatDoor
