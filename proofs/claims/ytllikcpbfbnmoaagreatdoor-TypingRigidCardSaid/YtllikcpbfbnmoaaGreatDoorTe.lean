/- A closed fact of the tie: the function that lays the variables is there. -/
import Derived.Test.YtllikcpbfbnmoaaGreatDoorLl
set_option maxRecDepth 100000
namespace Go.Proofs.YtllikcpbfbnmoaaGreatDoor
open Go
theorem hg : (Tryz.prog.funcNamed "gosem.cut.vars").isSome = true := by kernel_rfl
end Go.Proofs.YtllikcpbfbnmoaaGreatDoor
