/- A closed fact of the row: which functions are reached. -/
import Derived.Test.YtllikcpbfbnmoaaGreatDoorJa
import Derived.JoinedOf
import Derived.KernelRfl
set_option maxRecDepth 100000
namespace Go.Proofs.YtllikcpbfbnmoaaGreatDoor
open Go
theorem cl : jP.closure 3 = clL := by kernel_rfl
end Go.Proofs.YtllikcpbfbnmoaaGreatDoor
