/- Closed facts of the row: stops and entries. -/
import Derived.Test.YtllikcpbfbnmoaaGreatDoorJa
import Derived.JoinedOf
import Derived.KernelRfl
set_option maxRecDepth 100000
namespace Go.Proofs.YtllikcpbfbnmoaaGreatDoor
open Go
theorem j24 : (jP.stopsHeard) = true := by kernel_rfl
theorem j25 : (jP.mayEnter) = true := by kernel_rfl
end Go.Proofs.YtllikcpbfbnmoaaGreatDoor
