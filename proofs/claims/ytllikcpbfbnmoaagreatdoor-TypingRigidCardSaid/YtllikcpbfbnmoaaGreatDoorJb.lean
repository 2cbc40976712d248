/- A closed fact of the row: types lie as they must. -/
import Derived.Test.YtllikcpbfbnmoaaGreatDoorJa
import Derived.JoinedOf
import Derived.KernelRfl
set_option maxRecDepth 100000
namespace Go.Proofs.YtllikcpbfbnmoaaGreatDoor
open Go
theorem j1 : (laidOutB jP) = true := by kernel_rfl
end Go.Proofs.YtllikcpbfbnmoaaGreatDoor
