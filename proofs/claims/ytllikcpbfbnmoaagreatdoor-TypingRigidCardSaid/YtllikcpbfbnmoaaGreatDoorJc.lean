/- Closed facts of the row: maps and keys. -/
import Derived.Test.YtllikcpbfbnmoaaGreatDoorJa
import Derived.JoinedOf
import Derived.KernelRfl
set_option maxRecDepth 100000
namespace Go.Proofs.YtllikcpbfbnmoaaGreatDoor
open Go
theorem j2 : (mapsRowed jP) = true := by kernel_rfl
theorem j22 : ((jC.plainKeys == jP.plainKeys)) = true := by kernel_rfl
end Go.Proofs.YtllikcpbfbnmoaaGreatDoor
