/- A closed fact of the tie: the listed variables are named in order. -/
import Derived.Test.YtllikcpbfbnmoaaGreatDoorLl
set_option maxRecDepth 100000
namespace Go.Proofs.YtllikcpbfbnmoaaGreatDoor
open Go
theorem hn : varsNamedLaterB Tryz.prog (varsId Tryz.prog) laidL = true := by kernel_rfl
end Go.Proofs.YtllikcpbfbnmoaaGreatDoor
