/- A closed fact of the witness: the variables lie as they must. -/
import Derived.Test.YtllikcpbfbnmoaaGreatDoorLl
set_option maxRecDepth 100000
namespace Go.Proofs.YtllikcpbfbnmoaaGreatDoor
open Go
theorem wRef (os : Os) : (door os).variablesRefB Tryz.prog = true := by kernel_rfl
end Go.Proofs.YtllikcpbfbnmoaaGreatDoor
