/- A closed fact of the witness: the variables lie as they must. -/
import Derived.Test.YtdgaheekfeomoaaGreatDoorLl
set_option maxRecDepth 100000
namespace Go.Proofs.YtdgaheekfeomoaaGreatDoor
open Go
theorem wRef (os : Os) : (door os).variablesRefB Tryz.prog = true := by kernel_rfl
end Go.Proofs.YtdgaheekfeomoaaGreatDoor
