/- A closed fact of the card: the looks. -/
import Derived.Test.YtcpknphdancjjaaGreatDoorJa
import Derived.SevenTiedAt
set_option maxRecDepth 100000
namespace Go.Proofs.YtcpknphdancjjaaGreatDoor
open Go
theorem kLooks : true = Tryz.pinned.checked.prog.looks [] := by kernel_rfl
end Go.Proofs.YtcpknphdancjjaaGreatDoor
