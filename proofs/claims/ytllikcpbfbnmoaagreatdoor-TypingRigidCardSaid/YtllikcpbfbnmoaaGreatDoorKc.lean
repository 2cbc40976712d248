/- A closed fact of the card: the looks. -/
import Derived.Test.YtllikcpbfbnmoaaGreatDoorJa
import Derived.SevenTiedAt
set_option maxRecDepth 100000
namespace Go.Proofs.YtllikcpbfbnmoaaGreatDoor
open Go
theorem kLooks : false = Tryz.pinned.checked.prog.looks [] := by kernel_rfl
end Go.Proofs.YtllikcpbfbnmoaaGreatDoor
