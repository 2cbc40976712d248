/- A closed fact of the card: the function main. -/
import Derived.Test.YtcpknphdancjjaaGreatDoorJa
import Derived.SevenTiedAt
set_option maxRecDepth 100000
namespace Go.Proofs.YtcpknphdancjjaaGreatDoor
open Go
theorem kMain : Tryz.pinned.checked.prog.mainIs = some (((true, "6f26cf1c7d9441fa68e6a799cf151fd51102f9e8d23dcb90cd2f8aa245e99dec") : Bool × String).1, ((true, "6f26cf1c7d9441fa68e6a799cf151fd51102f9e8d23dcb90cd2f8aa245e99dec") : Bool × String).2.toList) := by kernel_rfl
end Go.Proofs.YtcpknphdancjjaaGreatDoor
