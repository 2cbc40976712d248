/- Printed functions are what the program's functions come to, part 1. -/
import Derived.Test.YtcpknphdancjjaaGreatDoorFs1
import Derived.Test.YtcpknphdancjjaaGreatDoorProg
import Derived.KernelRfl
set_option maxRecDepth 100000
namespace Go.Proofs.YtcpknphdancjjaaGreatDoor.Ev
open GoEv
theorem ok63 : FOK Tryz.prog X (theD Tryz.prog X) 63 F63 := ⟨Tryz.f63, Tryz.f63.body.getD .skip, hn63, na63, Tryz.func63, by kernel_rfl, by kernel_rfl⟩
end Go.Proofs.YtcpknphdancjjaaGreatDoor.Ev
