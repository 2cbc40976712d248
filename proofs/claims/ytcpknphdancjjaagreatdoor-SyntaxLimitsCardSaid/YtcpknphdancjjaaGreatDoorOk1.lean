/- Printed functions are what the program's functions come to, part 2. -/
import Derived.Test.YtcpknphdancjjaaGreatDoorFs0
import Derived.Test.YtcpknphdancjjaaGreatDoorFs2
import Derived.Test.YtcpknphdancjjaaGreatDoorProg
import Derived.KernelRfl
set_option maxRecDepth 100000
namespace Go.Proofs.YtcpknphdancjjaaGreatDoor.Ev
open GoEv
theorem ok29 : FOK Tryz.prog X (theD Tryz.prog X) 29 F29 := ⟨Tryz.f29, Tryz.f29.body.getD .skip, hn29, na29, Tryz.func29, by kernel_rfl, by kernel_rfl⟩
theorem ok186 : FOK Tryz.prog X (theD Tryz.prog X) 186 F186 := ⟨Tryz.f186, Tryz.f186.body.getD .skip, hn186, na186, Tryz.func186, by kernel_rfl, by kernel_rfl⟩
end Go.Proofs.YtcpknphdancjjaaGreatDoor.Ev
