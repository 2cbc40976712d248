/- Printed functions are what the program's functions come to, part 1. -/
import Derived.Test.YtdgaheekfeomoaaGreatDoorFs3
import Derived.Test.YtdgaheekfeomoaaGreatDoorProg
import Derived.KernelRfl
set_option maxRecDepth 100000
namespace Go.Proofs.YtdgaheekfeomoaaGreatDoor.Ev
open GoEv
abbrev OK0 (f : Nat) (F : Sm → List V → H → A) : Prop := FOK Tryz.prog X (theD Tryz.prog X) f F
theorem ok341 : OK0 341 F341 := ⟨Tryz.f341, Tryz.f341.body.getD .skip, hn341, na341, Tryz.func341, by kernel_rfl, by kernel_rfl⟩
end Go.Proofs.YtdgaheekfeomoaaGreatDoor.Ev
