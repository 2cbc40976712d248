/- Printed functions are what the program's functions come to, part 2. -/
import Derived.Test.YtdgaheekfeomoaaGreatDoorFs1
import Derived.Test.YtdgaheekfeomoaaGreatDoorProg
import Derived.KernelRfl
set_option maxRecDepth 100000
namespace Go.Proofs.YtdgaheekfeomoaaGreatDoor.Ev
open GoEv
abbrev OK1 (f : Nat) (F : Sm → List V → H → A) : Prop := FOK Tryz.prog X (theD Tryz.prog X) f F
theorem ok137 : OK1 137 F137 := ⟨Tryz.f137, Tryz.f137.body.getD .skip, hn137, na137, Tryz.func137, by kernel_rfl, by kernel_rfl⟩
end Go.Proofs.YtdgaheekfeomoaaGreatDoor.Ev
