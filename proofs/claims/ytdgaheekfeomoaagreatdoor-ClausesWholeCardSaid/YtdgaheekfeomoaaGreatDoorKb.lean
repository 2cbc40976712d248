/- A closed fact of the card: the function main. -/
import Derived.Test.YtdgaheekfeomoaaGreatDoorJa
import Derived.SevenTiedAt
set_option maxRecDepth 100000
namespace Go.Proofs.YtdgaheekfeomoaaGreatDoor
open Go
theorem kMain : Tryz.pinned.checked.prog.mainIs = some (((true, "0d2f4962c54b18df35a1e7c434960070fcdaebaef9c9ed5a2fbc2f60c023208c") : Bool × String).1, ((true, "0d2f4962c54b18df35a1e7c434960070fcdaebaef9c9ed5a2fbc2f60c023208c") : Bool × String).2.toList) := by kernel_rfl
end Go.Proofs.YtdgaheekfeomoaaGreatDoor
