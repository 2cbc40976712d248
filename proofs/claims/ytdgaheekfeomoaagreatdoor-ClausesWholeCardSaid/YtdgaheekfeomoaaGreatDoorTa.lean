/- Closed facts of the tie: what is listed. -/
import Derived.Test.YtdgaheekfeomoaaGreatDoorLl
set_option maxRecDepth 100000
namespace Go.Proofs.YtdgaheekfeomoaaGreatDoor
open Go
theorem hp : (laidL.all fun x => x.2.handleName?.isNone) = true := by kernel_rfl
theorem g3 : (((begin Tryz.prog (fun _ _ => 0) default).world.heap[3]?).bind Obj.row?).isSome = true := by kernel_rfl
end Go.Proofs.YtdgaheekfeomoaaGreatDoor
