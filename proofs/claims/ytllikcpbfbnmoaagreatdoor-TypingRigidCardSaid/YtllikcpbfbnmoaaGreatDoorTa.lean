/- Closed facts of the tie: the words of the looks. -/
import Derived.Test.YtllikcpbfbnmoaaGreatDoorLl
set_option maxRecDepth 100000
namespace Go.Proofs.YtllikcpbfbnmoaaGreatDoor
open Go
theorem hw : Tryz.prog.worded (varsWordLater true) = true := by kernel_rfl
theorem hw2 : Tryz.prog.worded (varsWordLater (!true)) = false := by kernel_rfl
theorem hroot : Tryz.prog.worded rootWordLater = true := by kernel_rfl
theorem hk : laidL.map (fun x => Tryz.prog.kindOfLater x.1) = laidK.map some := by kernel_rfl
theorem noOwn : Tryz.pinned.checked.prog.headLifts.contains "ownunsafe" = false := by kernel_rfl
theorem hp : (laidL.all fun x => x.2.handleName?.isNone) = true := by kernel_rfl
theorem g3 : (((begin Tryz.prog (fun _ _ => 0) default).world.heap[3]?).bind Obj.row?).isSome = true := by kernel_rfl
end Go.Proofs.YtllikcpbfbnmoaaGreatDoor
