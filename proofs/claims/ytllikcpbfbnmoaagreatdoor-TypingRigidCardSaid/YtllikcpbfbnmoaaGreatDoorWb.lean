/- A closed fact of the witness: what lies behind the variables. -/
import Derived.Test.YtllikcpbfbnmoaaGreatDoorLl
set_option maxRecDepth 100000
namespace Go.Proofs.YtllikcpbfbnmoaaGreatDoor
open Go
theorem wHeap (os : Os) : ((door os).heap.toList.drop Tryz.prog.globals.size).take ((begin Tryz.prog (fun _ _ => 0) default).world.heap.size - Tryz.prog.globals.size) = (begin Tryz.prog (fun _ _ => 0) default).world.heap.toList.drop Tryz.prog.globals.size := by kernel_rfl
end Go.Proofs.YtllikcpbfbnmoaaGreatDoor
