/- A closed fact of the tie: what the run that lays the variables leaves. -/
import Derived.Test.YtllikcpbfbnmoaaGreatDoorLl
set_option maxRecDepth 100000
namespace Go.Proofs.YtllikcpbfbnmoaaGreatDoor
open Go
theorem hrun : ∀ os tape, doorLeaves Tryz.prog 24 8 65 laidL os tape = some (laidL.filter fun x => x.2.handleName?.isNone, (funcsListed laidL).map (·.2.funcsOut)) := fun _ _ => by kernel_rfl
end Go.Proofs.YtllikcpbfbnmoaaGreatDoor
