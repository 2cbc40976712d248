/- Closed facts of the row: which variables are named. -/
import Derived.Test.YtllikcpbfbnmoaaGreatDoorJe
import Derived.JoinedOf
import Derived.KernelRfl
set_option maxRecDepth 100000
namespace Go.Proofs.YtllikcpbfbnmoaaGreatDoor
open Go
theorem t12 : (jC.named == jP.varsOf clL) = true := by kernel_rfl
theorem j12 : (jC.named == jP.varsNamed 3) = true := by
  have e : jP.varsNamed 3 = jP.varsOf clL := by unfold Program.varsNamed Program.varsOf; rw [cl]
  rw [e]; exact t12
end Go.Proofs.YtllikcpbfbnmoaaGreatDoor
