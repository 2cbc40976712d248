/- Closed facts of the row: what is reached, and which variables are named. -/
import Derived.Test.YtllikcpbfbnmoaaGreatDoorJe
import Derived.JoinedOf
import Derived.KernelRfl
set_option maxRecDepth 100000
namespace Go.Proofs.YtllikcpbfbnmoaaGreatDoor
open Go
theorem t9 : (jC.inPlace == jP.inPlaceOf clL) = true := by kernel_rfl
theorem j9 : (jC.inPlace == jP.inPlace 3) = true := by
  have e : jP.inPlace 3 = jP.inPlaceOf clL := by unfold Program.inPlace Program.inPlaceOf; rw [cl]
  rw [e]; exact t9
end Go.Proofs.YtllikcpbfbnmoaaGreatDoor
