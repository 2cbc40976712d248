/- Closed facts of the row: calls of values. -/
import Derived.Test.YtllikcpbfbnmoaaGreatDoorJe
import Derived.JoinedOf
import Derived.KernelRfl
set_option maxRecDepth 100000
namespace Go.Proofs.YtllikcpbfbnmoaaGreatDoor
open Go
noncomputable def unf (L : List Nat) : Bool := L.any fun g => (jP.funcs[g]?).any fun fn => match fn.body with | some c => c.unfollowed | none => entryCalls fn
theorem t10 : unf clL = true := by kernel_rfl
theorem j10' : jP.unfollowed 3 = true := by
  have e : jP.unfollowed 3 = unf (jP.closure 3) := rfl
  rw [e, cl]; exact t10
theorem j10 : (jC.unfollowed == jP.unfollowed 3) = true := by rw [j10']; rfl
theorem j11 : (jC.recurses == jP.recurses 3) = true := by
  have e : jP.recurses 3 = true := by unfold Program.recurses; rw [j10', Bool.true_or]
  rw [e]; rfl
end Go.Proofs.YtllikcpbfbnmoaaGreatDoor
