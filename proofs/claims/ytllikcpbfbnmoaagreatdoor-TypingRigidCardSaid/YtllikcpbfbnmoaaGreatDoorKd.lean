/- A closed fact of the card: no goroutine is started. -/
import Derived.Test.YtllikcpbfbnmoaaGreatDoorJh
import Derived.Test.YtllikcpbfbnmoaaGreatDoorJn
import Derived.SevenTiedAt
set_option maxRecDepth 100000
namespace Go.Proofs.YtllikcpbfbnmoaaGreatDoor
open Go
theorem gAny : (clL.any fun g => (jP.funcs[g]?).any Func.goes) = false := by kernel_rfl
theorem gAll : jP.funcs.any Func.goes = false := by kernel_rfl
theorem goes3 : jP.goes 3 = false := by
  unfold Program.goes
  rw [cl, gAny, j10', gAll]; rfl
theorem goes_of {P : Program} {c : OpenClaim} {f : FuncId} (h : P.funcNamed c.func = some f) (hs : c.start = .entering) (hg : P.goes f = false) : false = c.goesBy P := by
  unfold OpenClaim.goesBy Program.goesAt Program.goesFrom
  rw [h, hs]
  simp [hg]
theorem kGoes : false = Rows.typingRigidRow.goesBy jP := goes_of rNamed rfl goes3
end Go.Proofs.YtllikcpbfbnmoaaGreatDoor
