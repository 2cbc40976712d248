/- The closed facts of the row together. -/
import Derived.Test.YtllikcpbfbnmoaaGreatDoorJb
import Derived.Test.YtllikcpbfbnmoaaGreatDoorJc
import Derived.Test.YtllikcpbfbnmoaaGreatDoorJd
import Derived.Test.YtllikcpbfbnmoaaGreatDoorJf
import Derived.Test.YtllikcpbfbnmoaaGreatDoorJg
import Derived.Test.YtllikcpbfbnmoaaGreatDoorJh
import Derived.Test.YtllikcpbfbnmoaaGreatDoorJn
import Derived.JoinedOf
import Derived.KernelRfl
set_option maxRecDepth 100000
namespace Go.Proofs.YtllikcpbfbnmoaaGreatDoor
open Go
theorem rClosed : joinedFacts jP 3 jF jS jC = true := by
  unfold joinedFacts
  simp only [Bool.and_eq_true]
  exact ⟨⟨⟨⟨⟨⟨⟨⟨⟨⟨⟨⟨⟨⟨⟨⟨⟨⟨⟨⟨⟨⟨⟨⟨⟨⟨⟨⟨⟨⟨⟨j0, j1⟩, j2⟩, j3⟩, j4⟩, j5⟩, j6⟩, j7⟩, j8⟩, j9⟩, j10⟩, j11⟩, j12⟩, j13⟩, j14⟩, j15⟩, j16⟩, j17⟩, j18⟩, j19⟩, j20⟩, j21⟩, j22⟩, j23⟩, j24⟩, j25⟩, j26⟩, j27⟩, j28⟩, j29⟩, j30⟩, j31⟩
end Go.Proofs.YtllikcpbfbnmoaaGreatDoor
