/- Closed facts of the card: its form, and the stand-ins of the parameters. -/
import Derived.Test.YtllikcpbfbnmoaaGreatDoorJa
import Derived.SevenTiedAt
set_option maxRecDepth 100000
namespace Go.Proofs.YtllikcpbfbnmoaaGreatDoor
open Go
theorem kWf : Rows.typingRigidRow.wfByText (OpenSpec.ofChange Rows.typingRigidSpec) = true := by kernel_rfl
theorem wantsNot : ([3].all fun u => !Tryz.prog.wantsStandIn u) = true := by kernel_rfl
theorem kMain : Tryz.pinned.checked.prog.mainIs = some (((true, "7c474ae80488150c0b0a5c6567cd816549d972ca11c0f8df7a1c9f1ed0d470d5") : Bool × String).1, ((true, "7c474ae80488150c0b0a5c6567cd816549d972ca11c0f8df7a1c9f1ed0d470d5") : Bool × String).2.toList) := by kernel_rfl
end Go.Proofs.YtllikcpbfbnmoaaGreatDoor
