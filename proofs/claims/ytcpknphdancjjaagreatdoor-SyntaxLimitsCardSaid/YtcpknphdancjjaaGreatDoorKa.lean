/- Closed facts of the card: its form, and the stand-ins of the parameters. -/
import Derived.Test.YtcpknphdancjjaaGreatDoorJa
import Derived.SevenTiedAt
set_option maxRecDepth 100000
namespace Go.Proofs.YtcpknphdancjjaaGreatDoor
open Go
theorem kWf : Rows.syntaxLimitsRow.wfByText (OpenSpec.ofChange Rows.syntaxLimitsSpec) = true := by kernel_rfl
theorem wantsNot : ([3, 3].all fun u => !Tryz.prog.wantsStandIn u) = true := by kernel_rfl
end Go.Proofs.YtcpknphdancjjaaGreatDoor
