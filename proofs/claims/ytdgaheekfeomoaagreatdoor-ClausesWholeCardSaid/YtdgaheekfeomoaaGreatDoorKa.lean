/- Closed facts of the card: its form, and the stand-ins of the parameters. -/
import Derived.Test.YtdgaheekfeomoaaGreatDoorJa
import Derived.SevenTiedAt
set_option maxRecDepth 100000
namespace Go.Proofs.YtdgaheekfeomoaaGreatDoor
open Go
theorem kWf : Rows.clausesWholeRow.wfByText (OpenSpec.ofChange Rows.clausesWholeSpec) = true := by kernel_rfl
theorem wantsNot : ([22, 3].all fun u => !Tryz.prog.wantsStandIn u) = true := by kernel_rfl
end Go.Proofs.YtdgaheekfeomoaaGreatDoor
