/- Closed facts of the witness: the reading of the input. -/
import Derived.Test.YtdgaheekfeomoaaGreatDoorLl
set_option maxRecDepth 100000
namespace Go.Proofs.YtdgaheekfeomoaaGreatDoor
open Go
theorem wPre (os : Os) (H : Type) (enc : TypeId × Value → H) : Rows.clausesWholeSpec.preB enc Tryz.checked.prog Tryz.f3 Rows.clausesWholeRow.domain false (door os).memory #[.slice none 0 0, .int .i64 0] 8 = true := by kernel_rfl
theorem wSz (os : Os) (H : Type) (enc : TypeId × Value → H) : Rows.clausesWholeSpec.sizedB enc Tryz.checked.prog Tryz.f3 false (door os).memory #[.slice none 0 0, .int .i64 0] 8 = true := by kernel_rfl
end Go.Proofs.YtdgaheekfeomoaaGreatDoor
