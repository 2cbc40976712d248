/- Closed facts of the witness: the reading of the input. -/
import Derived.Test.YtcpknphdancjjaaGreatDoorLl
set_option maxRecDepth 100000
namespace Go.Proofs.YtcpknphdancjjaaGreatDoor
open Go
theorem wPre (os : Os) (H : Type) (enc : TypeId × Value → H) : Rows.syntaxLimitsSpec.preB enc Tryz.checked.prog Tryz.f3 Rows.syntaxLimitsRow.domain false (door os).memory #[.int .i64 0, .int .i64 0] 8 = true := by kernel_rfl
theorem wSz (os : Os) (H : Type) (enc : TypeId × Value → H) : Rows.syntaxLimitsSpec.sizedB enc Tryz.checked.prog Tryz.f3 false (door os).memory #[.int .i64 0, .int .i64 0] 8 = true := by kernel_rfl
end Go.Proofs.YtcpknphdancjjaaGreatDoor
