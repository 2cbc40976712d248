/- Closed facts of the witness: the input fits. -/
import Derived.Test.YtdgaheekfeomoaaGreatDoorLl
set_option maxRecDepth 100000
namespace Go.Proofs.YtdgaheekfeomoaaGreatDoor
open Go
theorem wOk (os : Os) : Input.okWideB Tryz.checked.prog (door os) 3 ⟨#[], #[.slice none 0 0, .int .i64 0], []⟩ = true := by kernel_rfl
end Go.Proofs.YtdgaheekfeomoaaGreatDoor
