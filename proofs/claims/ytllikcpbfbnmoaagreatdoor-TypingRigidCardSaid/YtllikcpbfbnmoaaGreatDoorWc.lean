/- Closed facts of the witness: the input fits. -/
import Derived.Test.YtllikcpbfbnmoaaGreatDoorLl
set_option maxRecDepth 100000
namespace Go.Proofs.YtllikcpbfbnmoaaGreatDoor
open Go
theorem wOk (os : Os) : Input.okWideB Tryz.checked.prog (door os) 3 ⟨#[], #[.int .i64 0], []⟩ = true := by kernel_rfl
theorem wPre (os : Os) (H : Type) (enc : TypeId × Value → H) : Rows.typingRigidSpec.preB enc Tryz.checked.prog Tryz.f3 Rows.typingRigidRow.domain false (door os).memory #[.int .i64 0] 8 = true := by kernel_rfl
theorem wSz (os : Os) (H : Type) (enc : TypeId × Value → H) : Rows.typingRigidSpec.sizedB enc Tryz.checked.prog Tryz.f3 false (door os).memory #[.int .i64 0] 8 = true := by kernel_rfl
end Go.Proofs.YtllikcpbfbnmoaaGreatDoor
