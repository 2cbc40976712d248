/- Closed facts of the row: the name and the shape of the function. -/
import Derived.Test.YtllikcpbfbnmoaaGreatDoorJa
import Derived.JoinedOf
import Derived.KernelRfl
set_option maxRecDepth 100000
namespace Go.Proofs.YtllikcpbfbnmoaaGreatDoor
open Go
theorem rNamed : Tryz.pinned.checked.prog.funcNamed Rows.typingRigidRow.func = some 3 := by kernel_rfl
theorem rInst : Tryz.f3.isInstance Tryz.pinned.checked.prog Rows.typingRigidRow.origin Rows.typingRigidRow.targs := of_decide_eq_true (by kernel_rfl)
theorem rWrap : Tryz.f3.isWrapper Tryz.pinned.checked.prog Rows.typingRigidRow.wrapper Rows.typingRigidRow.mainSum := by unfold Func.isWrapper; first | (rw [if_pos (by decide +kernel)]; kernel_rfl) | (rw [if_neg (by decide +kernel)]; exact ⟨rfl, rfl⟩)
end Go.Proofs.YtllikcpbfbnmoaaGreatDoor
