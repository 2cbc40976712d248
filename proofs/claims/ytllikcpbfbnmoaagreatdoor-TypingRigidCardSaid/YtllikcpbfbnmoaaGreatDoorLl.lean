/- The list of the variables that the row lists, and their kinds. -/
import Derived.Test.YtllikcpbfbnmoaaGreatDoorRows
import Derived.LaidByTextLater
import Derived.LaidOnce
import Derived.LaidMore
import Derived.KernelRfl
namespace Go.Proofs.YtllikcpbfbnmoaaGreatDoor
open Go
def laidL : List (String × DataW Unit) := [("internal/strconv.uint64pow10", Rows.laid_internal_strconv_uint64pow10), ("math/bits.deBruijn32tab", Rows.laid_math_bits_deBruijn32tab), ("math/bits.deBruijn64tab", Rows.laid_math_bits_deBruijn64tab)]
def laidK : List LaidKind := [.data, .data, .data]
noncomputable def door (os : Os) : World := (World.doorLaid Tryz.prog 24 os).forCall (fun _ _ => 0) ⟨#[], #[.int .i64 0], []⟩
end Go.Proofs.YtllikcpbfbnmoaaGreatDoor
