/- The list of the variables that the row lists, and their kinds. -/
import Derived.Test.YtcpknphdancjjaaGreatDoorRows
import Derived.LaidByTextLater
import Derived.LaidOnce
import Derived.LaidMore
import Derived.KernelRfl
namespace Go.Proofs.YtcpknphdancjjaaGreatDoor
open Go
def laidL : List (String × DataW Unit) := [("strconv.ErrSyntax", Rows.laid_strconv_ErrSyntax), ("strconv.ErrRange", Rows.laid_strconv_ErrRange), ("internal/strconv.uint64pow10", Rows.laid_internal_strconv_uint64pow10), ("math/bits.deBruijn32tab", Rows.laid_math_bits_deBruijn32tab), ("math/bits.deBruijn64tab", Rows.laid_math_bits_deBruijn64tab), ("bytes.ErrTooLarge", Rows.laid_bytes_ErrTooLarge), ("semtype/words.signs", Rows.laid_semtype_words_signs), ("strings.asciiSpace", Rows.laid_strings_asciiSpace), ("unicode.White_Space", Rows.laid_unicode_White_Space)]
def laidK : List LaidKind := [.sentinel, .sentinel, .data, .data, .data, .sentinel, .data, .data, .listed]
noncomputable def door (os : Os) : World := (World.doorLaid Tryz.prog 400 os).forCall (fun _ _ => 0) ⟨#[], #[.int .i64 0, .int .i64 0], []⟩
end Go.Proofs.YtcpknphdancjjaaGreatDoor
