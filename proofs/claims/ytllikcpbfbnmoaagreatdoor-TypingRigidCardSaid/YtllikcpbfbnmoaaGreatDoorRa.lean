/- The run of the closed check. -/
import Derived.Test.YtllikcpbfbnmoaaGreatDoorTb
import Derived.Test.YtllikcpbfbnmoaaGreatDoorTl
import Derived.KernelRfl
set_option maxRecDepth 100000
set_option maxHeartbeats 0
namespace GoEv
theorem run9 : isT (F9 (GoEv.Sem (tblT F9 [] [td8x40771] [td20x26244] [td180x5432]) (nat_lit 100000)) [] (H.mk (nat_lit 4) T.lf)) = true := by kernel_rfl
end GoEv
