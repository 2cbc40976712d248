/- Runs of the law. -/
import Derived.Test.YtllikcpbfbnmoaaGreatDoorTb
import Derived.Test.YtllikcpbfbnmoaaGreatDoorTl
import Derived.KernelRfl
set_option maxRecDepth 100000
set_option maxHeartbeats 0
namespace GoEv
theorem run0 : isT (GoEv.Sem (tblT (quiet F9) [td6x175, td6x231, td6x234, td6x244, td6x249, td6x311, td6x10519, td6x10537, td6x10532, td6x10522, td6x10599, td6x10463] [] [] []) (nat_lit 100000) (nat_lit 3) [.i (Int.ofNat (nat_lit 0))] (H.mk (nat_lit 4) T.lf)) = true := by kernel_rfl
theorem run4 : isT (GoEv.Sem (tblT (quiet F9) [td6x175, td6x231, td6x234, td6x244, td6x249, td6x311, td6x10519, td6x10537, td6x10532, td6x10522, td6x10599, td6x10463] [] [] []) (nat_lit 100000) (nat_lit 3) [.i (Int.ofNat (nat_lit 4))] (H.mk (nat_lit 4) T.lf)) = true := by kernel_rfl
end GoEv
