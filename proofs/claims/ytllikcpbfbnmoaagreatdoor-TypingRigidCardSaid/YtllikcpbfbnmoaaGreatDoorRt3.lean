/- Runs of calls that are told. -/
import Derived.Test.YtllikcpbfbnmoaaGreatDoorTb
import Derived.Test.YtllikcpbfbnmoaaGreatDoorTl
import Derived.KernelRfl
set_option maxRecDepth 100000
set_option maxHeartbeats 0
namespace GoEv
theorem w_td6x231 : wfTold td6x231 = true := by kernel_rfl
theorem c_td6x231 : chkTold td6x231 (F6 (GoEv.Sem (tblT F9 [] [] [] []) (nat_lit 100000)) (Told.args td6x231) (Told.h0 td6x231)) = true := by kernel_rfl
theorem w_td6x311 : wfTold td6x311 = true := by kernel_rfl
theorem c_td6x311 : chkTold td6x311 (F6 (GoEv.Sem (tblT F9 [] [] [] []) (nat_lit 100000)) (Told.args td6x311) (Told.h0 td6x311)) = true := by kernel_rfl
theorem w_td6x10532 : wfTold td6x10532 = true := by kernel_rfl
theorem c_td6x10532 : chkTold td6x10532 (F6 (GoEv.Sem (tblT F9 [] [] [] []) (nat_lit 100000)) (Told.args td6x10532) (Told.h0 td6x10532)) = true := by kernel_rfl
end GoEv
