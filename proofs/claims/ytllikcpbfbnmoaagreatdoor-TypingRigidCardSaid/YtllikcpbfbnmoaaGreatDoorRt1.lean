/- Runs of calls that are told. -/
import Derived.Test.YtllikcpbfbnmoaaGreatDoorTb
import Derived.Test.YtllikcpbfbnmoaaGreatDoorTl
import Derived.KernelRfl
set_option maxRecDepth 100000
set_option maxHeartbeats 0
namespace GoEv
theorem w_td20x26244 : wfTold td20x26244 = true := by kernel_rfl
theorem c_td20x26244 : chkTold td20x26244 (F20 (GoEv.Sem (tblT F9 [] [] [] []) (nat_lit 100000)) (Told.args td20x26244) (Told.h0 td20x26244)) = true := by kernel_rfl
theorem w_td6x244 : wfTold td6x244 = true := by kernel_rfl
theorem c_td6x244 : chkTold td6x244 (F6 (GoEv.Sem (tblT F9 [] [] [] []) (nat_lit 100000)) (Told.args td6x244) (Told.h0 td6x244)) = true := by kernel_rfl
theorem w_td6x10519 : wfTold td6x10519 = true := by kernel_rfl
theorem c_td6x10519 : chkTold td6x10519 (F6 (GoEv.Sem (tblT F9 [] [] [] []) (nat_lit 100000)) (Told.args td6x10519) (Told.h0 td6x10519)) = true := by kernel_rfl
theorem w_td6x10599 : wfTold td6x10599 = true := by kernel_rfl
theorem c_td6x10599 : chkTold td6x10599 (F6 (GoEv.Sem (tblT F9 [] [] [] []) (nat_lit 100000)) (Told.args td6x10599) (Told.h0 td6x10599)) = true := by kernel_rfl
end GoEv
