/- Runs of calls that are told. -/
import Derived.Test.YtllikcpbfbnmoaaGreatDoorTb
import Derived.Test.YtllikcpbfbnmoaaGreatDoorTl
import Derived.KernelRfl
set_option maxRecDepth 100000
set_option maxHeartbeats 0
namespace GoEv
theorem w_td6x175 : wfTold td6x175 = true := by kernel_rfl
theorem c_td6x175 : chkTold td6x175 (F6 (GoEv.Sem (tblT F9 [] [] [] []) (nat_lit 100000)) (Told.args td6x175) (Told.h0 td6x175)) = true := by kernel_rfl
theorem w_td6x249 : wfTold td6x249 = true := by kernel_rfl
theorem c_td6x249 : chkTold td6x249 (F6 (GoEv.Sem (tblT F9 [] [] [] []) (nat_lit 100000)) (Told.args td6x249) (Told.h0 td6x249)) = true := by kernel_rfl
theorem w_td6x10537 : wfTold td6x10537 = true := by kernel_rfl
theorem c_td6x10537 : chkTold td6x10537 (F6 (GoEv.Sem (tblT F9 [] [] [] []) (nat_lit 100000)) (Told.args td6x10537) (Told.h0 td6x10537)) = true := by kernel_rfl
theorem w_td6x10463 : wfTold td6x10463 = true := by kernel_rfl
theorem c_td6x10463 : chkTold td6x10463 (F6 (GoEv.Sem (tblT F9 [] [] [] []) (nat_lit 100000)) (Told.args td6x10463) (Told.h0 td6x10463)) = true := by kernel_rfl
end GoEv
