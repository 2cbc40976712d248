/- Runs of calls that are told. -/
import Derived.Test.YtllikcpbfbnmoaaGreatDoorTb
import Derived.Test.YtllikcpbfbnmoaaGreatDoorTl
import Derived.KernelRfl
set_option maxRecDepth 100000
set_option maxHeartbeats 0
namespace GoEv
theorem w_td180x5432 : wfTold td180x5432 = true := by kernel_rfl
theorem c_td180x5432 : chkTold td180x5432 (F180 (GoEv.Sem (tblT F9 [] [] [] []) (nat_lit 100000)) (Told.args td180x5432) (Told.h0 td180x5432)) = true := by kernel_rfl
theorem w_td6x234 : wfTold td6x234 = true := by kernel_rfl
theorem c_td6x234 : chkTold td6x234 (F6 (GoEv.Sem (tblT F9 [] [] [] []) (nat_lit 100000)) (Told.args td6x234) (Told.h0 td6x234)) = true := by kernel_rfl
theorem w_td8x40771 : wfTold td8x40771 = true := by kernel_rfl
theorem c_td8x40771 : chkTold td8x40771 (F8 (GoEv.Sem (tblT F9 [] [] [] []) (nat_lit 100000)) (Told.args td8x40771) (Told.h0 td8x40771)) = true := by kernel_rfl
theorem w_td6x10522 : wfTold td6x10522 = true := by kernel_rfl
theorem c_td6x10522 : chkTold td6x10522 (F6 (GoEv.Sem (tblT F9 [] [] [] []) (nat_lit 100000)) (Told.args td6x10522) (Told.h0 td6x10522)) = true := by kernel_rfl
end GoEv
