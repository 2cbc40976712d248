/- The runs of the calls that are told. -/
import Derived.Test.YtdgaheekfeomoaaGreatDoorTb
import Derived.Test.YtdgaheekfeomoaaGreatDoorTl
import Derived.KernelRfl
set_option linter.unusedVariables false
set_option linter.unusedSimpArgs false
set_option maxRecDepth 100000
namespace GoEv
theorem w_td32x5019 : wfTold td32x5019 = true := by kernel_rfl
theorem c_td32x5019 : chkTold td32x5019 (F32 (GoEv.Sem (tblT F8 [] []) (nat_lit 100000)) (Told.args td32x5019) (Told.h0 td32x5019)) = true := by kernel_rfl
theorem w_td28x11611 : wfTold td28x11611 = true := by kernel_rfl
theorem c_td28x11611 : chkTold td28x11611 (F28 (GoEv.Sem (tblT F8 [] []) (nat_lit 100000)) (Told.args td28x11611) (Told.h0 td28x11611)) = true := by kernel_rfl
theorem w_td32x17579 : wfTold td32x17579 = true := by kernel_rfl
theorem c_td32x17579 : chkTold td32x17579 (F32 (GoEv.Sem (tblT F8 [] []) (nat_lit 100000)) (Told.args td32x17579) (Told.h0 td32x17579)) = true := by kernel_rfl
theorem w_td28x19469 : wfTold td28x19469 = true := by kernel_rfl
theorem c_td28x19469 : chkTold td28x19469 (F28 (GoEv.Sem (tblT F8 [] []) (nat_lit 100000)) (Told.args td28x19469) (Told.h0 td28x19469)) = true := by kernel_rfl
theorem w_td28x22270 : wfTold td28x22270 = true := by kernel_rfl
theorem c_td28x22270 : chkTold td28x22270 (F28 (GoEv.Sem (tblT F8 [] []) (nat_lit 100000)) (Told.args td28x22270) (Told.h0 td28x22270)) = true := by kernel_rfl
end GoEv
