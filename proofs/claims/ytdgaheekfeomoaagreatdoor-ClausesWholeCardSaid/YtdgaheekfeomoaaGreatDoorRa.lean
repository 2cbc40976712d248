/- The run of the closed check. -/
import Derived.Test.YtdgaheekfeomoaaGreatDoorTb
import Derived.Test.YtdgaheekfeomoaaGreatDoorTl
import Derived.KernelRfl
set_option linter.unusedVariables false
set_option linter.unusedSimpArgs false
set_option maxRecDepth 100000
namespace GoEv
theorem run8 : isT (F8 (GoEv.Sem (tblT F8 [td28x11611, td28x19469, td28x22270] [td32x5019, td32x17579]) (nat_lit 100000)) [] (H.mk (nat_lit 4) T.lf)) = true := by kernel_rfl
end GoEv
