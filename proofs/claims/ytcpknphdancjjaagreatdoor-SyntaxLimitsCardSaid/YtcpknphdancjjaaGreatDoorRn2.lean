/- The closed calls, computed: part 3. -/
import Derived.Test.YtcpknphdancjjaaGreatDoorIn
import Derived.KernelRfl
set_option maxRecDepth 100000
namespace Go.Proofs.YtcpknphdancjjaaGreatDoor.Ev
open GoEv
theorem run20 : isT (GoEv.Sem tbl (nat_lit 100000) (nat_lit 3) [.i (Int.ofNat (nat_lit 2)), .i (Int.ofNat (nat_lit 0))] h0) = true := by kernel_rfl
theorem run21 : isT (GoEv.Sem tbl (nat_lit 100000) (nat_lit 3) [.i (Int.ofNat (nat_lit 2)), .i (Int.ofNat (nat_lit 1))] h0) = true := by kernel_rfl
theorem run22 : isT (GoEv.Sem tbl (nat_lit 100000) (nat_lit 3) [.i (Int.ofNat (nat_lit 2)), .i (Int.ofNat (nat_lit 2))] h0) = true := by kernel_rfl
theorem run23 : isT (GoEv.Sem tbl (nat_lit 100000) (nat_lit 3) [.i (Int.ofNat (nat_lit 2)), .i (Int.ofNat (nat_lit 3))] h0) = true := by kernel_rfl
theorem run24 : isT (GoEv.Sem tbl (nat_lit 100000) (nat_lit 3) [.i (Int.ofNat (nat_lit 2)), .i (Int.ofNat (nat_lit 4))] h0) = true := by kernel_rfl
theorem run25 : isT (GoEv.Sem tbl (nat_lit 100000) (nat_lit 3) [.i (Int.ofNat (nat_lit 2)), .i (Int.ofNat (nat_lit 5))] h0) = true := by kernel_rfl
end Go.Proofs.YtcpknphdancjjaaGreatDoor.Ev
