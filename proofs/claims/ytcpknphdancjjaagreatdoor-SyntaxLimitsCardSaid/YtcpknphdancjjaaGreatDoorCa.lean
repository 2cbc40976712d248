/- The tied card of SyntaxLimits: for every two integers the call returns true and each argument reads as it did. Condition: the package-level variables start as the program's text lays them (tied to the text). -/
import Derived.Test.YtcpknphdancjjaaGreatDoorFi
import Derived.Test.YtcpknphdancjjaaGreatDoorJj
import Derived.Test.YtcpknphdancjjaaGreatDoorTc
import Derived.Test.YtcpknphdancjjaaGreatDoorTe
import Derived.Test.YtcpknphdancjjaaGreatDoorKa
import Derived.Test.YtcpknphdancjjaaGreatDoorKb
import Derived.Test.YtcpknphdancjjaaGreatDoorKc
import Derived.Test.YtcpknphdancjjaaGreatDoorKd
import Derived.Test.YtcpknphdancjjaaGreatDoorCards
import Derived.SevenTiedAt
set_option maxRecDepth 100000
namespace Go.Proofs.YtcpknphdancjjaaGreatDoor
open Go
theorem row_holds : Rows.SyntaxLimitsSaid :=
  OpenClaim.holds_of_wide 3 Tryz.f3 rfl rfl rfl rfl rfl rfl rfl ⟨rfl, rfl, rfl, rfl, rfl⟩ rfl rfl rfl rfl rfl rNamed Tryz.func3 rClosed rInst rWrap
    (fun os started H enc _ => lifted os started H enc)
theorem tie : Tryz.prog.laidByTextLater laidL laidK true :=
  Program.laidByTextLater_by_one 400 8 1024 hw hw2 hroot hk hg hn hrun
theorem row_tie : Rows.syntaxLimitsRow.laidByTextAt .later Tryz.pinned [.sentinel, .sentinel, .data, .data, .data, .sentinel, .data, .data, .listed] true :=
  OpenClaim.laidByTextAt_later rfl rfl tie noOwn
theorem syntaxLimits_holds : Rows.SyntaxLimitsCardSaid :=
  Claim7.holds_tied_plain_at .later [] [.sentinel, .sentinel, .data, .data, .data, .sentinel, .data, .data, .listed] true (true, "6f26cf1c7d9441fa68e6a799cf151fd51102f9e8d23dcb90cd2f8aa245e99dec") true
    row_holds (fun _ h => by cases h) kWf (fun _ h => by cases h) row_tie rfl ⟨rfl, rfl⟩ kMain rfl
    (fun f fn hf hfn => by
      obtain rfl : f = 3 := Option.some.inj (rNamed.symm.trans hf) |>.symm
      obtain rfl : fn = Tryz.f3 := (Option.some.inj (Tryz.func3.symm.trans hfn)).symm
      exact ⟨kLooks, fun j t ht => by
        rw [Tryz.params3] at ht
        have hm : t ∈ [3, 3] := by simpa using Array.mem_of_getElem? ht
        exact (show Tryz.prog.wantsStandIn t = false by simpa using List.all_eq_true.1 wantsNot t hm)⟩)
    kGoes
#print axioms syntaxLimits_holds
end Go.Proofs.YtcpknphdancjjaaGreatDoor
