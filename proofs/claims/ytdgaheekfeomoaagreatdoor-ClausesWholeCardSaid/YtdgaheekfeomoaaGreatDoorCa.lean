/- The tied card of ClausesWhole: for every slice of integers and every integer the call returns true and each argument reads as it did. Condition: the package-level variables start as the program's text lays them (tied to the text). -/
import Derived.Test.YtdgaheekfeomoaaGreatDoorFi
import Derived.Test.YtdgaheekfeomoaaGreatDoorJj
import Derived.Test.YtdgaheekfeomoaaGreatDoorTie
import Derived.Test.YtdgaheekfeomoaaGreatDoorKa
import Derived.Test.YtdgaheekfeomoaaGreatDoorKb
import Derived.Test.YtdgaheekfeomoaaGreatDoorKc
import Derived.Test.YtdgaheekfeomoaaGreatDoorKd
import Derived.Test.YtdgaheekfeomoaaGreatDoorCards
import Derived.SevenTiedAt
set_option maxRecDepth 100000
namespace Go.Proofs.YtdgaheekfeomoaaGreatDoor
open Go
theorem row_holds : Rows.ClausesWholeSaid :=
  OpenClaim.holds_of_wide 3 Tryz.f3 rfl rfl rfl rfl rfl rfl rfl ⟨rfl, rfl, rfl, rfl, rfl⟩ rfl rfl rfl rfl rfl rNamed Tryz.func3 rClosed rInst rWrap
    (fun os started H enc _ => lifted os started H enc)
theorem clausesWhole_holds : Rows.ClausesWholeCardSaid :=
  Claim7.holds_tied_plain_at .later [] [.data, .data, .data] true (true, "0d2f4962c54b18df35a1e7c434960070fcdaebaef9c9ed5a2fbc2f60c023208c") false
    row_holds (fun _ h => by cases h) kWf (fun _ h => by cases h) clausesWhole_row_tie rfl ⟨rfl, rfl⟩ kMain rfl
    (fun f fn hf hfn => by
      obtain rfl : f = 3 := Option.some.inj (rNamed.symm.trans hf) |>.symm
      obtain rfl : fn = Tryz.f3 := (Option.some.inj (Tryz.func3.symm.trans hfn)).symm
      exact ⟨kLooks, fun j t ht => by
        rw [Tryz.params3] at ht
        have hm : t ∈ [22, 3] := by simpa using Array.mem_of_getElem? ht
        exact (show Tryz.prog.wantsStandIn t = false by simpa using List.all_eq_true.1 wantsNot t hm)⟩)
    kGoes
#print axioms clausesWhole_holds
end Go.Proofs.YtdgaheekfeomoaaGreatDoor
