/- The tied card of TypingRigid: for every integer the call returns true and the argument reads as it did. Condition: the package-level variables start as the program's text lays them (tied to the text). -/
import Derived.Test.YtllikcpbfbnmoaaGreatDoorFi
import Derived.Test.YtllikcpbfbnmoaaGreatDoorJj
import Derived.Test.YtllikcpbfbnmoaaGreatDoorTc
import Derived.Test.YtllikcpbfbnmoaaGreatDoorTe
import Derived.Test.YtllikcpbfbnmoaaGreatDoorKa
import Derived.Test.YtllikcpbfbnmoaaGreatDoorKc
import Derived.Test.YtllikcpbfbnmoaaGreatDoorKd
import Derived.Test.YtllikcpbfbnmoaaGreatDoorCards
import Derived.SevenTiedAt
set_option maxRecDepth 100000
namespace Go.Proofs.YtllikcpbfbnmoaaGreatDoor
open Go
theorem row_holds : Rows.TypingRigidSaid :=
  OpenClaim.holds_of_wide 3 Tryz.f3 rfl rfl rfl rfl rfl rfl rfl ⟨rfl, rfl, rfl, rfl, rfl⟩ rfl rfl rfl rfl rfl rNamed Tryz.func3 rClosed rInst rWrap
    (fun os started H enc _ => lifted os started H enc)
theorem tie : Tryz.prog.laidByTextLater laidL laidK true :=
  Program.laidByTextLater_by_one 24 8 65 hw hw2 hroot hk hg hn hrun
theorem row_tie : Rows.typingRigidRow.laidByTextAt .later Tryz.pinned [.data, .data, .data] true :=
  OpenClaim.laidByTextAt_later rfl rfl tie noOwn
theorem typingRigid_holds : Rows.TypingRigidCardSaid :=
  Claim7.holds_tied_plain_at .later [] [.data, .data, .data] true (true, "7c474ae80488150c0b0a5c6567cd816549d972ca11c0f8df7a1c9f1ed0d470d5") false
    row_holds (fun _ h => by cases h) kWf (fun _ h => by cases h) row_tie rfl ⟨rfl, rfl⟩ kMain rfl
    (fun f fn hf hfn => by
      obtain rfl : f = 3 := Option.some.inj (rNamed.symm.trans hf) |>.symm
      obtain rfl : fn = Tryz.f3 := (Option.some.inj (Tryz.func3.symm.trans hfn)).symm
      exact ⟨kLooks, fun j t ht => by
        rw [Tryz.params3] at ht
        have hm : t ∈ [3] := by simpa using Array.mem_of_getElem? ht
        exact (show Tryz.prog.wantsStandIn t = false by simpa using List.all_eq_true.1 wantsNot t hm)⟩)
    kGoes
#print axioms typingRigid_holds
end Go.Proofs.YtllikcpbfbnmoaaGreatDoor
