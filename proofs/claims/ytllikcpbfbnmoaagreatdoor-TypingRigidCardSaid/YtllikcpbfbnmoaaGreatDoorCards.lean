/-
  DERIVED. GIVEN WITH THE SEED: THE CARDS: each row of YtllikcpbfbnmoaaGreatDoorRows.lean that lists a variable, with what it lists TIED to the program's text (the seventh form; the later family's looks); each row that meets fmt, with fmt's text TOLD by the authors' own Lean function (tested against real Go, not proved from fmt's source: count such statements apart). THE CARD IS WHAT COUNTS. Prove the row's statement (the work); the ties are given (YtllikcpbfbnmoaaGreatDoorTie.lean); close each card by the builder's one call (the guide's Derived/Test/ToyasCard.lean, 'card_holds'). Laid BY PROGRAM, IN A SANDBOX (cutbox-door.mjs). By AI agents, Wed Nov 11 2026. No macro, syntax, notation, axiom, sorry.
-/
import Derived.Test.YtllikcpbfbnmoaaGreatDoorRows
import GoSem.ClaimSeven
namespace Go.Proofs.YtllikcpbfbnmoaaGreatDoor
namespace Rows

/-- THE TIED CARD OF 'semtypelaw32.TypingRigid'. -/
def typingRigidCard : Claim7 := { stood := { row := typingRigidRow, standIns := [], harness := (true, "7c474ae80488150c0b0a5c6567cd816549d972ca11c0f8df7a1c9f1ed0d470d5"), looks := false }, kinds := [], alts := [], laidByText := true, laidKinds := [.data, .data, .data], laidTests := true, laidLooks := .later }
def TypingRigidCardSaid : Prop := Claim7.holds Tryz.pinned (.plain (OpenSpec.ofChange typingRigidSpec)) typingRigidCard

/-- THE SECOND FORM's CARD OF 'semtypelaw32.TypingRigid'. -/
def typingRigidUptoCard : Claim7 := { stood := { row := typingRigidUptoRow, standIns := [], harness := (true, "7c474ae80488150c0b0a5c6567cd816549d972ca11c0f8df7a1c9f1ed0d470d5"), looks := false }, kinds := [], alts := [], laidByText := true, laidKinds := [.data, .data, .data], laidTests := true, laidLooks := .later }
def TypingRigidUptoCardSaid : Prop := Claim7.holds Tryz.pinned (.plain (OpenSpec.upto typingRigidSpec)) typingRigidUptoCard
end Rows
end Go.Proofs.YtllikcpbfbnmoaaGreatDoor
