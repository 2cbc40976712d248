/-
  DERIVED. GIVEN WITH THE SEED: THE CARDS: each row of YtcpknphdancjjaaGreatDoorRows.lean that lists a variable, with what it lists TIED to the program's text (the seventh form; the later family's looks); each row that meets fmt, with fmt's text TOLD by the authors' own Lean function (tested against real Go, not proved from fmt's source: count such statements apart). THE CARD IS WHAT COUNTS. Prove the row's statement (the work); the ties are given (YtcpknphdancjjaaGreatDoorTie.lean); close each card by the builder's one call (the guide's Derived/Test/ToyasCard.lean, 'card_holds'). Laid BY PROGRAM, IN A SANDBOX (cutbox-door.mjs). By AI agents, Wed Nov 11 2026. No macro, syntax, notation, axiom, sorry.
-/
import Derived.Test.YtcpknphdancjjaaGreatDoorRows
import GoSem.ClaimSeven
namespace Go.Proofs.YtcpknphdancjjaaGreatDoor
namespace Rows

/-- THE TIED CARD OF 'semtypelaw27.SyntaxLimits'. -/
def syntaxLimitsCard : Claim7 := { stood := { row := syntaxLimitsRow, standIns := [], harness := (true, "6f26cf1c7d9441fa68e6a799cf151fd51102f9e8d23dcb90cd2f8aa245e99dec"), looks := true }, kinds := [], alts := [], laidByText := true, laidKinds := [.sentinel, .sentinel, .data, .data, .data, .sentinel, .data, .data, .listed], laidTests := true, laidLooks := .later }
def SyntaxLimitsCardSaid : Prop := Claim7.holds Tryz.pinned (.plain (OpenSpec.ofChange syntaxLimitsSpec)) syntaxLimitsCard

/-- THE SECOND FORM's CARD OF 'semtypelaw27.SyntaxLimits'. -/
def syntaxLimitsUptoCard : Claim7 := { stood := { row := syntaxLimitsUptoRow, standIns := [], harness := (true, "6f26cf1c7d9441fa68e6a799cf151fd51102f9e8d23dcb90cd2f8aa245e99dec"), looks := true }, kinds := [], alts := [], laidByText := true, laidKinds := [.sentinel, .sentinel, .data, .data, .data, .sentinel, .data, .data, .listed], laidTests := true, laidLooks := .later }
def SyntaxLimitsUptoCardSaid : Prop := Claim7.holds Tryz.pinned (.plain (OpenSpec.upto syntaxLimitsSpec)) syntaxLimitsUptoCard
end Rows
end Go.Proofs.YtcpknphdancjjaaGreatDoor
