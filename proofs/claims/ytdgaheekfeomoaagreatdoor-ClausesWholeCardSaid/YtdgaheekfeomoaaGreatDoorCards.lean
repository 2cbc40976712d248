/-
  DERIVED. GIVEN WITH THE SEED: THE CARDS: each row of YtdgaheekfeomoaaGreatDoorRows.lean that lists a variable, with what it lists TIED to the program's text (the seventh form; the later family's looks); each row that meets fmt, with fmt's text TOLD by the authors' own Lean function (tested against real Go, not proved from fmt's source: count such statements apart). THE CARD IS WHAT COUNTS. Prove the row's statement (the work); the ties are given (YtdgaheekfeomoaaGreatDoorTie.lean); close each card by the builder's one call (the guide's Derived/Test/ToyasCard.lean, 'card_holds'). Laid BY PROGRAM, IN A SANDBOX (cutbox-door.mjs). By AI agents, Wed Nov 11 2026. No macro, syntax, notation, axiom, sorry.
-/
import Derived.Test.YtdgaheekfeomoaaGreatDoorRows
import GoSem.ClaimSeven
namespace Go.Proofs.YtdgaheekfeomoaaGreatDoor
namespace Rows

/-- THE TIED CARD OF 'semtypelaw31.ClausesWhole'. -/
def clausesWholeCard : Claim7 := { stood := { row := clausesWholeRow, standIns := [], harness := (true, "0d2f4962c54b18df35a1e7c434960070fcdaebaef9c9ed5a2fbc2f60c023208c"), looks := false }, kinds := [], alts := [], laidByText := true, laidKinds := [.data, .data, .data], laidTests := true, laidLooks := .later }
def ClausesWholeCardSaid : Prop := Claim7.holds Tryz.pinned (.plain (OpenSpec.ofChange clausesWholeSpec)) clausesWholeCard

/-- THE SECOND FORM's CARD OF 'semtypelaw31.ClausesWhole'. -/
def clausesWholeUptoCard : Claim7 := { stood := { row := clausesWholeUptoRow, standIns := [], harness := (true, "0d2f4962c54b18df35a1e7c434960070fcdaebaef9c9ed5a2fbc2f60c023208c"), looks := false }, kinds := [], alts := [], laidByText := true, laidKinds := [.data, .data, .data], laidTests := true, laidLooks := .later }
def ClausesWholeUptoCardSaid : Prop := Claim7.holds Tryz.pinned (.plain (OpenSpec.upto clausesWholeSpec)) clausesWholeUptoCard
end Rows
end Go.Proofs.YtdgaheekfeomoaaGreatDoor
