/-
  DERIVED. GIVEN WITH THE SEED: THE CARDS: each row of YthhmkmmmbcjghaaGreatDoorRows.lean that lists a variable, with what it lists TIED to the program's text (the seventh form; the later family's looks); each row that meets fmt, with fmt's text TOLD by the authors' own Lean function (tested against real Go, not proved from fmt's source: count such statements apart). THE CARD IS WHAT COUNTS. Prove the row's statement (the work); the ties are given (YthhmkmmmbcjghaaGreatDoorTie.lean); close each card by the builder's one call (the guide's Derived/Test/ToyasCard.lean, 'card_holds'). Laid BY PROGRAM, IN A SANDBOX (cutbox-door.mjs). By AI agents, Wed Nov 11 2026. No macro, syntax, notation, axiom, sorry.
-/
import Derived.Test.YthhmkmmmbcjghaaGreatDoorRows
import GoSem.ClaimSeven
namespace Go.Proofs.YthhmkmmmbcjghaaGreatDoor
namespace Rows

/-- THE TIED CARD OF 'scrutinylaw23.CheckFormula'. -/
def checkFormulaCard : Claim7 := { stood := { row := checkFormulaRow, standIns := [], harness := (true, "dfaf1639b948748ad87145ef0de88bb8a2eb5749cea95bc87473546c0aa5474d"), looks := true }, kinds := [], alts := [], laidByText := true, laidKinds := [.data, .data, .data, .widerDeep, .data], laidTests := true, laidLooks := .later }
def CheckFormulaCardSaid : Prop := Claim7.holds Tryz.pinned (.plain (OpenSpec.ofChange checkFormulaSpec)) checkFormulaCard

/-- THE SECOND FORM's CARD OF 'scrutinylaw23.CheckFormula'. -/
def checkFormulaUptoCard : Claim7 := { stood := { row := checkFormulaUptoRow, standIns := [], harness := (true, "dfaf1639b948748ad87145ef0de88bb8a2eb5749cea95bc87473546c0aa5474d"), looks := true }, kinds := [], alts := [], laidByText := true, laidKinds := [.data, .data, .data, .widerDeep, .data], laidTests := true, laidLooks := .later }
def CheckFormulaUptoCardSaid : Prop := Claim7.holds Tryz.pinned (.plain (OpenSpec.upto checkFormulaSpec)) checkFormulaUptoCard
end Rows
end Go.Proofs.YthhmkmmmbcjghaaGreatDoor
