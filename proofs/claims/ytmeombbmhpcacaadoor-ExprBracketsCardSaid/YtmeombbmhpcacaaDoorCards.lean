/-
  DERIVED. GIVEN WITH THE SEED: THE CARDS: each row of YtmeombbmhpcacaaDoorRows.lean that lists a variable, with what it lists TIED to the program's text (the seventh form; the later family's looks); each row that meets fmt, with fmt's text TOLD by the authors' own Lean function (tested against real Go, not proved from fmt's source: count such statements apart). THE CARD IS WHAT COUNTS. Prove the row's statement (the work); the ties are given (YtmeombbmhpcacaaDoorTie.lean); close each card by the builder's one call (the guide's Derived/Test/ToyasCard.lean, 'card_holds'). Laid BY PROGRAM, IN A SANDBOX (cutbox-door.mjs). By AI agents, Wed Nov 11 2026. No macro, syntax, notation, axiom, sorry.
-/
import Derived.Test.YtmeombbmhpcacaaDoorRows
import GoSem.ClaimSeven
namespace Go.Proofs.YtmeombbmhpcacaaDoor
namespace Rows

/-- THE TIED CARD OF 'scrutinylaw13.ExprTells'. -/
def exprTellsCard : Claim7 := { stood := { row := exprTellsRow, standIns := [], harness := (true, "4c72f3b6d2113943230e9f13c36715f544f27f19005705b4ddcce9c5742e6e05"), looks := false }, kinds := [], alts := [], laidByText := true, laidKinds := [.data, .data, .data, .widerDeep, .data], laidTests := true, laidLooks := .later }
def ExprTellsCardSaid : Prop := Claim7.holds Tryd.pinned (.plain (OpenSpec.ofChange exprTellsSpec)) exprTellsCard

/-- THE TIED CARD OF 'scrutinylaw13.ExprBack'. -/
def exprBackCard : Claim7 := { stood := { row := exprBackRow, standIns := [], harness := (true, "4c72f3b6d2113943230e9f13c36715f544f27f19005705b4ddcce9c5742e6e05"), looks := false }, kinds := [], alts := [], laidByText := true, laidKinds := [.data, .data, .data, .widerDeep, .data], laidTests := true, laidLooks := .later }
def ExprBackCardSaid : Prop := Claim7.holds Tryd.pinned (.plain (OpenSpec.ofChange exprBackSpec)) exprBackCard

/-- THE TIED CARD OF 'scrutinylaw13.ExprLaws'. -/
def exprLawsCard : Claim7 := { stood := { row := exprLawsRow, standIns := [], harness := (true, "4c72f3b6d2113943230e9f13c36715f544f27f19005705b4ddcce9c5742e6e05"), looks := false }, kinds := [], alts := [], laidByText := true, laidKinds := [.data, .data, .data, .widerDeep, .data], laidTests := true, laidLooks := .later }
def ExprLawsCardSaid : Prop := Claim7.holds Tryd.pinned (.plain (OpenSpec.ofChange exprLawsSpec)) exprLawsCard

/-- THE TIED CARD OF 'scrutinylaw13.ExprBinds'. -/
def exprBindsCard : Claim7 := { stood := { row := exprBindsRow, standIns := [], harness := (true, "4c72f3b6d2113943230e9f13c36715f544f27f19005705b4ddcce9c5742e6e05"), looks := false }, kinds := [], alts := [], laidByText := true, laidKinds := [.data, .data, .data, .widerDeep, .data], laidTests := true, laidLooks := .later }
def ExprBindsCardSaid : Prop := Claim7.holds Tryd.pinned (.plain (OpenSpec.ofChange exprBindsSpec)) exprBindsCard

/-- THE TIED CARD OF 'scrutinylaw13.ExprBrackets'. -/
def exprBracketsCard : Claim7 := { stood := { row := exprBracketsRow, standIns := [], harness := (true, "4c72f3b6d2113943230e9f13c36715f544f27f19005705b4ddcce9c5742e6e05"), looks := false }, kinds := [], alts := [], laidByText := true, laidKinds := [.data, .data, .data, .widerDeep, .data], laidTests := true, laidLooks := .later }
def ExprBracketsCardSaid : Prop := Claim7.holds Tryd.pinned (.plain (OpenSpec.ofChange exprBracketsSpec)) exprBracketsCard

/-- THE TIED CARD OF 'scrutinylaw13.ExprTypes'. -/
def exprTypesCard : Claim7 := { stood := { row := exprTypesRow, standIns := [], harness := (true, "4c72f3b6d2113943230e9f13c36715f544f27f19005705b4ddcce9c5742e6e05"), looks := false }, kinds := [], alts := [], laidByText := true, laidKinds := [.data, .data, .data, .widerDeep, .data], laidTests := true, laidLooks := .later }
def ExprTypesCardSaid : Prop := Claim7.holds Tryd.pinned (.plain (OpenSpec.ofChange exprTypesSpec)) exprTypesCard

/-- THE TIED CARD OF 'scrutinylaw13.ExprNames'. -/
def exprNamesCard : Claim7 := { stood := { row := exprNamesRow, standIns := [], harness := (true, "4c72f3b6d2113943230e9f13c36715f544f27f19005705b4ddcce9c5742e6e05"), looks := false }, kinds := [], alts := [], laidByText := true, laidKinds := [.data, .data, .data, .widerDeep, .data], laidTests := true, laidLooks := .later }
def ExprNamesCardSaid : Prop := Claim7.holds Tryd.pinned (.plain (OpenSpec.ofChange exprNamesSpec)) exprNamesCard

/-- THE SECOND FORM's CARD OF 'scrutinylaw13.ExprTells'. -/
def exprTellsUptoCard : Claim7 := { stood := { row := exprTellsUptoRow, standIns := [], harness := (true, "4c72f3b6d2113943230e9f13c36715f544f27f19005705b4ddcce9c5742e6e05"), looks := false }, kinds := [], alts := [], laidByText := true, laidKinds := [.data, .data, .data, .widerDeep, .data], laidTests := true, laidLooks := .later }
def ExprTellsUptoCardSaid : Prop := Claim7.holds Tryd.pinned (.plain (OpenSpec.upto exprTellsSpec)) exprTellsUptoCard

/-- THE SECOND FORM's CARD OF 'scrutinylaw13.ExprBack'. -/
def exprBackUptoCard : Claim7 := { stood := { row := exprBackUptoRow, standIns := [], harness := (true, "4c72f3b6d2113943230e9f13c36715f544f27f19005705b4ddcce9c5742e6e05"), looks := false }, kinds := [], alts := [], laidByText := true, laidKinds := [.data, .data, .data, .widerDeep, .data], laidTests := true, laidLooks := .later }
def ExprBackUptoCardSaid : Prop := Claim7.holds Tryd.pinned (.plain (OpenSpec.upto exprBackSpec)) exprBackUptoCard

/-- THE SECOND FORM's CARD OF 'scrutinylaw13.ExprLaws'. -/
def exprLawsUptoCard : Claim7 := { stood := { row := exprLawsUptoRow, standIns := [], harness := (true, "4c72f3b6d2113943230e9f13c36715f544f27f19005705b4ddcce9c5742e6e05"), looks := false }, kinds := [], alts := [], laidByText := true, laidKinds := [.data, .data, .data, .widerDeep, .data], laidTests := true, laidLooks := .later }
def ExprLawsUptoCardSaid : Prop := Claim7.holds Tryd.pinned (.plain (OpenSpec.upto exprLawsSpec)) exprLawsUptoCard

/-- THE SECOND FORM's CARD OF 'scrutinylaw13.ExprBinds'. -/
def exprBindsUptoCard : Claim7 := { stood := { row := exprBindsUptoRow, standIns := [], harness := (true, "4c72f3b6d2113943230e9f13c36715f544f27f19005705b4ddcce9c5742e6e05"), looks := false }, kinds := [], alts := [], laidByText := true, laidKinds := [.data, .data, .data, .widerDeep, .data], laidTests := true, laidLooks := .later }
def ExprBindsUptoCardSaid : Prop := Claim7.holds Tryd.pinned (.plain (OpenSpec.upto exprBindsSpec)) exprBindsUptoCard

/-- THE SECOND FORM's CARD OF 'scrutinylaw13.ExprBrackets'. -/
def exprBracketsUptoCard : Claim7 := { stood := { row := exprBracketsUptoRow, standIns := [], harness := (true, "4c72f3b6d2113943230e9f13c36715f544f27f19005705b4ddcce9c5742e6e05"), looks := false }, kinds := [], alts := [], laidByText := true, laidKinds := [.data, .data, .data, .widerDeep, .data], laidTests := true, laidLooks := .later }
def ExprBracketsUptoCardSaid : Prop := Claim7.holds Tryd.pinned (.plain (OpenSpec.upto exprBracketsSpec)) exprBracketsUptoCard

/-- THE SECOND FORM's CARD OF 'scrutinylaw13.ExprTypes'. -/
def exprTypesUptoCard : Claim7 := { stood := { row := exprTypesUptoRow, standIns := [], harness := (true, "4c72f3b6d2113943230e9f13c36715f544f27f19005705b4ddcce9c5742e6e05"), looks := false }, kinds := [], alts := [], laidByText := true, laidKinds := [.data, .data, .data, .widerDeep, .data], laidTests := true, laidLooks := .later }
def ExprTypesUptoCardSaid : Prop := Claim7.holds Tryd.pinned (.plain (OpenSpec.upto exprTypesSpec)) exprTypesUptoCard

/-- THE SECOND FORM's CARD OF 'scrutinylaw13.ExprNames'. -/
def exprNamesUptoCard : Claim7 := { stood := { row := exprNamesUptoRow, standIns := [], harness := (true, "4c72f3b6d2113943230e9f13c36715f544f27f19005705b4ddcce9c5742e6e05"), looks := false }, kinds := [], alts := [], laidByText := true, laidKinds := [.data, .data, .data, .widerDeep, .data], laidTests := true, laidLooks := .later }
def ExprNamesUptoCardSaid : Prop := Claim7.holds Tryd.pinned (.plain (OpenSpec.upto exprNamesSpec)) exprNamesUptoCard
end Rows
end Go.Proofs.YtmeombbmhpcacaaDoor
