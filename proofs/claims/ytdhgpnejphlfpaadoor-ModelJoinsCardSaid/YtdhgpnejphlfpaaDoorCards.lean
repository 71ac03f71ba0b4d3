/-
  DERIVED. GIVEN WITH THE SEED: THE CARDS: each row of YtdhgpnejphlfpaaDoorRows.lean that lists a variable, with what it lists TIED to the program's text (the seventh form; the later family's looks); each row that meets fmt, with fmt's text TOLD by the authors' own Lean function (tested against real Go, not proved from fmt's source: count such statements apart). THE CARD IS WHAT COUNTS. Prove the row's statement (the work); the ties are given (YtdhgpnejphlfpaaDoorTie.lean); close each card by the builder's one call (the guide's Derived/Test/ToyasCard.lean, 'card_holds'). Laid BY PROGRAM, IN A SANDBOX (cutbox-door.mjs). By AI agents, Wed Nov 11 2026. No macro, syntax, notation, axiom, sorry.
-/
import Derived.Test.YtdhgpnejphlfpaaDoorRows
import GoSem.ClaimSeven
namespace Go.Proofs.YtdhgpnejphlfpaaDoor
namespace Rows

/-- THE TIED CARD OF 'scrutinylaw14.ModelBlanks'. -/
def modelBlanksCard : Claim7 := { stood := { row := modelBlanksRow, standIns := [], harness := (true, "cf72e4e8cb3928149b5c7764d61693e3f63222c184eb7be422a5e6a432897bd1"), looks := true }, kinds := [], alts := [], laidByText := true, laidKinds := [.widerDeep, .data], laidTests := true, laidLooks := .later }
def ModelBlanksCardSaid : Prop := Claim7.holds Tryd.pinned (.plain (OpenSpec.ofChange modelBlanksSpec)) modelBlanksCard

/-- THE TIED CARD OF 'scrutinylaw14.ModelNames'. -/
def modelNamesCard : Claim7 := { stood := { row := modelNamesRow, standIns := [], harness := (true, "cf72e4e8cb3928149b5c7764d61693e3f63222c184eb7be422a5e6a432897bd1"), looks := true }, kinds := [], alts := [], laidByText := true, laidKinds := [.widerDeep, .data], laidTests := true, laidLooks := .later }
def ModelNamesCardSaid : Prop := Claim7.holds Tryd.pinned (.plain (OpenSpec.ofChange modelNamesSpec)) modelNamesCard

/-- THE TIED CARD OF 'scrutinylaw14.ModelRanges'. -/
def modelRangesCard : Claim7 := { stood := { row := modelRangesRow, standIns := [], harness := (true, "cf72e4e8cb3928149b5c7764d61693e3f63222c184eb7be422a5e6a432897bd1"), looks := true }, kinds := [], alts := [], laidByText := true, laidKinds := [.widerDeep, .data], laidTests := true, laidLooks := .later }
def ModelRangesCardSaid : Prop := Claim7.holds Tryd.pinned (.plain (OpenSpec.ofChange modelRangesSpec)) modelRangesCard

/-- THE TIED CARD OF 'scrutinylaw14.ModelMany'. -/
def modelManyCard : Claim7 := { stood := { row := modelManyRow, standIns := [], harness := (true, "cf72e4e8cb3928149b5c7764d61693e3f63222c184eb7be422a5e6a432897bd1"), looks := true }, kinds := [], alts := [], laidByText := true, laidKinds := [.widerDeep, .data], laidTests := true, laidLooks := .later }
def ModelManyCardSaid : Prop := Claim7.holds Tryd.pinned (.plain (OpenSpec.ofChange modelManySpec)) modelManyCard

/-- THE TIED CARD OF 'scrutinylaw14.ModelJoins'. -/
def modelJoinsCard : Claim7 := { stood := { row := modelJoinsRow, standIns := [], harness := (true, "cf72e4e8cb3928149b5c7764d61693e3f63222c184eb7be422a5e6a432897bd1"), looks := true }, kinds := [], alts := [], laidByText := true, laidKinds := [.widerDeep, .data], laidTests := true, laidLooks := .later }
def ModelJoinsCardSaid : Prop := Claim7.holds Tryd.pinned (.plain (OpenSpec.ofChange modelJoinsSpec)) modelJoinsCard

/-- THE TIED CARD OF 'scrutinylaw14.ModelCuts'. -/
def modelCutsCard : Claim7 := { stood := { row := modelCutsRow, standIns := [], harness := (true, "cf72e4e8cb3928149b5c7764d61693e3f63222c184eb7be422a5e6a432897bd1"), looks := true }, kinds := [], alts := [], laidByText := true, laidKinds := [.widerDeep, .data], laidTests := true, laidLooks := .later }
def ModelCutsCardSaid : Prop := Claim7.holds Tryd.pinned (.plain (OpenSpec.ofChange modelCutsSpec)) modelCutsCard

/-- THE SECOND FORM's CARD OF 'scrutinylaw14.ModelBlanks'. -/
def modelBlanksUptoCard : Claim7 := { stood := { row := modelBlanksUptoRow, standIns := [], harness := (true, "cf72e4e8cb3928149b5c7764d61693e3f63222c184eb7be422a5e6a432897bd1"), looks := true }, kinds := [], alts := [], laidByText := true, laidKinds := [.widerDeep, .data], laidTests := true, laidLooks := .later }
def ModelBlanksUptoCardSaid : Prop := Claim7.holds Tryd.pinned (.plain (OpenSpec.upto modelBlanksSpec)) modelBlanksUptoCard

/-- THE SECOND FORM's CARD OF 'scrutinylaw14.ModelNames'. -/
def modelNamesUptoCard : Claim7 := { stood := { row := modelNamesUptoRow, standIns := [], harness := (true, "cf72e4e8cb3928149b5c7764d61693e3f63222c184eb7be422a5e6a432897bd1"), looks := true }, kinds := [], alts := [], laidByText := true, laidKinds := [.widerDeep, .data], laidTests := true, laidLooks := .later }
def ModelNamesUptoCardSaid : Prop := Claim7.holds Tryd.pinned (.plain (OpenSpec.upto modelNamesSpec)) modelNamesUptoCard

/-- THE SECOND FORM's CARD OF 'scrutinylaw14.ModelRanges'. -/
def modelRangesUptoCard : Claim7 := { stood := { row := modelRangesUptoRow, standIns := [], harness := (true, "cf72e4e8cb3928149b5c7764d61693e3f63222c184eb7be422a5e6a432897bd1"), looks := true }, kinds := [], alts := [], laidByText := true, laidKinds := [.widerDeep, .data], laidTests := true, laidLooks := .later }
def ModelRangesUptoCardSaid : Prop := Claim7.holds Tryd.pinned (.plain (OpenSpec.upto modelRangesSpec)) modelRangesUptoCard

/-- THE SECOND FORM's CARD OF 'scrutinylaw14.ModelMany'. -/
def modelManyUptoCard : Claim7 := { stood := { row := modelManyUptoRow, standIns := [], harness := (true, "cf72e4e8cb3928149b5c7764d61693e3f63222c184eb7be422a5e6a432897bd1"), looks := true }, kinds := [], alts := [], laidByText := true, laidKinds := [.widerDeep, .data], laidTests := true, laidLooks := .later }
def ModelManyUptoCardSaid : Prop := Claim7.holds Tryd.pinned (.plain (OpenSpec.upto modelManySpec)) modelManyUptoCard

/-- THE SECOND FORM's CARD OF 'scrutinylaw14.ModelJoins'. -/
def modelJoinsUptoCard : Claim7 := { stood := { row := modelJoinsUptoRow, standIns := [], harness := (true, "cf72e4e8cb3928149b5c7764d61693e3f63222c184eb7be422a5e6a432897bd1"), looks := true }, kinds := [], alts := [], laidByText := true, laidKinds := [.widerDeep, .data], laidTests := true, laidLooks := .later }
def ModelJoinsUptoCardSaid : Prop := Claim7.holds Tryd.pinned (.plain (OpenSpec.upto modelJoinsSpec)) modelJoinsUptoCard

/-- THE SECOND FORM's CARD OF 'scrutinylaw14.ModelCuts'. -/
def modelCutsUptoCard : Claim7 := { stood := { row := modelCutsUptoRow, standIns := [], harness := (true, "cf72e4e8cb3928149b5c7764d61693e3f63222c184eb7be422a5e6a432897bd1"), looks := true }, kinds := [], alts := [], laidByText := true, laidKinds := [.widerDeep, .data], laidTests := true, laidLooks := .later }
def ModelCutsUptoCardSaid : Prop := Claim7.holds Tryd.pinned (.plain (OpenSpec.upto modelCutsSpec)) modelCutsUptoCard
end Rows
end Go.Proofs.YtdhgpnejphlfpaaDoor
