/-
  DERIVED. GIVEN WITH THE SEED: THE CARDS: each row of YtkedhpmpejhekaaGreatDoorRows.lean that lists a variable, with what it lists TIED to the program's text (the seventh form; the later family's looks); each row that meets fmt, with fmt's text TOLD by the authors' own Lean function (tested against real Go, not proved from fmt's source: count such statements apart). THE CARD IS WHAT COUNTS. Prove the row's statement (the work); the ties are given (YtkedhpmpejhekaaGreatDoorTie.lean); close each card by the builder's one call (the guide's Derived/Test/ToyasCard.lean, 'card_holds'). Laid BY PROGRAM, IN A SANDBOX (cutbox-door.mjs). By AI agents, Wed Nov 11 2026. No macro, syntax, notation, axiom, sorry.
-/
import Derived.Test.YtkedhpmpejhekaaGreatDoorRows
import GoSem.ClaimSeven
namespace Go.Proofs.YtkedhpmpejhekaaGreatDoor
namespace Rows

/-- THE TIED CARD OF 'scrutinylaw24.ToolTells'. -/
def toolTellsCard : Claim7 := { stood := { row := toolTellsRow, standIns := [], harness := (true, "4366f17cde8bc9353ef52762dade726bf8c356e0c1b1e68c80e6eff18dd0cccb"), looks := true }, kinds := [], alts := [], laidByText := true, laidKinds := [.data, .data, .data, .widerDeep, .data, .widerDeep, .data], laidTests := true, laidLooks := .later }
def ToolTellsCardSaid : Prop := Claim7.holds Tryz.pinned (.plain (OpenSpec.ofChange toolTellsSpec)) toolTellsCard

/-- THE TIED CARD OF 'scrutinylaw24.ToolNumbers'. -/
def toolNumbersCard : Claim7 := { stood := { row := toolNumbersRow, standIns := [], harness := (true, "4366f17cde8bc9353ef52762dade726bf8c356e0c1b1e68c80e6eff18dd0cccb"), looks := true }, kinds := [], alts := [], laidByText := true, laidKinds := [.data, .data, .data, .widerDeep, .data, .widerDeep, .data], laidTests := true, laidLooks := .later }
def ToolNumbersCardSaid : Prop := Claim7.holds Tryz.pinned (.plain (OpenSpec.ofChange toolNumbersSpec)) toolNumbersCard

/-- THE TIED CARD OF 'scrutinylaw24.ToolShows'. -/
def toolShowsCard : Claim7 := { stood := { row := toolShowsRow, standIns := [], harness := (true, "4366f17cde8bc9353ef52762dade726bf8c356e0c1b1e68c80e6eff18dd0cccb"), looks := true }, kinds := [], alts := [], laidByText := true, laidKinds := [.data, .data, .data, .widerDeep, .data, .widerDeep, .data], laidTests := true, laidLooks := .later }
def ToolShowsCardSaid : Prop := Claim7.holds Tryz.pinned (.plain (OpenSpec.ofChange toolShowsSpec)) toolShowsCard

/-- THE TIED CARD OF 'scrutinylaw24.ToolWhat'. -/
def toolWhatCard : Claim7 := { stood := { row := toolWhatRow, standIns := [], harness := (true, "4366f17cde8bc9353ef52762dade726bf8c356e0c1b1e68c80e6eff18dd0cccb"), looks := true }, kinds := [], alts := [], laidByText := true, laidKinds := [.data, .data, .data, .widerDeep, .data, .widerDeep, .data], laidTests := true, laidLooks := .later }
def ToolWhatCardSaid : Prop := Claim7.holds Tryz.pinned (.plain (OpenSpec.ofChange toolWhatSpec)) toolWhatCard

/-- THE SECOND FORM's CARD OF 'scrutinylaw24.ToolTells'. -/
def toolTellsUptoCard : Claim7 := { stood := { row := toolTellsUptoRow, standIns := [], harness := (true, "4366f17cde8bc9353ef52762dade726bf8c356e0c1b1e68c80e6eff18dd0cccb"), looks := true }, kinds := [], alts := [], laidByText := true, laidKinds := [.data, .data, .data, .widerDeep, .data, .widerDeep, .data], laidTests := true, laidLooks := .later }
def ToolTellsUptoCardSaid : Prop := Claim7.holds Tryz.pinned (.plain (OpenSpec.upto toolTellsSpec)) toolTellsUptoCard

/-- THE SECOND FORM's CARD OF 'scrutinylaw24.ToolNumbers'. -/
def toolNumbersUptoCard : Claim7 := { stood := { row := toolNumbersUptoRow, standIns := [], harness := (true, "4366f17cde8bc9353ef52762dade726bf8c356e0c1b1e68c80e6eff18dd0cccb"), looks := true }, kinds := [], alts := [], laidByText := true, laidKinds := [.data, .data, .data, .widerDeep, .data, .widerDeep, .data], laidTests := true, laidLooks := .later }
def ToolNumbersUptoCardSaid : Prop := Claim7.holds Tryz.pinned (.plain (OpenSpec.upto toolNumbersSpec)) toolNumbersUptoCard

/-- THE SECOND FORM's CARD OF 'scrutinylaw24.ToolShows'. -/
def toolShowsUptoCard : Claim7 := { stood := { row := toolShowsUptoRow, standIns := [], harness := (true, "4366f17cde8bc9353ef52762dade726bf8c356e0c1b1e68c80e6eff18dd0cccb"), looks := true }, kinds := [], alts := [], laidByText := true, laidKinds := [.data, .data, .data, .widerDeep, .data, .widerDeep, .data], laidTests := true, laidLooks := .later }
def ToolShowsUptoCardSaid : Prop := Claim7.holds Tryz.pinned (.plain (OpenSpec.upto toolShowsSpec)) toolShowsUptoCard

/-- THE SECOND FORM's CARD OF 'scrutinylaw24.ToolWhat'. -/
def toolWhatUptoCard : Claim7 := { stood := { row := toolWhatUptoRow, standIns := [], harness := (true, "4366f17cde8bc9353ef52762dade726bf8c356e0c1b1e68c80e6eff18dd0cccb"), looks := true }, kinds := [], alts := [], laidByText := true, laidKinds := [.data, .data, .data, .widerDeep, .data, .widerDeep, .data], laidTests := true, laidLooks := .later }
def ToolWhatUptoCardSaid : Prop := Claim7.holds Tryz.pinned (.plain (OpenSpec.upto toolWhatSpec)) toolWhatUptoCard
end Rows
end Go.Proofs.YtkedhpmpejhekaaGreatDoor
