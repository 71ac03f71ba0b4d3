/-
  DERIVED. GIVEN WITH THE SEED: THE CARDS: each row of YtdhgpnejphlfpaaGreatDoorRows.lean that lists a variable, with what it lists TIED to the program's text (the seventh form; the later family's looks); each row that meets fmt, with fmt's text TOLD by the authors' own Lean function (tested against real Go, not proved from fmt's source: count such statements apart). THE CARD IS WHAT COUNTS. Prove the row's statement (the work); the ties are given (YtdhgpnejphlfpaaGreatDoorTie.lean); close each card by the builder's one call (the guide's Derived/Test/ToyasCard.lean, 'card_holds'). Laid BY PROGRAM, IN A SANDBOX (cutbox-door.mjs). By AI agents, Wed Nov 11 2026. No macro, syntax, notation, axiom, sorry.
-/
import Derived.Test.YtdhgpnejphlfpaaGreatDoorRows
import GoSem.ClaimSeven
namespace Go.Proofs.YtdhgpnejphlfpaaGreatDoor
namespace Rows

/-- THE TIED CARD OF 'scrutinylaw14.ModelTells'. -/
def modelTellsCard : Claim7 := { stood := { row := modelTellsRow, standIns := [], harness := (true, "c0da3204e2c95b6d421009cf674b1f76a51545013e6c5926acfb5680fb39382d"), looks := true }, kinds := [], alts := [], laidByText := true, laidKinds := [.widerDeep, .data], laidTests := true, laidLooks := .later }
def ModelTellsCardSaid : Prop := Claim7.holds Tryz.pinned (.plain (OpenSpec.ofChange modelTellsSpec)) modelTellsCard

/-- THE SECOND FORM's CARD OF 'scrutinylaw14.ModelTells'. -/
def modelTellsUptoCard : Claim7 := { stood := { row := modelTellsUptoRow, standIns := [], harness := (true, "c0da3204e2c95b6d421009cf674b1f76a51545013e6c5926acfb5680fb39382d"), looks := true }, kinds := [], alts := [], laidByText := true, laidKinds := [.widerDeep, .data], laidTests := true, laidLooks := .later }
def ModelTellsUptoCardSaid : Prop := Claim7.holds Tryz.pinned (.plain (OpenSpec.upto modelTellsSpec)) modelTellsUptoCard
end Rows
end Go.Proofs.YtdhgpnejphlfpaaGreatDoor
