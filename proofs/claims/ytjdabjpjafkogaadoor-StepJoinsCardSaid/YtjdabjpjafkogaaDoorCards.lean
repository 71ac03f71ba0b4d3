/-
  DERIVED. GIVEN WITH THE SEED: THE CARDS: each row of YtjdabjpjafkogaaDoorRows.lean that lists a variable, with what it lists TIED to the program's text (the seventh form; the later family's looks); each row that meets fmt, with fmt's text TOLD by the authors' own Lean function (tested against real Go, not proved from fmt's source: count such statements apart). THE CARD IS WHAT COUNTS. Prove the row's statement (the work); the ties are given (YtjdabjpjafkogaaDoorTie.lean); close each card by the builder's one call (the guide's Derived/Test/ToyasCard.lean, 'card_holds'). Laid BY PROGRAM, IN A SANDBOX (cutbox-door.mjs). By AI agents, Wed Nov 11 2026. No macro, syntax, notation, axiom, sorry.
-/
import Derived.Test.YtjdabjpjafkogaaDoorRows
import GoSem.ClaimSeven
namespace Go.Proofs.YtjdabjpjafkogaaDoor
namespace Rows

/-- THE TIED CARD OF 'scrutinylaw15.StepTells'. -/
def stepTellsCard : Claim7 := { stood := { row := stepTellsRow, standIns := [], harness := (true, "afb264e366cf451a034d4a7671a39bc18932467b8999e049158ccd7256d93803"), looks := false }, kinds := [], alts := [], laidByText := true, laidKinds := [.data, .data, .data], laidTests := true, laidLooks := .later }
def StepTellsCardSaid : Prop := Claim7.holds Tryd.pinned (.plain (OpenSpec.ofChange stepTellsSpec)) stepTellsCard

/-- THE TIED CARD OF 'scrutinylaw15.StepReach'. -/
def stepReachCard : Claim7 := { stood := { row := stepReachRow, standIns := [], harness := (true, "afb264e366cf451a034d4a7671a39bc18932467b8999e049158ccd7256d93803"), looks := false }, kinds := [], alts := [], laidByText := true, laidKinds := [.data, .data, .data], laidTests := true, laidLooks := .later }
def StepReachCardSaid : Prop := Claim7.holds Tryd.pinned (.plain (OpenSpec.ofChange stepReachSpec)) stepReachCard

/-- THE TIED CARD OF 'scrutinylaw15.StepClosed'. -/
def stepClosedCard : Claim7 := { stood := { row := stepClosedRow, standIns := [], harness := (true, "afb264e366cf451a034d4a7671a39bc18932467b8999e049158ccd7256d93803"), looks := false }, kinds := [], alts := [], laidByText := true, laidKinds := [.data, .data, .data], laidTests := true, laidLooks := .later }
def StepClosedCardSaid : Prop := Claim7.holds Tryd.pinned (.plain (OpenSpec.ofChange stepClosedSpec)) stepClosedCard

/-- THE TIED CARD OF 'scrutinylaw15.StepFires'. -/
def stepFiresCard : Claim7 := { stood := { row := stepFiresRow, standIns := [], harness := (true, "afb264e366cf451a034d4a7671a39bc18932467b8999e049158ccd7256d93803"), looks := false }, kinds := [], alts := [], laidByText := true, laidKinds := [.data, .data, .data], laidTests := true, laidLooks := .later }
def StepFiresCardSaid : Prop := Claim7.holds Tryd.pinned (.plain (OpenSpec.ofChange stepFiresSpec)) stepFiresCard

/-- THE TIED CARD OF 'scrutinylaw15.StepStays'. -/
def stepStaysCard : Claim7 := { stood := { row := stepStaysRow, standIns := [], harness := (true, "afb264e366cf451a034d4a7671a39bc18932467b8999e049158ccd7256d93803"), looks := false }, kinds := [], alts := [], laidByText := true, laidKinds := [.data, .data, .data], laidTests := true, laidLooks := .later }
def StepStaysCardSaid : Prop := Claim7.holds Tryd.pinned (.plain (OpenSpec.ofChange stepStaysSpec)) stepStaysCard

/-- THE TIED CARD OF 'scrutinylaw15.StepJoins'. -/
def stepJoinsCard : Claim7 := { stood := { row := stepJoinsRow, standIns := [], harness := (true, "afb264e366cf451a034d4a7671a39bc18932467b8999e049158ccd7256d93803"), looks := false }, kinds := [], alts := [], laidByText := true, laidKinds := [.data, .data, .data], laidTests := true, laidLooks := .later }
def StepJoinsCardSaid : Prop := Claim7.holds Tryd.pinned (.plain (OpenSpec.ofChange stepJoinsSpec)) stepJoinsCard

/-- THE SECOND FORM's CARD OF 'scrutinylaw15.StepTells'. -/
def stepTellsUptoCard : Claim7 := { stood := { row := stepTellsUptoRow, standIns := [], harness := (true, "afb264e366cf451a034d4a7671a39bc18932467b8999e049158ccd7256d93803"), looks := false }, kinds := [], alts := [], laidByText := true, laidKinds := [.data, .data, .data], laidTests := true, laidLooks := .later }
def StepTellsUptoCardSaid : Prop := Claim7.holds Tryd.pinned (.plain (OpenSpec.upto stepTellsSpec)) stepTellsUptoCard

/-- THE SECOND FORM's CARD OF 'scrutinylaw15.StepReach'. -/
def stepReachUptoCard : Claim7 := { stood := { row := stepReachUptoRow, standIns := [], harness := (true, "afb264e366cf451a034d4a7671a39bc18932467b8999e049158ccd7256d93803"), looks := false }, kinds := [], alts := [], laidByText := true, laidKinds := [.data, .data, .data], laidTests := true, laidLooks := .later }
def StepReachUptoCardSaid : Prop := Claim7.holds Tryd.pinned (.plain (OpenSpec.upto stepReachSpec)) stepReachUptoCard

/-- THE SECOND FORM's CARD OF 'scrutinylaw15.StepClosed'. -/
def stepClosedUptoCard : Claim7 := { stood := { row := stepClosedUptoRow, standIns := [], harness := (true, "afb264e366cf451a034d4a7671a39bc18932467b8999e049158ccd7256d93803"), looks := false }, kinds := [], alts := [], laidByText := true, laidKinds := [.data, .data, .data], laidTests := true, laidLooks := .later }
def StepClosedUptoCardSaid : Prop := Claim7.holds Tryd.pinned (.plain (OpenSpec.upto stepClosedSpec)) stepClosedUptoCard

/-- THE SECOND FORM's CARD OF 'scrutinylaw15.StepFires'. -/
def stepFiresUptoCard : Claim7 := { stood := { row := stepFiresUptoRow, standIns := [], harness := (true, "afb264e366cf451a034d4a7671a39bc18932467b8999e049158ccd7256d93803"), looks := false }, kinds := [], alts := [], laidByText := true, laidKinds := [.data, .data, .data], laidTests := true, laidLooks := .later }
def StepFiresUptoCardSaid : Prop := Claim7.holds Tryd.pinned (.plain (OpenSpec.upto stepFiresSpec)) stepFiresUptoCard

/-- THE SECOND FORM's CARD OF 'scrutinylaw15.StepStays'. -/
def stepStaysUptoCard : Claim7 := { stood := { row := stepStaysUptoRow, standIns := [], harness := (true, "afb264e366cf451a034d4a7671a39bc18932467b8999e049158ccd7256d93803"), looks := false }, kinds := [], alts := [], laidByText := true, laidKinds := [.data, .data, .data], laidTests := true, laidLooks := .later }
def StepStaysUptoCardSaid : Prop := Claim7.holds Tryd.pinned (.plain (OpenSpec.upto stepStaysSpec)) stepStaysUptoCard

/-- THE SECOND FORM's CARD OF 'scrutinylaw15.StepJoins'. -/
def stepJoinsUptoCard : Claim7 := { stood := { row := stepJoinsUptoRow, standIns := [], harness := (true, "afb264e366cf451a034d4a7671a39bc18932467b8999e049158ccd7256d93803"), looks := false }, kinds := [], alts := [], laidByText := true, laidKinds := [.data, .data, .data], laidTests := true, laidLooks := .later }
def StepJoinsUptoCardSaid : Prop := Claim7.holds Tryd.pinned (.plain (OpenSpec.upto stepJoinsSpec)) stepJoinsUptoCard
end Rows
end Go.Proofs.YtjdabjpjafkogaaDoor
