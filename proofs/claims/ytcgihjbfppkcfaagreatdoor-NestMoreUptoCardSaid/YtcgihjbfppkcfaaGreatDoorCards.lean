/-
  DERIVED. GIVEN WITH THE SEED: THE CARDS: each row of YtcgihjbfppkcfaaGreatDoorRows.lean that lists a variable, with what it lists TIED to the program's text (the seventh form; the later family's looks); each row that meets fmt, with fmt's text TOLD by the authors' own Lean function (tested against real Go, not proved from fmt's source: count such statements apart). THE CARD IS WHAT COUNTS. Prove the row's statement (the work); the ties are given (YtcgihjbfppkcfaaGreatDoorTie.lean); close each card by the builder's one call (the guide's Derived/Test/ToyasCard.lean, 'card_holds'). Laid BY PROGRAM, IN A SANDBOX (cutbox-door.mjs). By AI agents, Wed Nov 11 2026. No macro, syntax, notation, axiom, sorry.
-/
import Derived.Test.YtcgihjbfppkcfaaGreatDoorRows
import GoSem.ClaimSeven
namespace Go.Proofs.YtcgihjbfppkcfaaGreatDoor
namespace Rows

/-- THE TIED CARD OF 'scrutinylaw21.NestArgs'. -/
def nestArgsCard : Claim7 := { stood := { row := nestArgsRow, standIns := [], harness := (true, "0cbfca360702bb2eccfe39210084afc7bead0a1337d5ba833ab7b01703b27a42"), looks := true }, kinds := [], alts := [], laidByText := true, laidKinds := [.data, .data, .data], laidTests := true, laidLooks := .later }
def NestArgsCardSaid : Prop := Claim7.holds Tryz.pinned (.plain (OpenSpec.ofChange nestArgsSpec)) nestArgsCard

/-- THE TIED CARD OF 'scrutinylaw21.NestMore'. -/
def nestMoreCard : Claim7 := { stood := { row := nestMoreRow, standIns := [], harness := (true, "0cbfca360702bb2eccfe39210084afc7bead0a1337d5ba833ab7b01703b27a42"), looks := true }, kinds := [], alts := [], laidByText := true, laidKinds := [.data, .data, .data], laidTests := true, laidLooks := .later }
def NestMoreCardSaid : Prop := Claim7.holds Tryz.pinned (.plain (OpenSpec.ofChange nestMoreSpec)) nestMoreCard

/-- THE TIED CARD OF 'scrutinylaw21.NestAlways'. -/
def nestAlwaysCard : Claim7 := { stood := { row := nestAlwaysRow, standIns := [], harness := (true, "0cbfca360702bb2eccfe39210084afc7bead0a1337d5ba833ab7b01703b27a42"), looks := true }, kinds := [], alts := [], laidByText := true, laidKinds := [.data, .data, .data], laidTests := true, laidLooks := .later }
def NestAlwaysCardSaid : Prop := Claim7.holds Tryz.pinned (.plain (OpenSpec.ofChange nestAlwaysSpec)) nestAlwaysCard

/-- THE TIED CARD OF 'scrutinylaw21.NestRounds'. -/
def nestRoundsCard : Claim7 := { stood := { row := nestRoundsRow, standIns := [], harness := (true, "0cbfca360702bb2eccfe39210084afc7bead0a1337d5ba833ab7b01703b27a42"), looks := true }, kinds := [], alts := [], laidByText := true, laidKinds := [.data, .data, .data], laidTests := true, laidLooks := .later }
def NestRoundsCardSaid : Prop := Claim7.holds Tryz.pinned (.plain (OpenSpec.ofChange nestRoundsSpec)) nestRoundsCard

/-- THE SECOND FORM's CARD OF 'scrutinylaw21.NestArgs'. -/
def nestArgsUptoCard : Claim7 := { stood := { row := nestArgsUptoRow, standIns := [], harness := (true, "0cbfca360702bb2eccfe39210084afc7bead0a1337d5ba833ab7b01703b27a42"), looks := true }, kinds := [], alts := [], laidByText := true, laidKinds := [.data, .data, .data], laidTests := true, laidLooks := .later }
def NestArgsUptoCardSaid : Prop := Claim7.holds Tryz.pinned (.plain (OpenSpec.upto nestArgsSpec)) nestArgsUptoCard

/-- THE SECOND FORM's CARD OF 'scrutinylaw21.NestMore'. -/
def nestMoreUptoCard : Claim7 := { stood := { row := nestMoreUptoRow, standIns := [], harness := (true, "0cbfca360702bb2eccfe39210084afc7bead0a1337d5ba833ab7b01703b27a42"), looks := true }, kinds := [], alts := [], laidByText := true, laidKinds := [.data, .data, .data], laidTests := true, laidLooks := .later }
def NestMoreUptoCardSaid : Prop := Claim7.holds Tryz.pinned (.plain (OpenSpec.upto nestMoreSpec)) nestMoreUptoCard

/-- THE SECOND FORM's CARD OF 'scrutinylaw21.NestAlways'. -/
def nestAlwaysUptoCard : Claim7 := { stood := { row := nestAlwaysUptoRow, standIns := [], harness := (true, "0cbfca360702bb2eccfe39210084afc7bead0a1337d5ba833ab7b01703b27a42"), looks := true }, kinds := [], alts := [], laidByText := true, laidKinds := [.data, .data, .data], laidTests := true, laidLooks := .later }
def NestAlwaysUptoCardSaid : Prop := Claim7.holds Tryz.pinned (.plain (OpenSpec.upto nestAlwaysSpec)) nestAlwaysUptoCard

/-- THE SECOND FORM's CARD OF 'scrutinylaw21.NestRounds'. -/
def nestRoundsUptoCard : Claim7 := { stood := { row := nestRoundsUptoRow, standIns := [], harness := (true, "0cbfca360702bb2eccfe39210084afc7bead0a1337d5ba833ab7b01703b27a42"), looks := true }, kinds := [], alts := [], laidByText := true, laidKinds := [.data, .data, .data], laidTests := true, laidLooks := .later }
def NestRoundsUptoCardSaid : Prop := Claim7.holds Tryz.pinned (.plain (OpenSpec.upto nestRoundsSpec)) nestRoundsUptoCard
end Rows
end Go.Proofs.YtcgihjbfppkcfaaGreatDoor
