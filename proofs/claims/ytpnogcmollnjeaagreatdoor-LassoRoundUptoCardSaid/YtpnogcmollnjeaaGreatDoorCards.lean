/-
  DERIVED. GIVEN WITH THE SEED: THE CARDS: each row of YtpnogcmollnjeaaGreatDoorRows.lean that lists a variable, with what it lists TIED to the program's text (the seventh form; the later family's looks); each row that meets fmt, with fmt's text TOLD by the authors' own Lean function (tested against real Go, not proved from fmt's source: count such statements apart). THE CARD IS WHAT COUNTS. Prove the row's statement (the work); the ties are given (YtpnogcmollnjeaaGreatDoorTie.lean); close each card by the builder's one call (the guide's Derived/Test/ToyasCard.lean, 'card_holds'). Laid BY PROGRAM, IN A SANDBOX (cutbox-door.mjs). By AI agents, Wed Nov 11 2026. No macro, syntax, notation, axiom, sorry.
-/
import Derived.Test.YtpnogcmollnjeaaGreatDoorRows
import GoSem.ClaimSeven
namespace Go.Proofs.YtpnogcmollnjeaaGreatDoor
namespace Rows

/-- THE TIED CARD OF 'scrutinylaw22.LassoEither'. -/
def lassoEitherCard : Claim7 := { stood := { row := lassoEitherRow, standIns := [], harness := (true, "f5949603e739edd3953b59681caf56bd48c1862120577557d7f0a86212a2676f"), looks := false }, kinds := [], alts := [], laidByText := true, laidKinds := [.data, .data, .data], laidTests := true, laidLooks := .later }
def LassoEitherCardSaid : Prop := Claim7.holds Tryz.pinned (.plain (OpenSpec.ofChange lassoEitherSpec)) lassoEitherCard

/-- THE TIED CARD OF 'scrutinylaw22.LassoWalks'. -/
def lassoWalksCard : Claim7 := { stood := { row := lassoWalksRow, standIns := [], harness := (true, "f5949603e739edd3953b59681caf56bd48c1862120577557d7f0a86212a2676f"), looks := false }, kinds := [], alts := [], laidByText := true, laidKinds := [.data, .data, .data], laidTests := true, laidLooks := .later }
def LassoWalksCardSaid : Prop := Claim7.holds Tryz.pinned (.plain (OpenSpec.ofChange lassoWalksSpec)) lassoWalksCard

/-- THE TIED CARD OF 'scrutinylaw22.LassoRound'. -/
def lassoRoundCard : Claim7 := { stood := { row := lassoRoundRow, standIns := [], harness := (true, "f5949603e739edd3953b59681caf56bd48c1862120577557d7f0a86212a2676f"), looks := false }, kinds := [], alts := [], laidByText := true, laidKinds := [.data, .data, .data], laidTests := true, laidLooks := .later }
def LassoRoundCardSaid : Prop := Claim7.holds Tryz.pinned (.plain (OpenSpec.ofChange lassoRoundSpec)) lassoRoundCard

/-- THE TIED CARD OF 'scrutinylaw22.LassoLies'. -/
def lassoLiesCard : Claim7 := { stood := { row := lassoLiesRow, standIns := [], harness := (true, "f5949603e739edd3953b59681caf56bd48c1862120577557d7f0a86212a2676f"), looks := false }, kinds := [], alts := [], laidByText := true, laidKinds := [.data, .data, .data], laidTests := true, laidLooks := .later }
def LassoLiesCardSaid : Prop := Claim7.holds Tryz.pinned (.plain (OpenSpec.ofChange lassoLiesSpec)) lassoLiesCard

/-- THE SECOND FORM's CARD OF 'scrutinylaw22.LassoEither'. -/
def lassoEitherUptoCard : Claim7 := { stood := { row := lassoEitherUptoRow, standIns := [], harness := (true, "f5949603e739edd3953b59681caf56bd48c1862120577557d7f0a86212a2676f"), looks := false }, kinds := [], alts := [], laidByText := true, laidKinds := [.data, .data, .data], laidTests := true, laidLooks := .later }
def LassoEitherUptoCardSaid : Prop := Claim7.holds Tryz.pinned (.plain (OpenSpec.upto lassoEitherSpec)) lassoEitherUptoCard

/-- THE SECOND FORM's CARD OF 'scrutinylaw22.LassoWalks'. -/
def lassoWalksUptoCard : Claim7 := { stood := { row := lassoWalksUptoRow, standIns := [], harness := (true, "f5949603e739edd3953b59681caf56bd48c1862120577557d7f0a86212a2676f"), looks := false }, kinds := [], alts := [], laidByText := true, laidKinds := [.data, .data, .data], laidTests := true, laidLooks := .later }
def LassoWalksUptoCardSaid : Prop := Claim7.holds Tryz.pinned (.plain (OpenSpec.upto lassoWalksSpec)) lassoWalksUptoCard

/-- THE SECOND FORM's CARD OF 'scrutinylaw22.LassoRound'. -/
def lassoRoundUptoCard : Claim7 := { stood := { row := lassoRoundUptoRow, standIns := [], harness := (true, "f5949603e739edd3953b59681caf56bd48c1862120577557d7f0a86212a2676f"), looks := false }, kinds := [], alts := [], laidByText := true, laidKinds := [.data, .data, .data], laidTests := true, laidLooks := .later }
def LassoRoundUptoCardSaid : Prop := Claim7.holds Tryz.pinned (.plain (OpenSpec.upto lassoRoundSpec)) lassoRoundUptoCard

/-- THE SECOND FORM's CARD OF 'scrutinylaw22.LassoLies'. -/
def lassoLiesUptoCard : Claim7 := { stood := { row := lassoLiesUptoRow, standIns := [], harness := (true, "f5949603e739edd3953b59681caf56bd48c1862120577557d7f0a86212a2676f"), looks := false }, kinds := [], alts := [], laidByText := true, laidKinds := [.data, .data, .data], laidTests := true, laidLooks := .later }
def LassoLiesUptoCardSaid : Prop := Claim7.holds Tryz.pinned (.plain (OpenSpec.upto lassoLiesSpec)) lassoLiesUptoCard
end Rows
end Go.Proofs.YtpnogcmollnjeaaGreatDoor
