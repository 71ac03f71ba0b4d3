/-
  DERIVED. GIVEN WITH THE SEED: THE CARDS: each row of YtkckoolfgnkpcaaDoorRows.lean that lists a variable, with what it lists TIED to the program's text (the seventh form; the later family's looks); each row that meets fmt, with fmt's text TOLD by the authors' own Lean function (tested against real Go, not proved from fmt's source: count such statements apart). THE CARD IS WHAT COUNTS. Prove the row's statement (the work); the ties are given (YtkckoolfgnkpcaaDoorTie.lean); close each card by the builder's one call (the guide's Derived/Test/ToyasCard.lean, 'card_holds'). Laid BY PROGRAM, IN A SANDBOX (cutbox-door.mjs). By AI agents, Wed Nov 11 2026. No macro, syntax, notation, axiom, sorry.
-/
import Derived.Test.YtkckoolfgnkpcaaDoorRows
import GoSem.ClaimSeven
namespace Go.Proofs.YtkckoolfgnkpcaaDoor
namespace Rows

/-- THE TIED CARD OF 'scrutinylaw20.ProdAll'. -/
def prodAllCard : Claim7 := { stood := { row := prodAllRow, standIns := [], harness := (true, "582824c19cf78614f6be005d2350448d591024a4f2a43d2e8f3b80c63a491a13"), looks := false }, kinds := [], alts := [], laidByText := true, laidKinds := [.data, .data, .data], laidTests := true, laidLooks := .later }
def ProdAllCardSaid : Prop := Claim7.holds Tryd.pinned (.plain (OpenSpec.ofChange prodAllSpec)) prodAllCard

/-- THE TIED CARD OF 'scrutinylaw20.ProdNothing'. -/
def prodNothingCard : Claim7 := { stood := { row := prodNothingRow, standIns := [], harness := (true, "582824c19cf78614f6be005d2350448d591024a4f2a43d2e8f3b80c63a491a13"), looks := false }, kinds := [], alts := [], laidByText := true, laidKinds := [.data, .data, .data], laidTests := true, laidLooks := .later }
def ProdNothingCardSaid : Prop := Claim7.holds Tryd.pinned (.plain (OpenSpec.ofChange prodNothingSpec)) prodNothingCard

/-- THE SECOND FORM's CARD OF 'scrutinylaw20.ProdAll'. -/
def prodAllUptoCard : Claim7 := { stood := { row := prodAllUptoRow, standIns := [], harness := (true, "582824c19cf78614f6be005d2350448d591024a4f2a43d2e8f3b80c63a491a13"), looks := false }, kinds := [], alts := [], laidByText := true, laidKinds := [.data, .data, .data], laidTests := true, laidLooks := .later }
def ProdAllUptoCardSaid : Prop := Claim7.holds Tryd.pinned (.plain (OpenSpec.upto prodAllSpec)) prodAllUptoCard

/-- THE SECOND FORM's CARD OF 'scrutinylaw20.ProdNothing'. -/
def prodNothingUptoCard : Claim7 := { stood := { row := prodNothingUptoRow, standIns := [], harness := (true, "582824c19cf78614f6be005d2350448d591024a4f2a43d2e8f3b80c63a491a13"), looks := false }, kinds := [], alts := [], laidByText := true, laidKinds := [.data, .data, .data], laidTests := true, laidLooks := .later }
def ProdNothingUptoCardSaid : Prop := Claim7.holds Tryd.pinned (.plain (OpenSpec.upto prodNothingSpec)) prodNothingUptoCard
end Rows
end Go.Proofs.YtkckoolfgnkpcaaDoor
