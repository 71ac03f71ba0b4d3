/-
  DERIVED. GIVEN WITH THE SEED: THE CARDS: each row of YtdolcddlmodkkaaGreatDoorRows.lean that lists a variable, with what it lists TIED to the program's text (the seventh form; the later family's looks); each row that meets fmt, with fmt's text TOLD by the authors' own Lean function (tested against real Go, not proved from fmt's source: count such statements apart). THE CARD IS WHAT COUNTS. Prove the row's statement (the work); the ties are given (YtdolcddlmodkkaaGreatDoorTie.lean); close each card by the builder's one call (the guide's Derived/Test/ToyasCard.lean, 'card_holds'). Laid BY PROGRAM, IN A SANDBOX (cutbox-door.mjs). By AI agents, Wed Nov 11 2026. No macro, syntax, notation, axiom, sorry.
-/
import Derived.Test.YtdolcddlmodkkaaGreatDoorRows
import GoSem.ClaimSeven
namespace Go.Proofs.YtdolcddlmodkkaaGreatDoor
namespace Rows

/-- THE TIED CARD OF 'scrutinytop.TopHolds'. -/
def topHoldsCard : Claim7 := { stood := { row := topHoldsRow, standIns := [], harness := (true, "ba40162e6c237a29bd13889ba9e29e15a929d708fd7dc7d8fde718e033d9064b"), looks := true }, kinds := [], alts := [], laidByText := true, laidKinds := [.data, .data, .data, .widerDeep, .data, .widerDeep, .data], laidTests := true, laidLooks := .later }
def TopHoldsCardSaid : Prop := Claim7.holds Tryz.pinned (.plain (OpenSpec.ofChange topHoldsSpec)) topHoldsCard

/-- THE TIED CARD OF 'scrutinytop.TopWitness'. -/
def topWitnessCard : Claim7 := { stood := { row := topWitnessRow, standIns := [], harness := (true, "ba40162e6c237a29bd13889ba9e29e15a929d708fd7dc7d8fde718e033d9064b"), looks := true }, kinds := [], alts := [], laidByText := true, laidKinds := [.data, .data, .data, .widerDeep, .data, .widerDeep, .data], laidTests := true, laidLooks := .later }
def TopWitnessCardSaid : Prop := Claim7.holds Tryz.pinned (.plain (OpenSpec.ofChange topWitnessSpec)) topWitnessCard

/-- THE TIED CARD OF 'scrutinytop.TopStores'. -/
def topStoresCard : Claim7 := { stood := { row := topStoresRow, standIns := [], harness := (true, "ba40162e6c237a29bd13889ba9e29e15a929d708fd7dc7d8fde718e033d9064b"), looks := true }, kinds := [], alts := [], laidByText := true, laidKinds := [.data, .data, .data, .widerDeep, .data, .widerDeep, .data], laidTests := true, laidLooks := .later }
def TopStoresCardSaid : Prop := Claim7.holds Tryz.pinned (.plain (OpenSpec.ofChange topStoresSpec)) topStoresCard

/-- THE SECOND FORM's CARD OF 'scrutinytop.TopHolds'. -/
def topHoldsUptoCard : Claim7 := { stood := { row := topHoldsUptoRow, standIns := [], harness := (true, "ba40162e6c237a29bd13889ba9e29e15a929d708fd7dc7d8fde718e033d9064b"), looks := true }, kinds := [], alts := [], laidByText := true, laidKinds := [.data, .data, .data, .widerDeep, .data, .widerDeep, .data], laidTests := true, laidLooks := .later }
def TopHoldsUptoCardSaid : Prop := Claim7.holds Tryz.pinned (.plain (OpenSpec.upto topHoldsSpec)) topHoldsUptoCard

/-- THE SECOND FORM's CARD OF 'scrutinytop.TopWitness'. -/
def topWitnessUptoCard : Claim7 := { stood := { row := topWitnessUptoRow, standIns := [], harness := (true, "ba40162e6c237a29bd13889ba9e29e15a929d708fd7dc7d8fde718e033d9064b"), looks := true }, kinds := [], alts := [], laidByText := true, laidKinds := [.data, .data, .data, .widerDeep, .data, .widerDeep, .data], laidTests := true, laidLooks := .later }
def TopWitnessUptoCardSaid : Prop := Claim7.holds Tryz.pinned (.plain (OpenSpec.upto topWitnessSpec)) topWitnessUptoCard

/-- THE SECOND FORM's CARD OF 'scrutinytop.TopStores'. -/
def topStoresUptoCard : Claim7 := { stood := { row := topStoresUptoRow, standIns := [], harness := (true, "ba40162e6c237a29bd13889ba9e29e15a929d708fd7dc7d8fde718e033d9064b"), looks := true }, kinds := [], alts := [], laidByText := true, laidKinds := [.data, .data, .data, .widerDeep, .data, .widerDeep, .data], laidTests := true, laidLooks := .later }
def TopStoresUptoCardSaid : Prop := Claim7.holds Tryz.pinned (.plain (OpenSpec.upto topStoresSpec)) topStoresUptoCard
end Rows
end Go.Proofs.YtdolcddlmodkkaaGreatDoor
