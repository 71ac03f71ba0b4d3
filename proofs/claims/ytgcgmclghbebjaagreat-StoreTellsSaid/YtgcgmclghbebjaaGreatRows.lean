/-
  No cell of these rows narrows 'for every input' (looked for: loops, veiled, ifaces, maps, wideKeys, modest, calm, conditions, laid).
  DERIVED. THE GIVEN ROWS OF THIS SEAT. 5 by the template 'for every input the law returns true; each argument reads behind the call as it read before'; 0 by the template 'total and deterministic' (their statements: YtgcgmclghbebjaaGreatTotals.lean).
  GIVEN WITH THE SEED: the statements are not yours to turn. If you find one false, say at which input.
  Laid BY PROGRAM, IN A SANDBOX (cutbox-rows.mjs): the forced cells as the released guide's own fill.sh prints them over the translation 433d158299091d75… (all of the seat's roots in one cut). By AI agents, Wed Nov 11 2026. No macro, syntax, notation, axiom, sorry.
-/
import Derived.Test.YtgcgmclghbebjaaGreatChecked
import GoSem.Claim
import GoSem.ClaimJoined
import GoSem.ClaimMapViews
import Derived.JoinedTies
import Derived.KernelRfl
namespace Go.Proofs.YtgcgmclghbebjaaGreat
/- THE CELL 'sum', in the pinned program and in every row, IS THE sha256 OF THE DUMP (.gsa) THAT YtgcgmclghbebjaaGreatProg.lean LOADS. Nothing in Lean hashes anything: it is a label: what it is worth is what the hold of that sum in a sandbox is worth. -/
noncomputable def Tryz.pinned : Pinned := { name := "ytgcgmclghbebjaagreat", sum := "433d158299091d75d6af81819c385d72f6675c801a3e63b3b736bd55d9a2f218", checked := Tryz.checked }
namespace Rows
def none {H : Type} : Left H := { results := [], args := [] }

/-- 'scrutinylaw11.StoreTells': WHATEVER THE INPUT: true; the input reads as it did. -/
def storeTellsSpec : ChangeSpec := { name := "storeTells", fn := fun _ => fun
  | [d1, d2, d3] => { results := [.lit (.bool true)], args := [d1, d2, d3] }
  | _ => none }
def storeTellsRow : OpenClaim := { program := "ytgcgmclghbebjaagreat", sum := "433d158299091d75d6af81819c385d72f6675c801a3e63b3b736bd55d9a2f218", func := "scrutiny/scrutinylaw11.StoreTells", spec := "storeTells", unfollowed := true, recurses := true, apart := false }
def StoreTellsSaid : Prop := storeTellsRow.holds Tryz.pinned (OpenSpec.ofChange storeTellsSpec)

/-- ITS FALSE NEIGHBOUR: 'it returns false'. Refute it at one input. -/
def storeTellsWrong : ChangeSpec := { name := "storeTells", fn := fun _ => fun
  | [d1, d2, d3] => { results := [.lit (.bool false)], args := [d1, d2, d3] }
  | _ => none }
def StoreTellsWrongFalsely : Prop := storeTellsRow.holds Tryz.pinned (OpenSpec.ofChange storeTellsWrong)

/-- 'scrutinylaw11.StoreSame': WHATEVER THE INPUT: true; the input reads as it did. -/
def storeSameSpec : ChangeSpec := { name := "storeSame", fn := fun _ => fun
  | [d1, d2, d3] => { results := [.lit (.bool true)], args := [d1, d2, d3] }
  | _ => none }
def storeSameRow : OpenClaim := { program := "ytgcgmclghbebjaagreat", sum := "433d158299091d75d6af81819c385d72f6675c801a3e63b3b736bd55d9a2f218", func := "scrutiny/scrutinylaw11.StoreSame", spec := "storeSame", unfollowed := true, recurses := true, apart := false }
def StoreSameSaid : Prop := storeSameRow.holds Tryz.pinned (OpenSpec.ofChange storeSameSpec)

/-- ITS FALSE NEIGHBOUR: 'it returns false'. Refute it at one input. -/
def storeSameWrong : ChangeSpec := { name := "storeSame", fn := fun _ => fun
  | [d1, d2, d3] => { results := [.lit (.bool false)], args := [d1, d2, d3] }
  | _ => none }
def StoreSameWrongFalsely : Prop := storeSameRow.holds Tryz.pinned (OpenSpec.ofChange storeSameWrong)

/-- 'scrutinylaw11.StoreFull': WHATEVER THE INPUT: true; the input reads as it did. -/
def storeFullSpec : ChangeSpec := { name := "storeFull", fn := fun _ => fun
  | [d] => { results := [.lit (.bool true)], args := [d] }
  | _ => none }
def storeFullRow : OpenClaim := { program := "ytgcgmclghbebjaagreat", sum := "433d158299091d75d6af81819c385d72f6675c801a3e63b3b736bd55d9a2f218", func := "scrutiny/scrutinylaw11.StoreFull", spec := "storeFull", unfollowed := true, recurses := true, apart := false }
def StoreFullSaid : Prop := storeFullRow.holds Tryz.pinned (OpenSpec.ofChange storeFullSpec)

/-- ITS FALSE NEIGHBOUR: 'it returns false'. Refute it at one input. -/
def storeFullWrong : ChangeSpec := { name := "storeFull", fn := fun _ => fun
  | [d] => { results := [.lit (.bool false)], args := [d] }
  | _ => none }
def StoreFullWrongFalsely : Prop := storeFullRow.holds Tryz.pinned (OpenSpec.ofChange storeFullWrong)

/-- 'scrutinylaw11.StoreLossy': WHATEVER THE INPUT: true; the input reads as it did. -/
def storeLossySpec : ChangeSpec := { name := "storeLossy", fn := fun _ => fun
  | [d] => { results := [.lit (.bool true)], args := [d] }
  | _ => none }
def storeLossyRow : OpenClaim := { program := "ytgcgmclghbebjaagreat", sum := "433d158299091d75d6af81819c385d72f6675c801a3e63b3b736bd55d9a2f218", func := "scrutiny/scrutinylaw11.StoreLossy", spec := "storeLossy", unfollowed := true, recurses := true, apart := false }
def StoreLossySaid : Prop := storeLossyRow.holds Tryz.pinned (OpenSpec.ofChange storeLossySpec)

/-- ITS FALSE NEIGHBOUR: 'it returns false'. Refute it at one input. -/
def storeLossyWrong : ChangeSpec := { name := "storeLossy", fn := fun _ => fun
  | [d] => { results := [.lit (.bool false)], args := [d] }
  | _ => none }
def StoreLossyWrongFalsely : Prop := storeLossyRow.holds Tryz.pinned (OpenSpec.ofChange storeLossyWrong)

/-- 'scrutinylaw11.StoreOld': WHATEVER THE INPUT: true; the input reads as it did. -/
def storeOldSpec : ChangeSpec := { name := "storeOld", fn := fun _ => fun
  | [d] => { results := [.lit (.bool true)], args := [d] }
  | _ => none }
def storeOldRow : OpenClaim := { program := "ytgcgmclghbebjaagreat", sum := "433d158299091d75d6af81819c385d72f6675c801a3e63b3b736bd55d9a2f218", func := "scrutiny/scrutinylaw11.StoreOld", spec := "storeOld", unfollowed := true, recurses := true, apart := false }
def StoreOldSaid : Prop := storeOldRow.holds Tryz.pinned (OpenSpec.ofChange storeOldSpec)

/-- ITS FALSE NEIGHBOUR: 'it returns false'. Refute it at one input. -/
def storeOldWrong : ChangeSpec := { name := "storeOld", fn := fun _ => fun
  | [d] => { results := [.lit (.bool false)], args := [d] }
  | _ => none }
def StoreOldWrongFalsely : Prop := storeOldRow.holds Tryz.pinned (OpenSpec.ofChange storeOldWrong)

/- THE SECOND FORM. 'bulk': how many values and letters a reading holds, each counted each time it is reached (what is shared counts as often as it is met; a slice's spare places count too). A statement '..UptoSaid' is the law's where the arguments, and the package variables that the reading takes, are together of bulk at most 1048576: NARROWER than '..Said'. Prove '..Said' where nothing that the law and all that it calls make is longer than what came in: it says more and counts as full. Else prove '..UptoSaid'. A law counts once. -/
mutual
def uptoBulk {H : Type} : DataW H → Nat
  | .lit (.string bytes) => bytes.length + 1
  | .lit _ => 1
  | .nil => 1
  | .ptr d => uptoBulk d + 1
  | .slice elems spare => uptoBulkAll elems + uptoBulkAll spare + 1
  | .agg parts => uptoBulkAll parts + 1
  | .iface _ d => uptoBulk d + 1
  | .map entries => uptoBulkEntries entries + 1
  | .held _ => 1
def uptoBulkAll {H : Type} : List (DataW H) → Nat
  | [] => 0
  | d :: r => uptoBulk d + uptoBulkAll r
def uptoBulkEntries {H : Type} : List (Lit × DataW H) → Nat
  | [] => 0
  | x :: r => uptoBulkEntry x + uptoBulkEntries r
def uptoBulkEntry {H : Type} : Lit × DataW H → Nat
  | (.string bytes, d) => bytes.length + uptoBulk d + 1
  | (_, d) => uptoBulk d + 1
 end
def uptoSmall : (H : Type) → List (DataW H) → Bool := fun _ ds => decide (uptoBulkAll ds ≤ 1048576)
def OpenSpec.upto (s : _root_.Go.ChangeSpec) : _root_.Go.OpenSpec := { _root_.Go.OpenSpec.ofChange s with cond := some uptoSmall }

/-- 'scrutinylaw11.StoreTells', WHERE WHAT IT READS IS OF BULK AT MOST 1048576: true; the input reads as it did. -/
def storeTellsUptoRow : OpenClaim := { program := "ytgcgmclghbebjaagreat", sum := "433d158299091d75d6af81819c385d72f6675c801a3e63b3b736bd55d9a2f218", func := "scrutiny/scrutinylaw11.StoreTells", spec := "storeTells", unfollowed := true, recurses := true, apart := false, narrowed := true }
def StoreTellsUptoSaid : Prop := storeTellsUptoRow.holds Tryz.pinned (OpenSpec.upto storeTellsSpec)

/-- 'scrutinylaw11.StoreSame', WHERE WHAT IT READS IS OF BULK AT MOST 1048576: true; the input reads as it did. -/
def storeSameUptoRow : OpenClaim := { program := "ytgcgmclghbebjaagreat", sum := "433d158299091d75d6af81819c385d72f6675c801a3e63b3b736bd55d9a2f218", func := "scrutiny/scrutinylaw11.StoreSame", spec := "storeSame", unfollowed := true, recurses := true, apart := false, narrowed := true }
def StoreSameUptoSaid : Prop := storeSameUptoRow.holds Tryz.pinned (OpenSpec.upto storeSameSpec)

/-- 'scrutinylaw11.StoreFull', WHERE WHAT IT READS IS OF BULK AT MOST 1048576: true; the input reads as it did. -/
def storeFullUptoRow : OpenClaim := { program := "ytgcgmclghbebjaagreat", sum := "433d158299091d75d6af81819c385d72f6675c801a3e63b3b736bd55d9a2f218", func := "scrutiny/scrutinylaw11.StoreFull", spec := "storeFull", unfollowed := true, recurses := true, apart := false, narrowed := true }
def StoreFullUptoSaid : Prop := storeFullUptoRow.holds Tryz.pinned (OpenSpec.upto storeFullSpec)

/-- 'scrutinylaw11.StoreLossy', WHERE WHAT IT READS IS OF BULK AT MOST 1048576: true; the input reads as it did. -/
def storeLossyUptoRow : OpenClaim := { program := "ytgcgmclghbebjaagreat", sum := "433d158299091d75d6af81819c385d72f6675c801a3e63b3b736bd55d9a2f218", func := "scrutiny/scrutinylaw11.StoreLossy", spec := "storeLossy", unfollowed := true, recurses := true, apart := false, narrowed := true }
def StoreLossyUptoSaid : Prop := storeLossyUptoRow.holds Tryz.pinned (OpenSpec.upto storeLossySpec)

/-- 'scrutinylaw11.StoreOld', WHERE WHAT IT READS IS OF BULK AT MOST 1048576: true; the input reads as it did. -/
def storeOldUptoRow : OpenClaim := { program := "ytgcgmclghbebjaagreat", sum := "433d158299091d75d6af81819c385d72f6675c801a3e63b3b736bd55d9a2f218", func := "scrutiny/scrutinylaw11.StoreOld", spec := "storeOld", unfollowed := true, recurses := true, apart := false, narrowed := true }
def StoreOldUptoSaid : Prop := storeOldUptoRow.holds Tryz.pinned (OpenSpec.upto storeOldSpec)

end Rows
end Go.Proofs.YtgcgmclghbebjaaGreat
