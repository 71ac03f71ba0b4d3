/-
  No cell of these rows narrows 'for every input' (looked for: loops, veiled, ifaces, maps, wideKeys, modest, calm, conditions, laid).
  DERIVED. THE GIVEN ROWS OF THIS SEAT. 6 by the template 'for every input the law returns true; each argument reads behind the call as it read before'; 0 by the template 'total and deterministic' (their statements: YtjappdgehmjomaaTotals.lean).
  GIVEN WITH THE SEED: the statements are not yours to turn. If you find one false, say at which input.
  Laid BY PROGRAM, IN A SANDBOX (cutbox-rows.mjs): the forced cells as the released guide's own fill.sh prints them over the translation f1a4de342c7d7a0d… (all of the seat's roots in one cut). By AI agents, Wed Nov 11 2026. No macro, syntax, notation, axiom, sorry.
-/
import Derived.Test.YtjappdgehmjomaaChecked
import GoSem.Claim
import GoSem.ClaimJoined
import GoSem.ClaimMapViews
import Derived.JoinedTies
import Derived.KernelRfl
namespace Go.Proofs.Ytjappdgehmjomaa
/- THE CELL 'sum', in the pinned program and in every row, IS THE sha256 OF THE DUMP (.gsa) THAT YtjappdgehmjomaaProg.lean LOADS. Nothing in Lean hashes anything: it is a label: what it is worth is what the hold of that sum in a sandbox is worth. -/
noncomputable def Try.pinned : Pinned := { name := "ytjappdgehmjomaa", sum := "f1a4de342c7d7a0de17cefc5af72a11a03b972ee4924261e52253e909284c067", checked := Try.checked }
namespace Rows
def none {H : Type} : Left H := { results := [], args := [] }

/-- 'scrutinylaw09.DfaTells': WHATEVER THE INPUT: true; the input reads as it did. -/
def dfaTellsSpec : ChangeSpec := { name := "dfaTells", fn := fun _ => fun
  | [d1, d2, d3] => { results := [.lit (.bool true)], args := [d1, d2, d3] }
  | _ => none }
def dfaTellsRow : OpenClaim := { program := "ytjappdgehmjomaa", sum := "f1a4de342c7d7a0de17cefc5af72a11a03b972ee4924261e52253e909284c067", func := "scrutiny/scrutinylaw09.DfaTells", spec := "dfaTells", inPlace := ["slices.overlaps[scrutiny/api.Edge]"], unfollowed := true, recurses := true, apart := false }
def DfaTellsSaid : Prop := dfaTellsRow.holds Try.pinned (OpenSpec.ofChange dfaTellsSpec)

/-- ITS FALSE NEIGHBOUR: 'it returns false'. Refute it at one input. -/
def dfaTellsWrong : ChangeSpec := { name := "dfaTells", fn := fun _ => fun
  | [d1, d2, d3] => { results := [.lit (.bool false)], args := [d1, d2, d3] }
  | _ => none }
def DfaTellsWrongFalsely : Prop := dfaTellsRow.holds Try.pinned (OpenSpec.ofChange dfaTellsWrong)

/-- 'scrutinylaw09.DfaOrder': WHATEVER THE INPUT: true; the input reads as it did. -/
def dfaOrderSpec : ChangeSpec := { name := "dfaOrder", fn := fun _ => fun
  | [d1, d2] => { results := [.lit (.bool true)], args := [d1, d2] }
  | _ => none }
def dfaOrderRow : OpenClaim := { program := "ytjappdgehmjomaa", sum := "f1a4de342c7d7a0de17cefc5af72a11a03b972ee4924261e52253e909284c067", func := "scrutiny/scrutinylaw09.DfaOrder", spec := "dfaOrder", inPlace := ["slices.overlaps[scrutiny/api.Edge]"], unfollowed := true, recurses := true, apart := false }
def DfaOrderSaid : Prop := dfaOrderRow.holds Try.pinned (OpenSpec.ofChange dfaOrderSpec)

/-- ITS FALSE NEIGHBOUR: 'it returns false'. Refute it at one input. -/
def dfaOrderWrong : ChangeSpec := { name := "dfaOrder", fn := fun _ => fun
  | [d1, d2] => { results := [.lit (.bool false)], args := [d1, d2] }
  | _ => none }
def DfaOrderWrongFalsely : Prop := dfaOrderRow.holds Try.pinned (OpenSpec.ofChange dfaOrderWrong)

/-- 'scrutinylaw09.DfaOld': WHATEVER THE INPUT: true; the input reads as it did. -/
def dfaOldSpec : ChangeSpec := { name := "dfaOld", fn := fun _ => fun
  | [d1, d2, d3] => { results := [.lit (.bool true)], args := [d1, d2, d3] }
  | _ => none }
def dfaOldRow : OpenClaim := { program := "ytjappdgehmjomaa", sum := "f1a4de342c7d7a0de17cefc5af72a11a03b972ee4924261e52253e909284c067", func := "scrutiny/scrutinylaw09.DfaOld", spec := "dfaOld", inPlace := ["slices.overlaps[scrutiny/api.Edge]"], unfollowed := true, recurses := true, apart := false }
def DfaOldSaid : Prop := dfaOldRow.holds Try.pinned (OpenSpec.ofChange dfaOldSpec)

/-- ITS FALSE NEIGHBOUR: 'it returns false'. Refute it at one input. -/
def dfaOldWrong : ChangeSpec := { name := "dfaOld", fn := fun _ => fun
  | [d1, d2, d3] => { results := [.lit (.bool false)], args := [d1, d2, d3] }
  | _ => none }
def DfaOldWrongFalsely : Prop := dfaOldRow.holds Try.pinned (OpenSpec.ofChange dfaOldWrong)

/-- 'scrutinylaw09.DfaAll': WHATEVER THE INPUT: true; the input reads as it did. -/
def dfaAllSpec : ChangeSpec := { name := "dfaAll", fn := fun _ => fun
  | [d1, d2, d3] => { results := [.lit (.bool true)], args := [d1, d2, d3] }
  | _ => none }
def dfaAllRow : OpenClaim := { program := "ytjappdgehmjomaa", sum := "f1a4de342c7d7a0de17cefc5af72a11a03b972ee4924261e52253e909284c067", func := "scrutiny/scrutinylaw09.DfaAll", spec := "dfaAll", inPlace := ["slices.overlaps[scrutiny/api.Edge]"], unfollowed := true, recurses := true, apart := false }
def DfaAllSaid : Prop := dfaAllRow.holds Try.pinned (OpenSpec.ofChange dfaAllSpec)

/-- ITS FALSE NEIGHBOUR: 'it returns false'. Refute it at one input. -/
def dfaAllWrong : ChangeSpec := { name := "dfaAll", fn := fun _ => fun
  | [d1, d2, d3] => { results := [.lit (.bool false)], args := [d1, d2, d3] }
  | _ => none }
def DfaAllWrongFalsely : Prop := dfaAllRow.holds Try.pinned (OpenSpec.ofChange dfaAllWrong)

/-- 'scrutinylaw09.DfaTails': WHATEVER THE INPUT: true; the input reads as it did. -/
def dfaTailsSpec : ChangeSpec := { name := "dfaTails", fn := fun _ => fun
  | [d1, d2] => { results := [.lit (.bool true)], args := [d1, d2] }
  | _ => none }
def dfaTailsRow : OpenClaim := { program := "ytjappdgehmjomaa", sum := "f1a4de342c7d7a0de17cefc5af72a11a03b972ee4924261e52253e909284c067", func := "scrutiny/scrutinylaw09.DfaTails", spec := "dfaTails", inPlace := ["slices.overlaps[scrutiny/api.Edge]"], unfollowed := true, recurses := true, apart := false }
def DfaTailsSaid : Prop := dfaTailsRow.holds Try.pinned (OpenSpec.ofChange dfaTailsSpec)

/-- ITS FALSE NEIGHBOUR: 'it returns false'. Refute it at one input. -/
def dfaTailsWrong : ChangeSpec := { name := "dfaTails", fn := fun _ => fun
  | [d1, d2] => { results := [.lit (.bool false)], args := [d1, d2] }
  | _ => none }
def DfaTailsWrongFalsely : Prop := dfaTailsRow.holds Try.pinned (OpenSpec.ofChange dfaTailsWrong)

/-- 'scrutinylaw09.DfaRising': WHATEVER THE INPUT: true; the input reads as it did. -/
def dfaRisingSpec : ChangeSpec := { name := "dfaRising", fn := fun _ => fun
  | [d1, d2] => { results := [.lit (.bool true)], args := [d1, d2] }
  | _ => none }
def dfaRisingRow : OpenClaim := { program := "ytjappdgehmjomaa", sum := "f1a4de342c7d7a0de17cefc5af72a11a03b972ee4924261e52253e909284c067", func := "scrutiny/scrutinylaw09.DfaRising", spec := "dfaRising", inPlace := ["slices.overlaps[scrutiny/api.Edge]"], unfollowed := true, recurses := true, apart := false }
def DfaRisingSaid : Prop := dfaRisingRow.holds Try.pinned (OpenSpec.ofChange dfaRisingSpec)

/-- ITS FALSE NEIGHBOUR: 'it returns false'. Refute it at one input. -/
def dfaRisingWrong : ChangeSpec := { name := "dfaRising", fn := fun _ => fun
  | [d1, d2] => { results := [.lit (.bool false)], args := [d1, d2] }
  | _ => none }
def DfaRisingWrongFalsely : Prop := dfaRisingRow.holds Try.pinned (OpenSpec.ofChange dfaRisingWrong)

/- THE SECOND FORM. 'bulk': how many values and letters a reading holds, each counted each time it is reached (what is shared counts as often as it is met; a slice's spare places count too). A statement '..UptoSaid' is the law's where the arguments, and the package variables that the reading takes, are together of bulk at most 1048576: NARROWER than '..Said'. Prove '..Said' where nothing that the law and all that it calls make is longer than what came in: it says more and counts as full. Else prove '..UptoSaid'. A law counts once. -/
mutual
def uptoBulk {H : Type} : DataW H → Nat
  | .lit (.string bytes) => bytes.length + 1
  | .lit _ => 1
  | .nil => 1
  | .ptr d => uptoBulk d + 1
  | .slice elems spare => uptoBulkAll elems + uptoBulkAll spare + 1
  | .agg parts => uptoBulkAll parts + 1
  | .iface _ d => uptoBulk d + 1
  | .map entries => uptoBulkEntries entries + 1
  | .held _ => 1
def uptoBulkAll {H : Type} : List (DataW H) → Nat
  | [] => 0
  | d :: r => uptoBulk d + uptoBulkAll r
def uptoBulkEntries {H : Type} : List (Lit × DataW H) → Nat
  | [] => 0
  | x :: r => uptoBulkEntry x + uptoBulkEntries r
def uptoBulkEntry {H : Type} : Lit × DataW H → Nat
  | (.string bytes, d) => bytes.length + uptoBulk d + 1
  | (_, d) => uptoBulk d + 1
 end
def uptoSmall : (H : Type) → List (DataW H) → Bool := fun _ ds => decide (uptoBulkAll ds ≤ 1048576)
def OpenSpec.upto (s : _root_.Go.ChangeSpec) : _root_.Go.OpenSpec := { _root_.Go.OpenSpec.ofChange s with cond := some uptoSmall }

/-- 'scrutinylaw09.DfaTells', WHERE WHAT IT READS IS OF BULK AT MOST 1048576: true; the input reads as it did. -/
def dfaTellsUptoRow : OpenClaim := { program := "ytjappdgehmjomaa", sum := "f1a4de342c7d7a0de17cefc5af72a11a03b972ee4924261e52253e909284c067", func := "scrutiny/scrutinylaw09.DfaTells", spec := "dfaTells", inPlace := ["slices.overlaps[scrutiny/api.Edge]"], unfollowed := true, recurses := true, apart := false, narrowed := true }
def DfaTellsUptoSaid : Prop := dfaTellsUptoRow.holds Try.pinned (OpenSpec.upto dfaTellsSpec)

/-- 'scrutinylaw09.DfaOrder', WHERE WHAT IT READS IS OF BULK AT MOST 1048576: true; the input reads as it did. -/
def dfaOrderUptoRow : OpenClaim := { program := "ytjappdgehmjomaa", sum := "f1a4de342c7d7a0de17cefc5af72a11a03b972ee4924261e52253e909284c067", func := "scrutiny/scrutinylaw09.DfaOrder", spec := "dfaOrder", inPlace := ["slices.overlaps[scrutiny/api.Edge]"], unfollowed := true, recurses := true, apart := false, narrowed := true }
def DfaOrderUptoSaid : Prop := dfaOrderUptoRow.holds Try.pinned (OpenSpec.upto dfaOrderSpec)

/-- 'scrutinylaw09.DfaOld', WHERE WHAT IT READS IS OF BULK AT MOST 1048576: true; the input reads as it did. -/
def dfaOldUptoRow : OpenClaim := { program := "ytjappdgehmjomaa", sum := "f1a4de342c7d7a0de17cefc5af72a11a03b972ee4924261e52253e909284c067", func := "scrutiny/scrutinylaw09.DfaOld", spec := "dfaOld", inPlace := ["slices.overlaps[scrutiny/api.Edge]"], unfollowed := true, recurses := true, apart := false, narrowed := true }
def DfaOldUptoSaid : Prop := dfaOldUptoRow.holds Try.pinned (OpenSpec.upto dfaOldSpec)

/-- 'scrutinylaw09.DfaAll', WHERE WHAT IT READS IS OF BULK AT MOST 1048576: true; the input reads as it did. -/
def dfaAllUptoRow : OpenClaim := { program := "ytjappdgehmjomaa", sum := "f1a4de342c7d7a0de17cefc5af72a11a03b972ee4924261e52253e909284c067", func := "scrutiny/scrutinylaw09.DfaAll", spec := "dfaAll", inPlace := ["slices.overlaps[scrutiny/api.Edge]"], unfollowed := true, recurses := true, apart := false, narrowed := true }
def DfaAllUptoSaid : Prop := dfaAllUptoRow.holds Try.pinned (OpenSpec.upto dfaAllSpec)

/-- 'scrutinylaw09.DfaTails', WHERE WHAT IT READS IS OF BULK AT MOST 1048576: true; the input reads as it did. -/
def dfaTailsUptoRow : OpenClaim := { program := "ytjappdgehmjomaa", sum := "f1a4de342c7d7a0de17cefc5af72a11a03b972ee4924261e52253e909284c067", func := "scrutiny/scrutinylaw09.DfaTails", spec := "dfaTails", inPlace := ["slices.overlaps[scrutiny/api.Edge]"], unfollowed := true, recurses := true, apart := false, narrowed := true }
def DfaTailsUptoSaid : Prop := dfaTailsUptoRow.holds Try.pinned (OpenSpec.upto dfaTailsSpec)

/-- 'scrutinylaw09.DfaRising', WHERE WHAT IT READS IS OF BULK AT MOST 1048576: true; the input reads as it did. -/
def dfaRisingUptoRow : OpenClaim := { program := "ytjappdgehmjomaa", sum := "f1a4de342c7d7a0de17cefc5af72a11a03b972ee4924261e52253e909284c067", func := "scrutiny/scrutinylaw09.DfaRising", spec := "dfaRising", inPlace := ["slices.overlaps[scrutiny/api.Edge]"], unfollowed := true, recurses := true, apart := false, narrowed := true }
def DfaRisingUptoSaid : Prop := dfaRisingUptoRow.holds Try.pinned (OpenSpec.upto dfaRisingSpec)

end Rows
end Go.Proofs.Ytjappdgehmjomaa
