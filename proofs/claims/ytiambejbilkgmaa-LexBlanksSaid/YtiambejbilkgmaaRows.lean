/-
  No cell of these rows narrows 'for every input' (looked for: loops, veiled, ifaces, maps, wideKeys, modest, calm, conditions, laid).
  DERIVED. THE GIVEN ROWS OF THIS SEAT. 7 by the template 'for every input the law returns true; each argument reads behind the call as it read before'; 0 by the template 'total and deterministic' (their statements: YtiambejbilkgmaaTotals.lean).
  GIVEN WITH THE SEED: the statements are not yours to turn. If you find one false, say at which input.
  Laid BY PROGRAM, IN A SANDBOX (cutbox-rows.mjs): the forced cells as the released guide's own fill.sh prints them over the translation 1d5037018d0c7a43… (all of the seat's roots in one cut). By AI agents, Wed Nov 11 2026. No macro, syntax, notation, axiom, sorry.
-/
import Derived.Test.YtiambejbilkgmaaChecked
import GoSem.Claim
import GoSem.ClaimJoined
import GoSem.ClaimMapViews
import Derived.JoinedTies
import Derived.KernelRfl
namespace Go.Proofs.Ytiambejbilkgmaa
/- THE CELL 'sum', in the pinned program and in every row, IS THE sha256 OF THE DUMP (.gsa) THAT YtiambejbilkgmaaProg.lean LOADS. Nothing in Lean hashes anything: it is a label: what it is worth is what the hold of that sum in a sandbox is worth. -/
noncomputable def Try.pinned : Pinned := { name := "ytiambejbilkgmaa", sum := "1d5037018d0c7a436b71afe3fac7992f87bf2ac1cd0d128af6ffcc835272ce7b", checked := Try.checked }
namespace Rows
def none {H : Type} : Left H := { results := [], args := [] }

/-- 'scrutinylaw12.LexTells': WHATEVER THE INPUT: true; the input reads as it did. -/
def lexTellsSpec : ChangeSpec := { name := "lexTells", fn := fun _ => fun
  | [d] => { results := [.lit (.bool true)], args := [d] }
  | _ => none }
def lexTellsRow : OpenClaim := { program := "ytiambejbilkgmaa", sum := "1d5037018d0c7a436b71afe3fac7992f87bf2ac1cd0d128af6ffcc835272ce7b", func := "scrutiny/scrutinylaw12.LexTells", spec := "lexTells", unfollowed := true, recurses := true, apart := false }
def LexTellsSaid : Prop := lexTellsRow.holds Try.pinned (OpenSpec.ofChange lexTellsSpec)

/-- ITS FALSE NEIGHBOUR: 'it returns false'. Refute it at one input. -/
def lexTellsWrong : ChangeSpec := { name := "lexTells", fn := fun _ => fun
  | [d] => { results := [.lit (.bool false)], args := [d] }
  | _ => none }
def LexTellsWrongFalsely : Prop := lexTellsRow.holds Try.pinned (OpenSpec.ofChange lexTellsWrong)

/-- 'scrutinylaw12.LexBlanks': WHATEVER THE INPUT: true; the input reads as it did. -/
def lexBlanksSpec : ChangeSpec := { name := "lexBlanks", fn := fun _ => fun
  | [d1, d2] => { results := [.lit (.bool true)], args := [d1, d2] }
  | _ => none }
def lexBlanksRow : OpenClaim := { program := "ytiambejbilkgmaa", sum := "1d5037018d0c7a436b71afe3fac7992f87bf2ac1cd0d128af6ffcc835272ce7b", func := "scrutiny/scrutinylaw12.LexBlanks", spec := "lexBlanks", unfollowed := true, recurses := true, apart := false }
def LexBlanksSaid : Prop := lexBlanksRow.holds Try.pinned (OpenSpec.ofChange lexBlanksSpec)

/-- ITS FALSE NEIGHBOUR: 'it returns false'. Refute it at one input. -/
def lexBlanksWrong : ChangeSpec := { name := "lexBlanks", fn := fun _ => fun
  | [d1, d2] => { results := [.lit (.bool false)], args := [d1, d2] }
  | _ => none }
def LexBlanksWrongFalsely : Prop := lexBlanksRow.holds Try.pinned (OpenSpec.ofChange lexBlanksWrong)

/-- 'scrutinylaw12.LexPlaces': WHATEVER THE INPUT: true; the input reads as it did. -/
def lexPlacesSpec : ChangeSpec := { name := "lexPlaces", fn := fun _ => fun
  | [d] => { results := [.lit (.bool true)], args := [d] }
  | _ => none }
def lexPlacesRow : OpenClaim := { program := "ytiambejbilkgmaa", sum := "1d5037018d0c7a436b71afe3fac7992f87bf2ac1cd0d128af6ffcc835272ce7b", func := "scrutiny/scrutinylaw12.LexPlaces", spec := "lexPlaces", unfollowed := true, recurses := true, apart := false }
def LexPlacesSaid : Prop := lexPlacesRow.holds Try.pinned (OpenSpec.ofChange lexPlacesSpec)

/-- ITS FALSE NEIGHBOUR: 'it returns false'. Refute it at one input. -/
def lexPlacesWrong : ChangeSpec := { name := "lexPlaces", fn := fun _ => fun
  | [d] => { results := [.lit (.bool false)], args := [d] }
  | _ => none }
def LexPlacesWrongFalsely : Prop := lexPlacesRow.holds Try.pinned (OpenSpec.ofChange lexPlacesWrong)

/-- 'scrutinylaw12.LexNumbers': WHATEVER THE INPUT: true; the input reads as it did. -/
def lexNumbersSpec : ChangeSpec := { name := "lexNumbers", fn := fun _ => fun
  | [d1, d2, d3] => { results := [.lit (.bool true)], args := [d1, d2, d3] }
  | _ => none }
def lexNumbersRow : OpenClaim := { program := "ytiambejbilkgmaa", sum := "1d5037018d0c7a436b71afe3fac7992f87bf2ac1cd0d128af6ffcc835272ce7b", func := "scrutiny/scrutinylaw12.LexNumbers", spec := "lexNumbers", unfollowed := true, recurses := true, apart := false }
def LexNumbersSaid : Prop := lexNumbersRow.holds Try.pinned (OpenSpec.ofChange lexNumbersSpec)

/-- ITS FALSE NEIGHBOUR: 'it returns false'. Refute it at one input. -/
def lexNumbersWrong : ChangeSpec := { name := "lexNumbers", fn := fun _ => fun
  | [d1, d2, d3] => { results := [.lit (.bool false)], args := [d1, d2, d3] }
  | _ => none }
def LexNumbersWrongFalsely : Prop := lexNumbersRow.holds Try.pinned (OpenSpec.ofChange lexNumbersWrong)

/-- 'scrutinylaw12.LexJoins': WHATEVER THE INPUT: true; the input reads as it did. -/
def lexJoinsSpec : ChangeSpec := { name := "lexJoins", fn := fun _ => fun
  | [d1, d2] => { results := [.lit (.bool true)], args := [d1, d2] }
  | _ => none }
def lexJoinsRow : OpenClaim := { program := "ytiambejbilkgmaa", sum := "1d5037018d0c7a436b71afe3fac7992f87bf2ac1cd0d128af6ffcc835272ce7b", func := "scrutiny/scrutinylaw12.LexJoins", spec := "lexJoins", unfollowed := true, recurses := true, apart := false }
def LexJoinsSaid : Prop := lexJoinsRow.holds Try.pinned (OpenSpec.ofChange lexJoinsSpec)

/-- ITS FALSE NEIGHBOUR: 'it returns false'. Refute it at one input. -/
def lexJoinsWrong : ChangeSpec := { name := "lexJoins", fn := fun _ => fun
  | [d1, d2] => { results := [.lit (.bool false)], args := [d1, d2] }
  | _ => none }
def LexJoinsWrongFalsely : Prop := lexJoinsRow.holds Try.pinned (OpenSpec.ofChange lexJoinsWrong)

/-- 'scrutinylaw12.LexSigns': WHATEVER THE INPUT: true; the input reads as it did. -/
def lexSignsSpec : ChangeSpec := { name := "lexSigns", fn := fun _ => fun
  | [d1, d2] => { results := [.lit (.bool true)], args := [d1, d2] }
  | _ => none }
def lexSignsRow : OpenClaim := { program := "ytiambejbilkgmaa", sum := "1d5037018d0c7a436b71afe3fac7992f87bf2ac1cd0d128af6ffcc835272ce7b", func := "scrutiny/scrutinylaw12.LexSigns", spec := "lexSigns", unfollowed := true, recurses := true, apart := false }
def LexSignsSaid : Prop := lexSignsRow.holds Try.pinned (OpenSpec.ofChange lexSignsSpec)

/-- ITS FALSE NEIGHBOUR: 'it returns false'. Refute it at one input. -/
def lexSignsWrong : ChangeSpec := { name := "lexSigns", fn := fun _ => fun
  | [d1, d2] => { results := [.lit (.bool false)], args := [d1, d2] }
  | _ => none }
def LexSignsWrongFalsely : Prop := lexSignsRow.holds Try.pinned (OpenSpec.ofChange lexSignsWrong)

/-- 'scrutinylaw12.LexComments': WHATEVER THE INPUT: true; the input reads as it did. -/
def lexCommentsSpec : ChangeSpec := { name := "lexComments", fn := fun _ => fun
  | [d1, d2] => { results := [.lit (.bool true)], args := [d1, d2] }
  | _ => none }
def lexCommentsRow : OpenClaim := { program := "ytiambejbilkgmaa", sum := "1d5037018d0c7a436b71afe3fac7992f87bf2ac1cd0d128af6ffcc835272ce7b", func := "scrutiny/scrutinylaw12.LexComments", spec := "lexComments", unfollowed := true, recurses := true, apart := false }
def LexCommentsSaid : Prop := lexCommentsRow.holds Try.pinned (OpenSpec.ofChange lexCommentsSpec)

/-- ITS FALSE NEIGHBOUR: 'it returns false'. Refute it at one input. -/
def lexCommentsWrong : ChangeSpec := { name := "lexComments", fn := fun _ => fun
  | [d1, d2] => { results := [.lit (.bool false)], args := [d1, d2] }
  | _ => none }
def LexCommentsWrongFalsely : Prop := lexCommentsRow.holds Try.pinned (OpenSpec.ofChange lexCommentsWrong)

/- THE SECOND FORM. 'bulk': how many values and letters a reading holds, each counted each time it is reached (what is shared counts as often as it is met; a slice's spare places count too). A statement '..UptoSaid' is the law's where the arguments, and the package variables that the reading takes, are together of bulk at most 1048576: NARROWER than '..Said'. Prove '..Said' where nothing that the law and all that it calls make is longer than what came in: it says more and counts as full. Else prove '..UptoSaid'. A law counts once. -/
mutual
def uptoBulk {H : Type} : DataW H → Nat
  | .lit (.string bytes) => bytes.length + 1
  | .lit _ => 1
  | .nil => 1
  | .ptr d => uptoBulk d + 1
  | .slice elems spare => uptoBulkAll elems + uptoBulkAll spare + 1
  | .agg parts => uptoBulkAll parts + 1
  | .iface _ d => uptoBulk d + 1
  | .map entries => uptoBulkEntries entries + 1
  | .held _ => 1
def uptoBulkAll {H : Type} : List (DataW H) → Nat
  | [] => 0
  | d :: r => uptoBulk d + uptoBulkAll r
def uptoBulkEntries {H : Type} : List (Lit × DataW H) → Nat
  | [] => 0
  | x :: r => uptoBulkEntry x + uptoBulkEntries r
def uptoBulkEntry {H : Type} : Lit × DataW H → Nat
  | (.string bytes, d) => bytes.length + uptoBulk d + 1
  | (_, d) => uptoBulk d + 1
 end
def uptoSmall : (H : Type) → List (DataW H) → Bool := fun _ ds => decide (uptoBulkAll ds ≤ 1048576)
def OpenSpec.upto (s : _root_.Go.ChangeSpec) : _root_.Go.OpenSpec := { _root_.Go.OpenSpec.ofChange s with cond := some uptoSmall }

/-- 'scrutinylaw12.LexTells', WHERE WHAT IT READS IS OF BULK AT MOST 1048576: true; the input reads as it did. -/
def lexTellsUptoRow : OpenClaim := { program := "ytiambejbilkgmaa", sum := "1d5037018d0c7a436b71afe3fac7992f87bf2ac1cd0d128af6ffcc835272ce7b", func := "scrutiny/scrutinylaw12.LexTells", spec := "lexTells", unfollowed := true, recurses := true, apart := false, narrowed := true }
def LexTellsUptoSaid : Prop := lexTellsUptoRow.holds Try.pinned (OpenSpec.upto lexTellsSpec)

/-- 'scrutinylaw12.LexBlanks', WHERE WHAT IT READS IS OF BULK AT MOST 1048576: true; the input reads as it did. -/
def lexBlanksUptoRow : OpenClaim := { program := "ytiambejbilkgmaa", sum := "1d5037018d0c7a436b71afe3fac7992f87bf2ac1cd0d128af6ffcc835272ce7b", func := "scrutiny/scrutinylaw12.LexBlanks", spec := "lexBlanks", unfollowed := true, recurses := true, apart := false, narrowed := true }
def LexBlanksUptoSaid : Prop := lexBlanksUptoRow.holds Try.pinned (OpenSpec.upto lexBlanksSpec)

/-- 'scrutinylaw12.LexPlaces', WHERE WHAT IT READS IS OF BULK AT MOST 1048576: true; the input reads as it did. -/
def lexPlacesUptoRow : OpenClaim := { program := "ytiambejbilkgmaa", sum := "1d5037018d0c7a436b71afe3fac7992f87bf2ac1cd0d128af6ffcc835272ce7b", func := "scrutiny/scrutinylaw12.LexPlaces", spec := "lexPlaces", unfollowed := true, recurses := true, apart := false, narrowed := true }
def LexPlacesUptoSaid : Prop := lexPlacesUptoRow.holds Try.pinned (OpenSpec.upto lexPlacesSpec)

/-- 'scrutinylaw12.LexNumbers', WHERE WHAT IT READS IS OF BULK AT MOST 1048576: true; the input reads as it did. -/
def lexNumbersUptoRow : OpenClaim := { program := "ytiambejbilkgmaa", sum := "1d5037018d0c7a436b71afe3fac7992f87bf2ac1cd0d128af6ffcc835272ce7b", func := "scrutiny/scrutinylaw12.LexNumbers", spec := "lexNumbers", unfollowed := true, recurses := true, apart := false, narrowed := true }
def LexNumbersUptoSaid : Prop := lexNumbersUptoRow.holds Try.pinned (OpenSpec.upto lexNumbersSpec)

/-- 'scrutinylaw12.LexJoins', WHERE WHAT IT READS IS OF BULK AT MOST 1048576: true; the input reads as it did. -/
def lexJoinsUptoRow : OpenClaim := { program := "ytiambejbilkgmaa", sum := "1d5037018d0c7a436b71afe3fac7992f87bf2ac1cd0d128af6ffcc835272ce7b", func := "scrutiny/scrutinylaw12.LexJoins", spec := "lexJoins", unfollowed := true, recurses := true, apart := false, narrowed := true }
def LexJoinsUptoSaid : Prop := lexJoinsUptoRow.holds Try.pinned (OpenSpec.upto lexJoinsSpec)

/-- 'scrutinylaw12.LexSigns', WHERE WHAT IT READS IS OF BULK AT MOST 1048576: true; the input reads as it did. -/
def lexSignsUptoRow : OpenClaim := { program := "ytiambejbilkgmaa", sum := "1d5037018d0c7a436b71afe3fac7992f87bf2ac1cd0d128af6ffcc835272ce7b", func := "scrutiny/scrutinylaw12.LexSigns", spec := "lexSigns", unfollowed := true, recurses := true, apart := false, narrowed := true }
def LexSignsUptoSaid : Prop := lexSignsUptoRow.holds Try.pinned (OpenSpec.upto lexSignsSpec)

/-- 'scrutinylaw12.LexComments', WHERE WHAT IT READS IS OF BULK AT MOST 1048576: true; the input reads as it did. -/
def lexCommentsUptoRow : OpenClaim := { program := "ytiambejbilkgmaa", sum := "1d5037018d0c7a436b71afe3fac7992f87bf2ac1cd0d128af6ffcc835272ce7b", func := "scrutiny/scrutinylaw12.LexComments", spec := "lexComments", unfollowed := true, recurses := true, apart := false, narrowed := true }
def LexCommentsUptoSaid : Prop := lexCommentsUptoRow.holds Try.pinned (OpenSpec.upto lexCommentsSpec)

end Rows
end Go.Proofs.Ytiambejbilkgmaa
