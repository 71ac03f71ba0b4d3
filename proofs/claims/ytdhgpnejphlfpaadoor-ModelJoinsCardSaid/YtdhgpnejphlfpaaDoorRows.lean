/-
  NARROWER THAN 'FOR EVERY INPUT', by the rows' own cells (each row's printed sentence says how): ModelBlanks: laid · ModelNames: laid · ModelRanges: laid · ModelMany: laid · ModelJoins: laid · ModelCuts: laid.
  DERIVED. THE GIVEN ROWS OF THIS SEAT. 6 by the template 'for every input the law returns true; each argument reads behind the call as it read before'; 0 by the template 'total and deterministic' (their statements: YtdhgpnejphlfpaaDoorTotals.lean).
  GIVEN WITH THE SEED: the statements are not yours to turn. If you find one false, say at which input.
  Laid BY PROGRAM, IN A SANDBOX (cutbox-rows.mjs): the forced cells as the released guide's own fill.sh prints them over the translation 8377ca32403d9807… (all of the seat's roots in one cut). By AI agents, Wed Nov 11 2026. No macro, syntax, notation, axiom, sorry.
-/
import Derived.Test.YtdhgpnejphlfpaaDoorChecked
import GoSem.Claim
import GoSem.ClaimJoined
import GoSem.ClaimMapViews
import Derived.JoinedTies
import Derived.KernelRfl
namespace Go.Proofs.YtdhgpnejphlfpaaDoor
/- THE CELL 'sum', in the pinned program and in every row, IS THE sha256 OF THE DUMP (.gsa) THAT YtdhgpnejphlfpaaDoorProg.lean LOADS. Nothing in Lean hashes anything: it is a label: what it is worth is what the hold of that sum in a sandbox is worth. -/
noncomputable def Tryd.pinned : Pinned := { name := "ytdhgpnejphlfpaadoor", sum := "8377ca32403d9807563505ab38b399dae21590ac6013fa05b9000cf64fec031a", checked := Tryd.checked }
namespace Rows
def none {H : Type} : Left H := { results := [], args := [] }

/- WHAT THE LISTED PACKAGE-LEVEL VARIABLES READ AS WHEN THE CALL BEGINS. Each datum BY PROGRAM (the guide's laid-datum.mjs) off the statement by which the dump's own 'gosem.cut.vars' lays the variable. In a bare row this is a premise. The card (YtdhgpnejphlfpaaDoorCards.lean) ties it to the program's text. -/
def laid_scrutiny_expr_keys {H : Type} : DataW H := .agg [.lit (.string [116, 114, 117, 101]), .lit (.string [102, 97, 108, 115, 101]), .lit (.string [88]), .lit (.string [70]), .lit (.string [71]), .lit (.string [85]), .lit (.string [82]), .lit (.string [118, 97, 114]), .lit (.string [112, 114, 111, 99])]
def laid_scrutiny_expr_texts {H : Type} : DataW H := .agg [.lit (.string []), .lit (.string []), .lit (.string []), .lit (.string [43]), .lit (.string [45]), .lit (.string [42]), .lit (.string [45]), .lit (.string [61, 61]), .lit (.string [33, 61]), .lit (.string [60]), .lit (.string [60, 61]), .lit (.string [62]), .lit (.string [62, 61]), .lit (.string [116, 114, 117, 101]), .lit (.string [102, 97, 108, 115, 101]), .lit (.string [33]), .lit (.string [38]), .lit (.string [124]), .lit (.string [45, 62]), .lit (.string [60, 45, 62]), .lit (.string [88]), .lit (.string [70]), .lit (.string [71]), .lit (.string [85]), .lit (.string [82])]

/-- 'scrutinylaw14.ModelBlanks': WHATEVER THE INPUT: true; the input reads as it did. -/
def modelBlanksSpec : ChangeSpec := { name := "modelBlanks", fn := fun _ => fun
  | [d1, d2] => { results := [.lit (.bool true)], args := [d1, d2] }
  | _ => none }
def modelBlanksRow : OpenClaim := { program := "ytdhgpnejphlfpaadoor", sum := "8377ca32403d9807563505ab38b399dae21590ac6013fa05b9000cf64fec031a", func := "scrutiny/scrutinylaw14.ModelBlanks", spec := "modelBlanks", unfollowed := true, recurses := true, named := ["scrutiny/expr.keys", "scrutiny/expr.texts"], apart := false, laid := [("scrutiny/expr.keys", laid_scrutiny_expr_keys), ("scrutiny/expr.texts", laid_scrutiny_expr_texts)] }
def ModelBlanksSaid : Prop := modelBlanksRow.holds Tryd.pinned (OpenSpec.ofChange modelBlanksSpec)

/-- ITS FALSE NEIGHBOUR: 'it returns false'. Refute it at one input. -/
def modelBlanksWrong : ChangeSpec := { name := "modelBlanks", fn := fun _ => fun
  | [d1, d2] => { results := [.lit (.bool false)], args := [d1, d2] }
  | _ => none }
def ModelBlanksWrongFalsely : Prop := modelBlanksRow.holds Tryd.pinned (OpenSpec.ofChange modelBlanksWrong)

/-- 'scrutinylaw14.ModelNames': WHATEVER THE INPUT: true; the input reads as it did. -/
def modelNamesSpec : ChangeSpec := { name := "modelNames", fn := fun _ => fun
  | [d1, d2, d3] => { results := [.lit (.bool true)], args := [d1, d2, d3] }
  | _ => none }
def modelNamesRow : OpenClaim := { program := "ytdhgpnejphlfpaadoor", sum := "8377ca32403d9807563505ab38b399dae21590ac6013fa05b9000cf64fec031a", func := "scrutiny/scrutinylaw14.ModelNames", spec := "modelNames", unfollowed := true, recurses := true, named := ["scrutiny/expr.keys", "scrutiny/expr.texts"], apart := false, laid := [("scrutiny/expr.keys", laid_scrutiny_expr_keys), ("scrutiny/expr.texts", laid_scrutiny_expr_texts)] }
def ModelNamesSaid : Prop := modelNamesRow.holds Tryd.pinned (OpenSpec.ofChange modelNamesSpec)

/-- ITS FALSE NEIGHBOUR: 'it returns false'. Refute it at one input. -/
def modelNamesWrong : ChangeSpec := { name := "modelNames", fn := fun _ => fun
  | [d1, d2, d3] => { results := [.lit (.bool false)], args := [d1, d2, d3] }
  | _ => none }
def ModelNamesWrongFalsely : Prop := modelNamesRow.holds Tryd.pinned (OpenSpec.ofChange modelNamesWrong)

/-- 'scrutinylaw14.ModelRanges': WHATEVER THE INPUT: true; the input reads as it did. -/
def modelRangesSpec : ChangeSpec := { name := "modelRanges", fn := fun _ => fun
  | [d1, d2, d3] => { results := [.lit (.bool true)], args := [d1, d2, d3] }
  | _ => none }
def modelRangesRow : OpenClaim := { program := "ytdhgpnejphlfpaadoor", sum := "8377ca32403d9807563505ab38b399dae21590ac6013fa05b9000cf64fec031a", func := "scrutiny/scrutinylaw14.ModelRanges", spec := "modelRanges", unfollowed := true, recurses := true, named := ["scrutiny/expr.keys", "scrutiny/expr.texts"], apart := false, laid := [("scrutiny/expr.keys", laid_scrutiny_expr_keys), ("scrutiny/expr.texts", laid_scrutiny_expr_texts)] }
def ModelRangesSaid : Prop := modelRangesRow.holds Tryd.pinned (OpenSpec.ofChange modelRangesSpec)

/-- ITS FALSE NEIGHBOUR: 'it returns false'. Refute it at one input. -/
def modelRangesWrong : ChangeSpec := { name := "modelRanges", fn := fun _ => fun
  | [d1, d2, d3] => { results := [.lit (.bool false)], args := [d1, d2, d3] }
  | _ => none }
def ModelRangesWrongFalsely : Prop := modelRangesRow.holds Tryd.pinned (OpenSpec.ofChange modelRangesWrong)

/-- 'scrutinylaw14.ModelMany': WHATEVER THE INPUT: true; the input reads as it did. -/
def modelManySpec : ChangeSpec := { name := "modelMany", fn := fun _ => fun
  | [d1, d2] => { results := [.lit (.bool true)], args := [d1, d2] }
  | _ => none }
def modelManyRow : OpenClaim := { program := "ytdhgpnejphlfpaadoor", sum := "8377ca32403d9807563505ab38b399dae21590ac6013fa05b9000cf64fec031a", func := "scrutiny/scrutinylaw14.ModelMany", spec := "modelMany", unfollowed := true, recurses := true, named := ["scrutiny/expr.keys", "scrutiny/expr.texts"], apart := false, laid := [("scrutiny/expr.keys", laid_scrutiny_expr_keys), ("scrutiny/expr.texts", laid_scrutiny_expr_texts)] }
def ModelManySaid : Prop := modelManyRow.holds Tryd.pinned (OpenSpec.ofChange modelManySpec)

/-- ITS FALSE NEIGHBOUR: 'it returns false'. Refute it at one input. -/
def modelManyWrong : ChangeSpec := { name := "modelMany", fn := fun _ => fun
  | [d1, d2] => { results := [.lit (.bool false)], args := [d1, d2] }
  | _ => none }
def ModelManyWrongFalsely : Prop := modelManyRow.holds Tryd.pinned (OpenSpec.ofChange modelManyWrong)

/-- 'scrutinylaw14.ModelJoins': WHATEVER THE INPUT: true; the input reads as it did. -/
def modelJoinsSpec : ChangeSpec := { name := "modelJoins", fn := fun _ => fun
  | [d1, d2] => { results := [.lit (.bool true)], args := [d1, d2] }
  | _ => none }
def modelJoinsRow : OpenClaim := { program := "ytdhgpnejphlfpaadoor", sum := "8377ca32403d9807563505ab38b399dae21590ac6013fa05b9000cf64fec031a", func := "scrutiny/scrutinylaw14.ModelJoins", spec := "modelJoins", unfollowed := true, recurses := true, named := ["scrutiny/expr.keys", "scrutiny/expr.texts"], apart := false, laid := [("scrutiny/expr.keys", laid_scrutiny_expr_keys), ("scrutiny/expr.texts", laid_scrutiny_expr_texts)] }
def ModelJoinsSaid : Prop := modelJoinsRow.holds Tryd.pinned (OpenSpec.ofChange modelJoinsSpec)

/-- ITS FALSE NEIGHBOUR: 'it returns false'. Refute it at one input. -/
def modelJoinsWrong : ChangeSpec := { name := "modelJoins", fn := fun _ => fun
  | [d1, d2] => { results := [.lit (.bool false)], args := [d1, d2] }
  | _ => none }
def ModelJoinsWrongFalsely : Prop := modelJoinsRow.holds Tryd.pinned (OpenSpec.ofChange modelJoinsWrong)

/-- 'scrutinylaw14.ModelCuts': WHATEVER THE INPUT: true; the input reads as it did. -/
def modelCutsSpec : ChangeSpec := { name := "modelCuts", fn := fun _ => fun
  | [d1, d2] => { results := [.lit (.bool true)], args := [d1, d2] }
  | _ => none }
def modelCutsRow : OpenClaim := { program := "ytdhgpnejphlfpaadoor", sum := "8377ca32403d9807563505ab38b399dae21590ac6013fa05b9000cf64fec031a", func := "scrutiny/scrutinylaw14.ModelCuts", spec := "modelCuts", unfollowed := true, recurses := true, named := ["scrutiny/expr.keys", "scrutiny/expr.texts"], apart := false, laid := [("scrutiny/expr.keys", laid_scrutiny_expr_keys), ("scrutiny/expr.texts", laid_scrutiny_expr_texts)] }
def ModelCutsSaid : Prop := modelCutsRow.holds Tryd.pinned (OpenSpec.ofChange modelCutsSpec)

/-- ITS FALSE NEIGHBOUR: 'it returns false'. Refute it at one input. -/
def modelCutsWrong : ChangeSpec := { name := "modelCuts", fn := fun _ => fun
  | [d1, d2] => { results := [.lit (.bool false)], args := [d1, d2] }
  | _ => none }
def ModelCutsWrongFalsely : Prop := modelCutsRow.holds Tryd.pinned (OpenSpec.ofChange modelCutsWrong)

/- THE SECOND FORM. 'bulk': how many values and letters a reading holds, each counted each time it is reached (what is shared counts as often as it is met; a slice's spare places count too). A statement '..UptoSaid' is the law's where the arguments, and the package variables that the reading takes, are together of bulk at most 1048576: NARROWER than '..Said'. Prove '..Said' where nothing that the law and all that it calls make is longer than what came in: it says more and counts as full. Else prove '..UptoSaid'. A law counts once. -/
mutual
def uptoBulk {H : Type} : DataW H → Nat
  | .lit (.string bytes) => bytes.length + 1
  | .lit _ => 1
  | .nil => 1
  | .ptr d => uptoBulk d + 1
  | .slice elems spare => uptoBulkAll elems + uptoBulkAll spare + 1
  | .agg parts => uptoBulkAll parts + 1
  | .iface _ d => uptoBulk d + 1
  | .map entries => uptoBulkEntries entries + 1
  | .held _ => 1
def uptoBulkAll {H : Type} : List (DataW H) → Nat
  | [] => 0
  | d :: r => uptoBulk d + uptoBulkAll r
def uptoBulkEntries {H : Type} : List (Lit × DataW H) → Nat
  | [] => 0
  | x :: r => uptoBulkEntry x + uptoBulkEntries r
def uptoBulkEntry {H : Type} : Lit × DataW H → Nat
  | (.string bytes, d) => bytes.length + uptoBulk d + 1
  | (_, d) => uptoBulk d + 1
 end
def uptoSmall : (H : Type) → List (DataW H) → Bool := fun _ ds => decide (uptoBulkAll ds ≤ 1048576)
def OpenSpec.upto (s : _root_.Go.ChangeSpec) : _root_.Go.OpenSpec := { _root_.Go.OpenSpec.ofChange s with cond := some uptoSmall }

/-- 'scrutinylaw14.ModelBlanks', WHERE WHAT IT READS IS OF BULK AT MOST 1048576: true; the input reads as it did. -/
def modelBlanksUptoRow : OpenClaim := { program := "ytdhgpnejphlfpaadoor", sum := "8377ca32403d9807563505ab38b399dae21590ac6013fa05b9000cf64fec031a", func := "scrutiny/scrutinylaw14.ModelBlanks", spec := "modelBlanks", unfollowed := true, recurses := true, named := ["scrutiny/expr.keys", "scrutiny/expr.texts"], apart := false, laid := [("scrutiny/expr.keys", laid_scrutiny_expr_keys), ("scrutiny/expr.texts", laid_scrutiny_expr_texts)], narrowed := true }
def ModelBlanksUptoSaid : Prop := modelBlanksUptoRow.holds Tryd.pinned (OpenSpec.upto modelBlanksSpec)

/-- 'scrutinylaw14.ModelNames', WHERE WHAT IT READS IS OF BULK AT MOST 1048576: true; the input reads as it did. -/
def modelNamesUptoRow : OpenClaim := { program := "ytdhgpnejphlfpaadoor", sum := "8377ca32403d9807563505ab38b399dae21590ac6013fa05b9000cf64fec031a", func := "scrutiny/scrutinylaw14.ModelNames", spec := "modelNames", unfollowed := true, recurses := true, named := ["scrutiny/expr.keys", "scrutiny/expr.texts"], apart := false, laid := [("scrutiny/expr.keys", laid_scrutiny_expr_keys), ("scrutiny/expr.texts", laid_scrutiny_expr_texts)], narrowed := true }
def ModelNamesUptoSaid : Prop := modelNamesUptoRow.holds Tryd.pinned (OpenSpec.upto modelNamesSpec)

/-- 'scrutinylaw14.ModelRanges', WHERE WHAT IT READS IS OF BULK AT MOST 1048576: true; the input reads as it did. -/
def modelRangesUptoRow : OpenClaim := { program := "ytdhgpnejphlfpaadoor", sum := "8377ca32403d9807563505ab38b399dae21590ac6013fa05b9000cf64fec031a", func := "scrutiny/scrutinylaw14.ModelRanges", spec := "modelRanges", unfollowed := true, recurses := true, named := ["scrutiny/expr.keys", "scrutiny/expr.texts"], apart := false, laid := [("scrutiny/expr.keys", laid_scrutiny_expr_keys), ("scrutiny/expr.texts", laid_scrutiny_expr_texts)], narrowed := true }
def ModelRangesUptoSaid : Prop := modelRangesUptoRow.holds Tryd.pinned (OpenSpec.upto modelRangesSpec)

/-- 'scrutinylaw14.ModelMany', WHERE WHAT IT READS IS OF BULK AT MOST 1048576: true; the input reads as it did. -/
def modelManyUptoRow : OpenClaim := { program := "ytdhgpnejphlfpaadoor", sum := "8377ca32403d9807563505ab38b399dae21590ac6013fa05b9000cf64fec031a", func := "scrutiny/scrutinylaw14.ModelMany", spec := "modelMany", unfollowed := true, recurses := true, named := ["scrutiny/expr.keys", "scrutiny/expr.texts"], apart := false, laid := [("scrutiny/expr.keys", laid_scrutiny_expr_keys), ("scrutiny/expr.texts", laid_scrutiny_expr_texts)], narrowed := true }
def ModelManyUptoSaid : Prop := modelManyUptoRow.holds Tryd.pinned (OpenSpec.upto modelManySpec)

/-- 'scrutinylaw14.ModelJoins', WHERE WHAT IT READS IS OF BULK AT MOST 1048576: true; the input reads as it did. -/
def modelJoinsUptoRow : OpenClaim := { program := "ytdhgpnejphlfpaadoor", sum := "8377ca32403d9807563505ab38b399dae21590ac6013fa05b9000cf64fec031a", func := "scrutiny/scrutinylaw14.ModelJoins", spec := "modelJoins", unfollowed := true, recurses := true, named := ["scrutiny/expr.keys", "scrutiny/expr.texts"], apart := false, laid := [("scrutiny/expr.keys", laid_scrutiny_expr_keys), ("scrutiny/expr.texts", laid_scrutiny_expr_texts)], narrowed := true }
def ModelJoinsUptoSaid : Prop := modelJoinsUptoRow.holds Tryd.pinned (OpenSpec.upto modelJoinsSpec)

/-- 'scrutinylaw14.ModelCuts', WHERE WHAT IT READS IS OF BULK AT MOST 1048576: true; the input reads as it did. -/
def modelCutsUptoRow : OpenClaim := { program := "ytdhgpnejphlfpaadoor", sum := "8377ca32403d9807563505ab38b399dae21590ac6013fa05b9000cf64fec031a", func := "scrutiny/scrutinylaw14.ModelCuts", spec := "modelCuts", unfollowed := true, recurses := true, named := ["scrutiny/expr.keys", "scrutiny/expr.texts"], apart := false, laid := [("scrutiny/expr.keys", laid_scrutiny_expr_keys), ("scrutiny/expr.texts", laid_scrutiny_expr_texts)], narrowed := true }
def ModelCutsUptoSaid : Prop := modelCutsUptoRow.holds Tryd.pinned (OpenSpec.upto modelCutsSpec)

end Rows
end Go.Proofs.YtdhgpnejphlfpaaDoor
