/-
  NARROWER THAN 'FOR EVERY INPUT', by the rows' own cells (each row's printed sentence says how): ExprTells: loops, laid · ExprBack: loops, laid · ExprLaws: loops, laid · ExprBinds: laid · ExprBrackets: laid · ExprTypes: loops, laid · ExprNames: loops, laid.
  DERIVED. THE GIVEN ROWS OF THIS SEAT. 7 by the template 'for every input the law returns true; each argument reads behind the call as it read before'; 0 by the template 'total and deterministic' (their statements: YtmeombbmhpcacaaDoorTotals.lean).
  GIVEN WITH THE SEED: the statements are not yours to turn. If you find one false, say at which input.
  Laid BY PROGRAM, IN A SANDBOX (cutbox-rows.mjs): the forced cells as the released guide's own fill.sh prints them over the translation 3ddd7d23be208923… (all of the seat's roots in one cut). By AI agents, Wed Nov 11 2026. No macro, syntax, notation, axiom, sorry.
-/
import Derived.Test.YtmeombbmhpcacaaDoorChecked
import GoSem.Claim
import GoSem.ClaimJoined
import GoSem.ClaimMapViews
import Derived.JoinedTies
import Derived.KernelRfl
namespace Go.Proofs.YtmeombbmhpcacaaDoor
/- THE CELL 'sum', in the pinned program and in every row, IS THE sha256 OF THE DUMP (.gsa) THAT YtmeombbmhpcacaaDoorProg.lean LOADS. Nothing in Lean hashes anything: it is a label: what it is worth is what the hold of that sum in a sandbox is worth. -/
noncomputable def Tryd.pinned : Pinned := { name := "ytmeombbmhpcacaadoor", sum := "3ddd7d23be2089232f034a71c1e637145bfb475136b90a06c938f58b784174af", checked := Tryd.checked }
namespace Rows
def none {H : Type} : Left H := { results := [], args := [] }

/- WHAT THE LISTED PACKAGE-LEVEL VARIABLES READ AS WHEN THE CALL BEGINS. Each datum BY PROGRAM (the guide's laid-datum.mjs) off the statement by which the dump's own 'gosem.cut.vars' lays the variable. In a bare row this is a premise. The card (YtmeombbmhpcacaaDoorCards.lean) ties it to the program's text. -/
def laid_math_bits_deBruijn32tab {H : Type} : DataW H := .agg [.lit (.int .u8 0), .lit (.int .u8 1), .lit (.int .u8 28), .lit (.int .u8 2), .lit (.int .u8 29), .lit (.int .u8 14), .lit (.int .u8 24), .lit (.int .u8 3), .lit (.int .u8 30), .lit (.int .u8 22), .lit (.int .u8 20), .lit (.int .u8 15), .lit (.int .u8 25), .lit (.int .u8 17), .lit (.int .u8 4), .lit (.int .u8 8), .lit (.int .u8 31), .lit (.int .u8 27), .lit (.int .u8 13), .lit (.int .u8 23), .lit (.int .u8 21), .lit (.int .u8 19), .lit (.int .u8 16), .lit (.int .u8 7), .lit (.int .u8 26), .lit (.int .u8 12), .lit (.int .u8 18), .lit (.int .u8 6), .lit (.int .u8 11), .lit (.int .u8 5), .lit (.int .u8 10), .lit (.int .u8 9)]
def laid_math_bits_deBruijn64tab {H : Type} : DataW H := .agg [.lit (.int .u8 0), .lit (.int .u8 1), .lit (.int .u8 56), .lit (.int .u8 2), .lit (.int .u8 57), .lit (.int .u8 49), .lit (.int .u8 28), .lit (.int .u8 3), .lit (.int .u8 61), .lit (.int .u8 58), .lit (.int .u8 42), .lit (.int .u8 50), .lit (.int .u8 38), .lit (.int .u8 29), .lit (.int .u8 17), .lit (.int .u8 4), .lit (.int .u8 62), .lit (.int .u8 47), .lit (.int .u8 59), .lit (.int .u8 36), .lit (.int .u8 45), .lit (.int .u8 43), .lit (.int .u8 51), .lit (.int .u8 22), .lit (.int .u8 53), .lit (.int .u8 39), .lit (.int .u8 33), .lit (.int .u8 30), .lit (.int .u8 24), .lit (.int .u8 18), .lit (.int .u8 12), .lit (.int .u8 5), .lit (.int .u8 63), .lit (.int .u8 55), .lit (.int .u8 48), .lit (.int .u8 27), .lit (.int .u8 60), .lit (.int .u8 41), .lit (.int .u8 37), .lit (.int .u8 16), .lit (.int .u8 46), .lit (.int .u8 35), .lit (.int .u8 44), .lit (.int .u8 21), .lit (.int .u8 52), .lit (.int .u8 32), .lit (.int .u8 23), .lit (.int .u8 11), .lit (.int .u8 54), .lit (.int .u8 26), .lit (.int .u8 40), .lit (.int .u8 15), .lit (.int .u8 34), .lit (.int .u8 20), .lit (.int .u8 31), .lit (.int .u8 10), .lit (.int .u8 25), .lit (.int .u8 14), .lit (.int .u8 19), .lit (.int .u8 9), .lit (.int .u8 13), .lit (.int .u8 8), .lit (.int .u8 7), .lit (.int .u8 6)]
def laid_internal_strconv_uint64pow10 {H : Type} : DataW H := .agg [.lit (.int .u64 1), .lit (.int .u64 10), .lit (.int .u64 100), .lit (.int .u64 1000), .lit (.int .u64 10000), .lit (.int .u64 100000), .lit (.int .u64 1000000), .lit (.int .u64 10000000), .lit (.int .u64 100000000), .lit (.int .u64 1000000000), .lit (.int .u64 10000000000), .lit (.int .u64 100000000000), .lit (.int .u64 1000000000000), .lit (.int .u64 10000000000000), .lit (.int .u64 100000000000000), .lit (.int .u64 1000000000000000), .lit (.int .u64 10000000000000000), .lit (.int .u64 100000000000000000), .lit (.int .u64 1000000000000000000), .lit (.int .u64 10000000000000000000)]
def laid_scrutiny_expr_keys {H : Type} : DataW H := .agg [.lit (.string [116, 114, 117, 101]), .lit (.string [102, 97, 108, 115, 101]), .lit (.string [88]), .lit (.string [70]), .lit (.string [71]), .lit (.string [85]), .lit (.string [82]), .lit (.string [118, 97, 114]), .lit (.string [112, 114, 111, 99])]
def laid_scrutiny_expr_texts {H : Type} : DataW H := .agg [.lit (.string []), .lit (.string []), .lit (.string []), .lit (.string [43]), .lit (.string [45]), .lit (.string [42]), .lit (.string [45]), .lit (.string [61, 61]), .lit (.string [33, 61]), .lit (.string [60]), .lit (.string [60, 61]), .lit (.string [62]), .lit (.string [62, 61]), .lit (.string [116, 114, 117, 101]), .lit (.string [102, 97, 108, 115, 101]), .lit (.string [33]), .lit (.string [38]), .lit (.string [124]), .lit (.string [45, 62]), .lit (.string [60, 45, 62]), .lit (.string [88]), .lit (.string [70]), .lit (.string [71]), .lit (.string [85]), .lit (.string [82])]

/-- 'scrutinylaw13.ExprTells': WHATEVER THE INPUT: true; the input reads as it did. -/
def exprTellsSpec : ChangeSpec := { name := "exprTells", fn := fun _ => fun
  | [d] => { results := [.lit (.bool true)], args := [d] }
  | _ => none }
def exprTellsRow : OpenClaim := { program := "ytmeombbmhpcacaadoor", sum := "3ddd7d23be2089232f034a71c1e637145bfb475136b90a06c938f58b784174af", func := "scrutiny/scrutinylaw13.ExprTells", spec := "exprTells", unfollowed := true, recurses := true, named := ["scrutiny/expr.texts", "scrutiny/expr.keys", "internal/strconv.uint64pow10", "math/bits.deBruijn32tab", "math/bits.deBruijn64tab"], loops := true, apart := false, laid := [("math/bits.deBruijn32tab", laid_math_bits_deBruijn32tab), ("math/bits.deBruijn64tab", laid_math_bits_deBruijn64tab), ("internal/strconv.uint64pow10", laid_internal_strconv_uint64pow10), ("scrutiny/expr.keys", laid_scrutiny_expr_keys), ("scrutiny/expr.texts", laid_scrutiny_expr_texts)] }
def ExprTellsSaid : Prop := exprTellsRow.holds Tryd.pinned (OpenSpec.ofChange exprTellsSpec)

/-- ITS FALSE NEIGHBOUR: 'it returns false'. Refute it at one input. -/
def exprTellsWrong : ChangeSpec := { name := "exprTells", fn := fun _ => fun
  | [d] => { results := [.lit (.bool false)], args := [d] }
  | _ => none }
def ExprTellsWrongFalsely : Prop := exprTellsRow.holds Tryd.pinned (OpenSpec.ofChange exprTellsWrong)

/-- 'scrutinylaw13.ExprBack': WHATEVER THE INPUT: true; the input reads as it did. -/
def exprBackSpec : ChangeSpec := { name := "exprBack", fn := fun _ => fun
  | [d] => { results := [.lit (.bool true)], args := [d] }
  | _ => none }
def exprBackRow : OpenClaim := { program := "ytmeombbmhpcacaadoor", sum := "3ddd7d23be2089232f034a71c1e637145bfb475136b90a06c938f58b784174af", func := "scrutiny/scrutinylaw13.ExprBack", spec := "exprBack", unfollowed := true, recurses := true, named := ["scrutiny/expr.texts", "scrutiny/expr.keys", "internal/strconv.uint64pow10", "math/bits.deBruijn32tab", "math/bits.deBruijn64tab"], loops := true, apart := false, laid := [("math/bits.deBruijn32tab", laid_math_bits_deBruijn32tab), ("math/bits.deBruijn64tab", laid_math_bits_deBruijn64tab), ("internal/strconv.uint64pow10", laid_internal_strconv_uint64pow10), ("scrutiny/expr.keys", laid_scrutiny_expr_keys), ("scrutiny/expr.texts", laid_scrutiny_expr_texts)] }
def ExprBackSaid : Prop := exprBackRow.holds Tryd.pinned (OpenSpec.ofChange exprBackSpec)

/-- ITS FALSE NEIGHBOUR: 'it returns false'. Refute it at one input. -/
def exprBackWrong : ChangeSpec := { name := "exprBack", fn := fun _ => fun
  | [d] => { results := [.lit (.bool false)], args := [d] }
  | _ => none }
def ExprBackWrongFalsely : Prop := exprBackRow.holds Tryd.pinned (OpenSpec.ofChange exprBackWrong)

/-- 'scrutinylaw13.ExprLaws': WHATEVER THE INPUT: true; the input reads as it did. -/
def exprLawsSpec : ChangeSpec := { name := "exprLaws", fn := fun _ => fun
  | [d] => { results := [.lit (.bool true)], args := [d] }
  | _ => none }
def exprLawsRow : OpenClaim := { program := "ytmeombbmhpcacaadoor", sum := "3ddd7d23be2089232f034a71c1e637145bfb475136b90a06c938f58b784174af", func := "scrutiny/scrutinylaw13.ExprLaws", spec := "exprLaws", unfollowed := true, recurses := true, named := ["scrutiny/expr.texts", "scrutiny/expr.keys", "internal/strconv.uint64pow10", "math/bits.deBruijn32tab", "math/bits.deBruijn64tab"], loops := true, apart := false, laid := [("math/bits.deBruijn32tab", laid_math_bits_deBruijn32tab), ("math/bits.deBruijn64tab", laid_math_bits_deBruijn64tab), ("internal/strconv.uint64pow10", laid_internal_strconv_uint64pow10), ("scrutiny/expr.keys", laid_scrutiny_expr_keys), ("scrutiny/expr.texts", laid_scrutiny_expr_texts)] }
def ExprLawsSaid : Prop := exprLawsRow.holds Tryd.pinned (OpenSpec.ofChange exprLawsSpec)

/-- ITS FALSE NEIGHBOUR: 'it returns false'. Refute it at one input. -/
def exprLawsWrong : ChangeSpec := { name := "exprLaws", fn := fun _ => fun
  | [d] => { results := [.lit (.bool false)], args := [d] }
  | _ => none }
def ExprLawsWrongFalsely : Prop := exprLawsRow.holds Tryd.pinned (OpenSpec.ofChange exprLawsWrong)

/-- 'scrutinylaw13.ExprBinds': WHATEVER THE INPUT: true; the input reads as it did. -/
def exprBindsSpec : ChangeSpec := { name := "exprBinds", fn := fun _ => fun
  | [d1, d2] => { results := [.lit (.bool true)], args := [d1, d2] }
  | _ => none }
def exprBindsRow : OpenClaim := { program := "ytmeombbmhpcacaadoor", sum := "3ddd7d23be2089232f034a71c1e637145bfb475136b90a06c938f58b784174af", func := "scrutiny/scrutinylaw13.ExprBinds", spec := "exprBinds", unfollowed := true, recurses := true, named := ["scrutiny/expr.texts", "scrutiny/expr.keys", "internal/strconv.uint64pow10", "math/bits.deBruijn32tab", "math/bits.deBruijn64tab"], apart := false, laid := [("math/bits.deBruijn32tab", laid_math_bits_deBruijn32tab), ("math/bits.deBruijn64tab", laid_math_bits_deBruijn64tab), ("internal/strconv.uint64pow10", laid_internal_strconv_uint64pow10), ("scrutiny/expr.keys", laid_scrutiny_expr_keys), ("scrutiny/expr.texts", laid_scrutiny_expr_texts)] }
def ExprBindsSaid : Prop := exprBindsRow.holds Tryd.pinned (OpenSpec.ofChange exprBindsSpec)

/-- ITS FALSE NEIGHBOUR: 'it returns false'. Refute it at one input. -/
def exprBindsWrong : ChangeSpec := { name := "exprBinds", fn := fun _ => fun
  | [d1, d2] => { results := [.lit (.bool false)], args := [d1, d2] }
  | _ => none }
def ExprBindsWrongFalsely : Prop := exprBindsRow.holds Tryd.pinned (OpenSpec.ofChange exprBindsWrong)

/-- 'scrutinylaw13.ExprBrackets': WHATEVER THE INPUT: true; the input reads as it did. -/
def exprBracketsSpec : ChangeSpec := { name := "exprBrackets", fn := fun _ => fun
  | [d1, d2, d3] => { results := [.lit (.bool true)], args := [d1, d2, d3] }
  | _ => none }
def exprBracketsRow : OpenClaim := { program := "ytmeombbmhpcacaadoor", sum := "3ddd7d23be2089232f034a71c1e637145bfb475136b90a06c938f58b784174af", func := "scrutiny/scrutinylaw13.ExprBrackets", spec := "exprBrackets", unfollowed := true, recurses := true, named := ["scrutiny/expr.texts", "scrutiny/expr.keys", "internal/strconv.uint64pow10", "math/bits.deBruijn32tab", "math/bits.deBruijn64tab"], apart := false, laid := [("math/bits.deBruijn32tab", laid_math_bits_deBruijn32tab), ("math/bits.deBruijn64tab", laid_math_bits_deBruijn64tab), ("internal/strconv.uint64pow10", laid_internal_strconv_uint64pow10), ("scrutiny/expr.keys", laid_scrutiny_expr_keys), ("scrutiny/expr.texts", laid_scrutiny_expr_texts)] }
def ExprBracketsSaid : Prop := exprBracketsRow.holds Tryd.pinned (OpenSpec.ofChange exprBracketsSpec)

/-- ITS FALSE NEIGHBOUR: 'it returns false'. Refute it at one input. -/
def exprBracketsWrong : ChangeSpec := { name := "exprBrackets", fn := fun _ => fun
  | [d1, d2, d3] => { results := [.lit (.bool false)], args := [d1, d2, d3] }
  | _ => none }
def ExprBracketsWrongFalsely : Prop := exprBracketsRow.holds Tryd.pinned (OpenSpec.ofChange exprBracketsWrong)

/-- 'scrutinylaw13.ExprTypes': WHATEVER THE INPUT: true; the input reads as it did. -/
def exprTypesSpec : ChangeSpec := { name := "exprTypes", fn := fun _ => fun
  | [d1, d2] => { results := [.lit (.bool true)], args := [d1, d2] }
  | _ => none }
def exprTypesRow : OpenClaim := { program := "ytmeombbmhpcacaadoor", sum := "3ddd7d23be2089232f034a71c1e637145bfb475136b90a06c938f58b784174af", func := "scrutiny/scrutinylaw13.ExprTypes", spec := "exprTypes", unfollowed := true, recurses := true, named := ["scrutiny/expr.texts", "scrutiny/expr.keys", "internal/strconv.uint64pow10", "math/bits.deBruijn32tab", "math/bits.deBruijn64tab"], loops := true, apart := false, laid := [("math/bits.deBruijn32tab", laid_math_bits_deBruijn32tab), ("math/bits.deBruijn64tab", laid_math_bits_deBruijn64tab), ("internal/strconv.uint64pow10", laid_internal_strconv_uint64pow10), ("scrutiny/expr.keys", laid_scrutiny_expr_keys), ("scrutiny/expr.texts", laid_scrutiny_expr_texts)] }
def ExprTypesSaid : Prop := exprTypesRow.holds Tryd.pinned (OpenSpec.ofChange exprTypesSpec)

/-- ITS FALSE NEIGHBOUR: 'it returns false'. Refute it at one input. -/
def exprTypesWrong : ChangeSpec := { name := "exprTypes", fn := fun _ => fun
  | [d1, d2] => { results := [.lit (.bool false)], args := [d1, d2] }
  | _ => none }
def ExprTypesWrongFalsely : Prop := exprTypesRow.holds Tryd.pinned (OpenSpec.ofChange exprTypesWrong)

/-- 'scrutinylaw13.ExprNames': WHATEVER THE INPUT: true; the input reads as it did. -/
def exprNamesSpec : ChangeSpec := { name := "exprNames", fn := fun _ => fun
  | [d] => { results := [.lit (.bool true)], args := [d] }
  | _ => none }
def exprNamesRow : OpenClaim := { program := "ytmeombbmhpcacaadoor", sum := "3ddd7d23be2089232f034a71c1e637145bfb475136b90a06c938f58b784174af", func := "scrutiny/scrutinylaw13.ExprNames", spec := "exprNames", unfollowed := true, recurses := true, named := ["scrutiny/expr.texts", "scrutiny/expr.keys", "internal/strconv.uint64pow10", "math/bits.deBruijn32tab", "math/bits.deBruijn64tab"], loops := true, apart := false, laid := [("math/bits.deBruijn32tab", laid_math_bits_deBruijn32tab), ("math/bits.deBruijn64tab", laid_math_bits_deBruijn64tab), ("internal/strconv.uint64pow10", laid_internal_strconv_uint64pow10), ("scrutiny/expr.keys", laid_scrutiny_expr_keys), ("scrutiny/expr.texts", laid_scrutiny_expr_texts)] }
def ExprNamesSaid : Prop := exprNamesRow.holds Tryd.pinned (OpenSpec.ofChange exprNamesSpec)

/-- ITS FALSE NEIGHBOUR: 'it returns false'. Refute it at one input. -/
def exprNamesWrong : ChangeSpec := { name := "exprNames", fn := fun _ => fun
  | [d] => { results := [.lit (.bool false)], args := [d] }
  | _ => none }
def ExprNamesWrongFalsely : Prop := exprNamesRow.holds Tryd.pinned (OpenSpec.ofChange exprNamesWrong)

/- THE SECOND FORM. 'bulk': how many values and letters a reading holds, each counted each time it is reached (what is shared counts as often as it is met; a slice's spare places count too). A statement '..UptoSaid' is the law's where the arguments, and the package variables that the reading takes, are together of bulk at most 1048576: NARROWER than '..Said'. Prove '..Said' where nothing that the law and all that it calls make is longer than what came in: it says more and counts as full. Else prove '..UptoSaid'. A law counts once. -/
mutual
def uptoBulk {H : Type} : DataW H → Nat
  | .lit (.string bytes) => bytes.length + 1
  | .lit _ => 1
  | .nil => 1
  | .ptr d => uptoBulk d + 1
  | .slice elems spare => uptoBulkAll elems + uptoBulkAll spare + 1
  | .agg parts => uptoBulkAll parts + 1
  | .iface _ d => uptoBulk d + 1
  | .map entries => uptoBulkEntries entries + 1
  | .held _ => 1
def uptoBulkAll {H : Type} : List (DataW H) → Nat
  | [] => 0
  | d :: r => uptoBulk d + uptoBulkAll r
def uptoBulkEntries {H : Type} : List (Lit × DataW H) → Nat
  | [] => 0
  | x :: r => uptoBulkEntry x + uptoBulkEntries r
def uptoBulkEntry {H : Type} : Lit × DataW H → Nat
  | (.string bytes, d) => bytes.length + uptoBulk d + 1
  | (_, d) => uptoBulk d + 1
 end
def uptoSmall : (H : Type) → List (DataW H) → Bool := fun _ ds => decide (uptoBulkAll ds ≤ 1048576)
def OpenSpec.upto (s : _root_.Go.ChangeSpec) : _root_.Go.OpenSpec := { _root_.Go.OpenSpec.ofChange s with cond := some uptoSmall }

/-- 'scrutinylaw13.ExprTells', WHERE WHAT IT READS IS OF BULK AT MOST 1048576: true; the input reads as it did. -/
def exprTellsUptoRow : OpenClaim := { program := "ytmeombbmhpcacaadoor", sum := "3ddd7d23be2089232f034a71c1e637145bfb475136b90a06c938f58b784174af", func := "scrutiny/scrutinylaw13.ExprTells", spec := "exprTells", unfollowed := true, recurses := true, named := ["scrutiny/expr.texts", "scrutiny/expr.keys", "internal/strconv.uint64pow10", "math/bits.deBruijn32tab", "math/bits.deBruijn64tab"], loops := true, apart := false, laid := [("math/bits.deBruijn32tab", laid_math_bits_deBruijn32tab), ("math/bits.deBruijn64tab", laid_math_bits_deBruijn64tab), ("internal/strconv.uint64pow10", laid_internal_strconv_uint64pow10), ("scrutiny/expr.keys", laid_scrutiny_expr_keys), ("scrutiny/expr.texts", laid_scrutiny_expr_texts)], narrowed := true }
def ExprTellsUptoSaid : Prop := exprTellsUptoRow.holds Tryd.pinned (OpenSpec.upto exprTellsSpec)

/-- 'scrutinylaw13.ExprBack', WHERE WHAT IT READS IS OF BULK AT MOST 1048576: true; the input reads as it did. -/
def exprBackUptoRow : OpenClaim := { program := "ytmeombbmhpcacaadoor", sum := "3ddd7d23be2089232f034a71c1e637145bfb475136b90a06c938f58b784174af", func := "scrutiny/scrutinylaw13.ExprBack", spec := "exprBack", unfollowed := true, recurses := true, named := ["scrutiny/expr.texts", "scrutiny/expr.keys", "internal/strconv.uint64pow10", "math/bits.deBruijn32tab", "math/bits.deBruijn64tab"], loops := true, apart := false, laid := [("math/bits.deBruijn32tab", laid_math_bits_deBruijn32tab), ("math/bits.deBruijn64tab", laid_math_bits_deBruijn64tab), ("internal/strconv.uint64pow10", laid_internal_strconv_uint64pow10), ("scrutiny/expr.keys", laid_scrutiny_expr_keys), ("scrutiny/expr.texts", laid_scrutiny_expr_texts)], narrowed := true }
def ExprBackUptoSaid : Prop := exprBackUptoRow.holds Tryd.pinned (OpenSpec.upto exprBackSpec)

/-- 'scrutinylaw13.ExprLaws', WHERE WHAT IT READS IS OF BULK AT MOST 1048576: true; the input reads as it did. -/
def exprLawsUptoRow : OpenClaim := { program := "ytmeombbmhpcacaadoor", sum := "3ddd7d23be2089232f034a71c1e637145bfb475136b90a06c938f58b784174af", func := "scrutiny/scrutinylaw13.ExprLaws", spec := "exprLaws", unfollowed := true, recurses := true, named := ["scrutiny/expr.texts", "scrutiny/expr.keys", "internal/strconv.uint64pow10", "math/bits.deBruijn32tab", "math/bits.deBruijn64tab"], loops := true, apart := false, laid := [("math/bits.deBruijn32tab", laid_math_bits_deBruijn32tab), ("math/bits.deBruijn64tab", laid_math_bits_deBruijn64tab), ("internal/strconv.uint64pow10", laid_internal_strconv_uint64pow10), ("scrutiny/expr.keys", laid_scrutiny_expr_keys), ("scrutiny/expr.texts", laid_scrutiny_expr_texts)], narrowed := true }
def ExprLawsUptoSaid : Prop := exprLawsUptoRow.holds Tryd.pinned (OpenSpec.upto exprLawsSpec)

/-- 'scrutinylaw13.ExprBinds', WHERE WHAT IT READS IS OF BULK AT MOST 1048576: true; the input reads as it did. -/
def exprBindsUptoRow : OpenClaim := { program := "ytmeombbmhpcacaadoor", sum := "3ddd7d23be2089232f034a71c1e637145bfb475136b90a06c938f58b784174af", func := "scrutiny/scrutinylaw13.ExprBinds", spec := "exprBinds", unfollowed := true, recurses := true, named := ["scrutiny/expr.texts", "scrutiny/expr.keys", "internal/strconv.uint64pow10", "math/bits.deBruijn32tab", "math/bits.deBruijn64tab"], apart := false, laid := [("math/bits.deBruijn32tab", laid_math_bits_deBruijn32tab), ("math/bits.deBruijn64tab", laid_math_bits_deBruijn64tab), ("internal/strconv.uint64pow10", laid_internal_strconv_uint64pow10), ("scrutiny/expr.keys", laid_scrutiny_expr_keys), ("scrutiny/expr.texts", laid_scrutiny_expr_texts)], narrowed := true }
def ExprBindsUptoSaid : Prop := exprBindsUptoRow.holds Tryd.pinned (OpenSpec.upto exprBindsSpec)

/-- 'scrutinylaw13.ExprBrackets', WHERE WHAT IT READS IS OF BULK AT MOST 1048576: true; the input reads as it did. -/
def exprBracketsUptoRow : OpenClaim := { program := "ytmeombbmhpcacaadoor", sum := "3ddd7d23be2089232f034a71c1e637145bfb475136b90a06c938f58b784174af", func := "scrutiny/scrutinylaw13.ExprBrackets", spec := "exprBrackets", unfollowed := true, recurses := true, named := ["scrutiny/expr.texts", "scrutiny/expr.keys", "internal/strconv.uint64pow10", "math/bits.deBruijn32tab", "math/bits.deBruijn64tab"], apart := false, laid := [("math/bits.deBruijn32tab", laid_math_bits_deBruijn32tab), ("math/bits.deBruijn64tab", laid_math_bits_deBruijn64tab), ("internal/strconv.uint64pow10", laid_internal_strconv_uint64pow10), ("scrutiny/expr.keys", laid_scrutiny_expr_keys), ("scrutiny/expr.texts", laid_scrutiny_expr_texts)], narrowed := true }
def ExprBracketsUptoSaid : Prop := exprBracketsUptoRow.holds Tryd.pinned (OpenSpec.upto exprBracketsSpec)

/-- 'scrutinylaw13.ExprTypes', WHERE WHAT IT READS IS OF BULK AT MOST 1048576: true; the input reads as it did. -/
def exprTypesUptoRow : OpenClaim := { program := "ytmeombbmhpcacaadoor", sum := "3ddd7d23be2089232f034a71c1e637145bfb475136b90a06c938f58b784174af", func := "scrutiny/scrutinylaw13.ExprTypes", spec := "exprTypes", unfollowed := true, recurses := true, named := ["scrutiny/expr.texts", "scrutiny/expr.keys", "internal/strconv.uint64pow10", "math/bits.deBruijn32tab", "math/bits.deBruijn64tab"], loops := true, apart := false, laid := [("math/bits.deBruijn32tab", laid_math_bits_deBruijn32tab), ("math/bits.deBruijn64tab", laid_math_bits_deBruijn64tab), ("internal/strconv.uint64pow10", laid_internal_strconv_uint64pow10), ("scrutiny/expr.keys", laid_scrutiny_expr_keys), ("scrutiny/expr.texts", laid_scrutiny_expr_texts)], narrowed := true }
def ExprTypesUptoSaid : Prop := exprTypesUptoRow.holds Tryd.pinned (OpenSpec.upto exprTypesSpec)

/-- 'scrutinylaw13.ExprNames', WHERE WHAT IT READS IS OF BULK AT MOST 1048576: true; the input reads as it did. -/
def exprNamesUptoRow : OpenClaim := { program := "ytmeombbmhpcacaadoor", sum := "3ddd7d23be2089232f034a71c1e637145bfb475136b90a06c938f58b784174af", func := "scrutiny/scrutinylaw13.ExprNames", spec := "exprNames", unfollowed := true, recurses := true, named := ["scrutiny/expr.texts", "scrutiny/expr.keys", "internal/strconv.uint64pow10", "math/bits.deBruijn32tab", "math/bits.deBruijn64tab"], loops := true, apart := false, laid := [("math/bits.deBruijn32tab", laid_math_bits_deBruijn32tab), ("math/bits.deBruijn64tab", laid_math_bits_deBruijn64tab), ("internal/strconv.uint64pow10", laid_internal_strconv_uint64pow10), ("scrutiny/expr.keys", laid_scrutiny_expr_keys), ("scrutiny/expr.texts", laid_scrutiny_expr_texts)], narrowed := true }
def ExprNamesUptoSaid : Prop := exprNamesUptoRow.holds Tryd.pinned (OpenSpec.upto exprNamesSpec)

end Rows
end Go.Proofs.YtmeombbmhpcacaaDoor
