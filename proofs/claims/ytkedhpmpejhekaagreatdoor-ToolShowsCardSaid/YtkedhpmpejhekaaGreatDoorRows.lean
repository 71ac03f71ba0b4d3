/-
  NARROWER THAN 'FOR EVERY INPUT', by the rows' own cells (each row's printed sentence says how): ToolTells: laid · ToolNumbers: laid · ToolShows: laid · ToolWhat: laid.
  DERIVED. THE GIVEN ROWS OF THIS SEAT. 4 by the template 'for every input the law returns true; each argument reads behind the call as it read before'; 0 by the template 'total and deterministic' (their statements: YtkedhpmpejhekaaGreatDoorTotals.lean).
  GIVEN WITH THE SEED: the statements are not yours to turn. If you find one false, say at which input.
  Laid BY PROGRAM, IN A SANDBOX (cutbox-rows.mjs): the forced cells as the released guide's own fill.sh prints them over the translation da8c1f37ce20fa76… (all of the seat's roots in one cut). By AI agents, Wed Nov 11 2026. No macro, syntax, notation, axiom, sorry.
-/
import Derived.Test.YtkedhpmpejhekaaGreatDoorChecked
import GoSem.Claim
import GoSem.ClaimJoined
import GoSem.ClaimMapViews
import Derived.JoinedTies
import Derived.KernelRfl
namespace Go.Proofs.YtkedhpmpejhekaaGreatDoor
/- THE CELL 'sum', in the pinned program and in every row, IS THE sha256 OF THE DUMP (.gsa) THAT YtkedhpmpejhekaaGreatDoorProg.lean LOADS. Nothing in Lean hashes anything: it is a label: what it is worth is what the hold of that sum in a sandbox is worth. -/
noncomputable def Tryz.pinned : Pinned := { name := "ytkedhpmpejhekaagreatdoor", sum := "da8c1f37ce20fa76cb58fcc3543d6d1f5a83ab3eccb87ea4712a31c540af966d", checked := Tryz.checked }
namespace Rows
def none {H : Type} : Left H := { results := [], args := [] }

/- WHAT THE LISTED PACKAGE-LEVEL VARIABLES READ AS WHEN THE CALL BEGINS. Each datum BY PROGRAM (the guide's laid-datum.mjs) off the statement by which the dump's own 'gosem.cut.vars' lays the variable. In a bare row this is a premise. The card (YtkedhpmpejhekaaGreatDoorCards.lean) ties it to the program's text. -/
def laid_math_bits_deBruijn32tab {H : Type} : DataW H := .agg [.lit (.int .u8 0), .lit (.int .u8 1), .lit (.int .u8 28), .lit (.int .u8 2), .lit (.int .u8 29), .lit (.int .u8 14), .lit (.int .u8 24), .lit (.int .u8 3), .lit (.int .u8 30), .lit (.int .u8 22), .lit (.int .u8 20), .lit (.int .u8 15), .lit (.int .u8 25), .lit (.int .u8 17), .lit (.int .u8 4), .lit (.int .u8 8), .lit (.int .u8 31), .lit (.int .u8 27), .lit (.int .u8 13), .lit (.int .u8 23), .lit (.int .u8 21), .lit (.int .u8 19), .lit (.int .u8 16), .lit (.int .u8 7), .lit (.int .u8 26), .lit (.int .u8 12), .lit (.int .u8 18), .lit (.int .u8 6), .lit (.int .u8 11), .lit (.int .u8 5), .lit (.int .u8 10), .lit (.int .u8 9)]
def laid_math_bits_deBruijn64tab {H : Type} : DataW H := .agg [.lit (.int .u8 0), .lit (.int .u8 1), .lit (.int .u8 56), .lit (.int .u8 2), .lit (.int .u8 57), .lit (.int .u8 49), .lit (.int .u8 28), .lit (.int .u8 3), .lit (.int .u8 61), .lit (.int .u8 58), .lit (.int .u8 42), .lit (.int .u8 50), .lit (.int .u8 38), .lit (.int .u8 29), .lit (.int .u8 17), .lit (.int .u8 4), .lit (.int .u8 62), .lit (.int .u8 47), .lit (.int .u8 59), .lit (.int .u8 36), .lit (.int .u8 45), .lit (.int .u8 43), .lit (.int .u8 51), .lit (.int .u8 22), .lit (.int .u8 53), .lit (.int .u8 39), .lit (.int .u8 33), .lit (.int .u8 30), .lit (.int .u8 24), .lit (.int .u8 18), .lit (.int .u8 12), .lit (.int .u8 5), .lit (.int .u8 63), .lit (.int .u8 55), .lit (.int .u8 48), .lit (.int .u8 27), .lit (.int .u8 60), .lit (.int .u8 41), .lit (.int .u8 37), .lit (.int .u8 16), .lit (.int .u8 46), .lit (.int .u8 35), .lit (.int .u8 44), .lit (.int .u8 21), .lit (.int .u8 52), .lit (.int .u8 32), .lit (.int .u8 23), .lit (.int .u8 11), .lit (.int .u8 54), .lit (.int .u8 26), .lit (.int .u8 40), .lit (.int .u8 15), .lit (.int .u8 34), .lit (.int .u8 20), .lit (.int .u8 31), .lit (.int .u8 10), .lit (.int .u8 25), .lit (.int .u8 14), .lit (.int .u8 19), .lit (.int .u8 9), .lit (.int .u8 13), .lit (.int .u8 8), .lit (.int .u8 7), .lit (.int .u8 6)]
def laid_internal_strconv_uint64pow10 {H : Type} : DataW H := .agg [.lit (.int .u64 1), .lit (.int .u64 10), .lit (.int .u64 100), .lit (.int .u64 1000), .lit (.int .u64 10000), .lit (.int .u64 100000), .lit (.int .u64 1000000), .lit (.int .u64 10000000), .lit (.int .u64 100000000), .lit (.int .u64 1000000000), .lit (.int .u64 10000000000), .lit (.int .u64 100000000000), .lit (.int .u64 1000000000000), .lit (.int .u64 10000000000000), .lit (.int .u64 100000000000000), .lit (.int .u64 1000000000000000), .lit (.int .u64 10000000000000000), .lit (.int .u64 100000000000000000), .lit (.int .u64 1000000000000000000), .lit (.int .u64 10000000000000000000)]
def laid_scrutiny_expr_keys {H : Type} : DataW H := .agg [.lit (.string [116, 114, 117, 101]), .lit (.string [102, 97, 108, 115, 101]), .lit (.string [88]), .lit (.string [70]), .lit (.string [71]), .lit (.string [85]), .lit (.string [82]), .lit (.string [118, 97, 114]), .lit (.string [112, 114, 111, 99])]
def laid_scrutiny_expr_texts {H : Type} : DataW H := .agg [.lit (.string []), .lit (.string []), .lit (.string []), .lit (.string [43]), .lit (.string [45]), .lit (.string [42]), .lit (.string [45]), .lit (.string [61, 61]), .lit (.string [33, 61]), .lit (.string [60]), .lit (.string [60, 61]), .lit (.string [62]), .lit (.string [62, 61]), .lit (.string [116, 114, 117, 101]), .lit (.string [102, 97, 108, 115, 101]), .lit (.string [33]), .lit (.string [38]), .lit (.string [124]), .lit (.string [45, 62]), .lit (.string [60, 45, 62]), .lit (.string [88]), .lit (.string [70]), .lit (.string [71]), .lit (.string [85]), .lit (.string [82])]
def laid_scrutiny_tool_kinds {H : Type} : DataW H := .agg [.lit (.string [112, 108, 97, 105, 110]), .lit (.string [112, 97, 114, 116, 115]), .lit (.string [116, 114, 101, 101]), .lit (.string [119, 111, 114, 100, 115]), .lit (.string [108, 111, 115, 115, 121])]
def laid_scrutiny_tool_verdicts {H : Type} : DataW H := .agg [.lit (.string [101, 114, 114, 111, 114]), .lit (.string [104, 111, 108, 100, 115]), .lit (.string [118, 105, 111, 108, 97, 116, 101, 100]), .lit (.string [110, 111, 116, 104, 105, 110, 103])]

/-- 'scrutinylaw24.ToolTells': WHATEVER THE INPUT: true; the input reads as it did. -/
def toolTellsSpec : ChangeSpec := { name := "toolTells", fn := fun _ => fun
  | [d1, d2] => { results := [.lit (.bool true)], args := [d1, d2] }
  | _ => none }
def toolTellsRow : OpenClaim := { program := "ytkedhpmpejhekaagreatdoor", sum := "da8c1f37ce20fa76cb58fcc3543d6d1f5a83ab3eccb87ea4712a31c540af966d", func := "scrutiny/scrutinylaw24.ToolTells", spec := "toolTells", inPlace := ["internal/bytealg.IndexByteString", "internal/bytealg.IndexString", "internal/abi.NoEscape"], unfollowed := true, recurses := true, named := ["internal/bytealg.MaxLen", "scrutiny/tool.kinds", "internal/strconv.uint64pow10", "math/bits.deBruijn32tab", "math/bits.deBruijn64tab", "scrutiny/expr.keys", "scrutiny/expr.texts", "scrutiny/tool.verdicts"], plainKeys := false, apart := false, laid := [("math/bits.deBruijn32tab", laid_math_bits_deBruijn32tab), ("math/bits.deBruijn64tab", laid_math_bits_deBruijn64tab), ("internal/strconv.uint64pow10", laid_internal_strconv_uint64pow10), ("scrutiny/expr.keys", laid_scrutiny_expr_keys), ("scrutiny/expr.texts", laid_scrutiny_expr_texts), ("scrutiny/tool.kinds", laid_scrutiny_tool_kinds), ("scrutiny/tool.verdicts", laid_scrutiny_tool_verdicts)] }
def ToolTellsSaid : Prop := toolTellsRow.holds Tryz.pinned (OpenSpec.ofChange toolTellsSpec)

/-- ITS FALSE NEIGHBOUR: 'it returns false'. Refute it at one input. -/
def toolTellsWrong : ChangeSpec := { name := "toolTells", fn := fun _ => fun
  | [d1, d2] => { results := [.lit (.bool false)], args := [d1, d2] }
  | _ => none }
def ToolTellsWrongFalsely : Prop := toolTellsRow.holds Tryz.pinned (OpenSpec.ofChange toolTellsWrong)

/-- 'scrutinylaw24.ToolNumbers': WHATEVER THE INPUT: true; the input reads as it did. -/
def toolNumbersSpec : ChangeSpec := { name := "toolNumbers", fn := fun _ => fun
  | [d] => { results := [.lit (.bool true)], args := [d] }
  | _ => none }
def toolNumbersRow : OpenClaim := { program := "ytkedhpmpejhekaagreatdoor", sum := "da8c1f37ce20fa76cb58fcc3543d6d1f5a83ab3eccb87ea4712a31c540af966d", func := "scrutiny/scrutinylaw24.ToolNumbers", spec := "toolNumbers", inPlace := ["internal/bytealg.IndexByteString", "internal/bytealg.IndexString", "internal/abi.NoEscape"], unfollowed := true, recurses := true, named := ["internal/bytealg.MaxLen", "scrutiny/tool.kinds", "internal/strconv.uint64pow10", "math/bits.deBruijn32tab", "math/bits.deBruijn64tab", "scrutiny/expr.keys", "scrutiny/expr.texts", "scrutiny/tool.verdicts"], plainKeys := false, apart := false, laid := [("math/bits.deBruijn32tab", laid_math_bits_deBruijn32tab), ("math/bits.deBruijn64tab", laid_math_bits_deBruijn64tab), ("internal/strconv.uint64pow10", laid_internal_strconv_uint64pow10), ("scrutiny/expr.keys", laid_scrutiny_expr_keys), ("scrutiny/expr.texts", laid_scrutiny_expr_texts), ("scrutiny/tool.kinds", laid_scrutiny_tool_kinds), ("scrutiny/tool.verdicts", laid_scrutiny_tool_verdicts)] }
def ToolNumbersSaid : Prop := toolNumbersRow.holds Tryz.pinned (OpenSpec.ofChange toolNumbersSpec)

/-- ITS FALSE NEIGHBOUR: 'it returns false'. Refute it at one input. -/
def toolNumbersWrong : ChangeSpec := { name := "toolNumbers", fn := fun _ => fun
  | [d] => { results := [.lit (.bool false)], args := [d] }
  | _ => none }
def ToolNumbersWrongFalsely : Prop := toolNumbersRow.holds Tryz.pinned (OpenSpec.ofChange toolNumbersWrong)

/-- 'scrutinylaw24.ToolShows': WHATEVER THE INPUT: true; the input reads as it did. -/
def toolShowsSpec : ChangeSpec := { name := "toolShows", fn := fun _ => fun
  | [d] => { results := [.lit (.bool true)], args := [d] }
  | _ => none }
def toolShowsRow : OpenClaim := { program := "ytkedhpmpejhekaagreatdoor", sum := "da8c1f37ce20fa76cb58fcc3543d6d1f5a83ab3eccb87ea4712a31c540af966d", func := "scrutiny/scrutinylaw24.ToolShows", spec := "toolShows", inPlace := ["internal/bytealg.IndexByteString", "internal/bytealg.IndexString", "internal/abi.NoEscape"], unfollowed := true, recurses := true, named := ["internal/bytealg.MaxLen", "scrutiny/tool.kinds", "internal/strconv.uint64pow10", "math/bits.deBruijn32tab", "math/bits.deBruijn64tab", "scrutiny/expr.keys", "scrutiny/expr.texts", "scrutiny/tool.verdicts"], plainKeys := false, apart := false, laid := [("math/bits.deBruijn32tab", laid_math_bits_deBruijn32tab), ("math/bits.deBruijn64tab", laid_math_bits_deBruijn64tab), ("internal/strconv.uint64pow10", laid_internal_strconv_uint64pow10), ("scrutiny/expr.keys", laid_scrutiny_expr_keys), ("scrutiny/expr.texts", laid_scrutiny_expr_texts), ("scrutiny/tool.kinds", laid_scrutiny_tool_kinds), ("scrutiny/tool.verdicts", laid_scrutiny_tool_verdicts)] }
def ToolShowsSaid : Prop := toolShowsRow.holds Tryz.pinned (OpenSpec.ofChange toolShowsSpec)

/-- ITS FALSE NEIGHBOUR: 'it returns false'. Refute it at one input. -/
def toolShowsWrong : ChangeSpec := { name := "toolShows", fn := fun _ => fun
  | [d] => { results := [.lit (.bool false)], args := [d] }
  | _ => none }
def ToolShowsWrongFalsely : Prop := toolShowsRow.holds Tryz.pinned (OpenSpec.ofChange toolShowsWrong)

/-- 'scrutinylaw24.ToolWhat': WHATEVER THE INPUT: true; the input reads as it did. -/
def toolWhatSpec : ChangeSpec := { name := "toolWhat", fn := fun _ => fun
  | [d1, d2] => { results := [.lit (.bool true)], args := [d1, d2] }
  | _ => none }
def toolWhatRow : OpenClaim := { program := "ytkedhpmpejhekaagreatdoor", sum := "da8c1f37ce20fa76cb58fcc3543d6d1f5a83ab3eccb87ea4712a31c540af966d", func := "scrutiny/scrutinylaw24.ToolWhat", spec := "toolWhat", inPlace := ["internal/bytealg.IndexByteString", "internal/bytealg.IndexString", "internal/abi.NoEscape"], unfollowed := true, recurses := true, named := ["internal/bytealg.MaxLen", "scrutiny/tool.kinds", "internal/strconv.uint64pow10", "math/bits.deBruijn32tab", "math/bits.deBruijn64tab", "scrutiny/expr.keys", "scrutiny/expr.texts", "scrutiny/tool.verdicts"], plainKeys := false, apart := false, laid := [("math/bits.deBruijn32tab", laid_math_bits_deBruijn32tab), ("math/bits.deBruijn64tab", laid_math_bits_deBruijn64tab), ("internal/strconv.uint64pow10", laid_internal_strconv_uint64pow10), ("scrutiny/expr.keys", laid_scrutiny_expr_keys), ("scrutiny/expr.texts", laid_scrutiny_expr_texts), ("scrutiny/tool.kinds", laid_scrutiny_tool_kinds), ("scrutiny/tool.verdicts", laid_scrutiny_tool_verdicts)] }
def ToolWhatSaid : Prop := toolWhatRow.holds Tryz.pinned (OpenSpec.ofChange toolWhatSpec)

/-- ITS FALSE NEIGHBOUR: 'it returns false'. Refute it at one input. -/
def toolWhatWrong : ChangeSpec := { name := "toolWhat", fn := fun _ => fun
  | [d1, d2] => { results := [.lit (.bool false)], args := [d1, d2] }
  | _ => none }
def ToolWhatWrongFalsely : Prop := toolWhatRow.holds Tryz.pinned (OpenSpec.ofChange toolWhatWrong)

/- THE SECOND FORM. 'bulk': how many values and letters a reading holds, each counted each time it is reached (what is shared counts as often as it is met; a slice's spare places count too). A statement '..UptoSaid' is the law's where the arguments, and the package variables that the reading takes, are together of bulk at most 1048576: NARROWER than '..Said'. Prove '..Said' where nothing that the law and all that it calls make is longer than what came in: it says more and counts as full. Else prove '..UptoSaid'. A law counts once. -/
mutual
def uptoBulk {H : Type} : DataW H → Nat
  | .lit (.string bytes) => bytes.length + 1
  | .lit _ => 1
  | .nil => 1
  | .ptr d => uptoBulk d + 1
  | .slice elems spare => uptoBulkAll elems + uptoBulkAll spare + 1
  | .agg parts => uptoBulkAll parts + 1
  | .iface _ d => uptoBulk d + 1
  | .map entries => uptoBulkEntries entries + 1
  | .held _ => 1
def uptoBulkAll {H : Type} : List (DataW H) → Nat
  | [] => 0
  | d :: r => uptoBulk d + uptoBulkAll r
def uptoBulkEntries {H : Type} : List (Lit × DataW H) → Nat
  | [] => 0
  | x :: r => uptoBulkEntry x + uptoBulkEntries r
def uptoBulkEntry {H : Type} : Lit × DataW H → Nat
  | (.string bytes, d) => bytes.length + uptoBulk d + 1
  | (_, d) => uptoBulk d + 1
 end
def uptoSmall : (H : Type) → List (DataW H) → Bool := fun _ ds => decide (uptoBulkAll ds ≤ 1048576)
def OpenSpec.upto (s : _root_.Go.ChangeSpec) : _root_.Go.OpenSpec := { _root_.Go.OpenSpec.ofChange s with cond := some uptoSmall }

/-- 'scrutinylaw24.ToolTells', WHERE WHAT IT READS IS OF BULK AT MOST 1048576: true; the input reads as it did. -/
def toolTellsUptoRow : OpenClaim := { program := "ytkedhpmpejhekaagreatdoor", sum := "da8c1f37ce20fa76cb58fcc3543d6d1f5a83ab3eccb87ea4712a31c540af966d", func := "scrutiny/scrutinylaw24.ToolTells", spec := "toolTells", inPlace := ["internal/bytealg.IndexByteString", "internal/bytealg.IndexString", "internal/abi.NoEscape"], unfollowed := true, recurses := true, named := ["internal/bytealg.MaxLen", "scrutiny/tool.kinds", "internal/strconv.uint64pow10", "math/bits.deBruijn32tab", "math/bits.deBruijn64tab", "scrutiny/expr.keys", "scrutiny/expr.texts", "scrutiny/tool.verdicts"], plainKeys := false, apart := false, laid := [("math/bits.deBruijn32tab", laid_math_bits_deBruijn32tab), ("math/bits.deBruijn64tab", laid_math_bits_deBruijn64tab), ("internal/strconv.uint64pow10", laid_internal_strconv_uint64pow10), ("scrutiny/expr.keys", laid_scrutiny_expr_keys), ("scrutiny/expr.texts", laid_scrutiny_expr_texts), ("scrutiny/tool.kinds", laid_scrutiny_tool_kinds), ("scrutiny/tool.verdicts", laid_scrutiny_tool_verdicts)], narrowed := true }
def ToolTellsUptoSaid : Prop := toolTellsUptoRow.holds Tryz.pinned (OpenSpec.upto toolTellsSpec)

/-- 'scrutinylaw24.ToolNumbers', WHERE WHAT IT READS IS OF BULK AT MOST 1048576: true; the input reads as it did. -/
def toolNumbersUptoRow : OpenClaim := { program := "ytkedhpmpejhekaagreatdoor", sum := "da8c1f37ce20fa76cb58fcc3543d6d1f5a83ab3eccb87ea4712a31c540af966d", func := "scrutiny/scrutinylaw24.ToolNumbers", spec := "toolNumbers", inPlace := ["internal/bytealg.IndexByteString", "internal/bytealg.IndexString", "internal/abi.NoEscape"], unfollowed := true, recurses := true, named := ["internal/bytealg.MaxLen", "scrutiny/tool.kinds", "internal/strconv.uint64pow10", "math/bits.deBruijn32tab", "math/bits.deBruijn64tab", "scrutiny/expr.keys", "scrutiny/expr.texts", "scrutiny/tool.verdicts"], plainKeys := false, apart := false, laid := [("math/bits.deBruijn32tab", laid_math_bits_deBruijn32tab), ("math/bits.deBruijn64tab", laid_math_bits_deBruijn64tab), ("internal/strconv.uint64pow10", laid_internal_strconv_uint64pow10), ("scrutiny/expr.keys", laid_scrutiny_expr_keys), ("scrutiny/expr.texts", laid_scrutiny_expr_texts), ("scrutiny/tool.kinds", laid_scrutiny_tool_kinds), ("scrutiny/tool.verdicts", laid_scrutiny_tool_verdicts)], narrowed := true }
def ToolNumbersUptoSaid : Prop := toolNumbersUptoRow.holds Tryz.pinned (OpenSpec.upto toolNumbersSpec)

/-- 'scrutinylaw24.ToolShows', WHERE WHAT IT READS IS OF BULK AT MOST 1048576: true; the input reads as it did. -/
def toolShowsUptoRow : OpenClaim := { program := "ytkedhpmpejhekaagreatdoor", sum := "da8c1f37ce20fa76cb58fcc3543d6d1f5a83ab3eccb87ea4712a31c540af966d", func := "scrutiny/scrutinylaw24.ToolShows", spec := "toolShows", inPlace := ["internal/bytealg.IndexByteString", "internal/bytealg.IndexString", "internal/abi.NoEscape"], unfollowed := true, recurses := true, named := ["internal/bytealg.MaxLen", "scrutiny/tool.kinds", "internal/strconv.uint64pow10", "math/bits.deBruijn32tab", "math/bits.deBruijn64tab", "scrutiny/expr.keys", "scrutiny/expr.texts", "scrutiny/tool.verdicts"], plainKeys := false, apart := false, laid := [("math/bits.deBruijn32tab", laid_math_bits_deBruijn32tab), ("math/bits.deBruijn64tab", laid_math_bits_deBruijn64tab), ("internal/strconv.uint64pow10", laid_internal_strconv_uint64pow10), ("scrutiny/expr.keys", laid_scrutiny_expr_keys), ("scrutiny/expr.texts", laid_scrutiny_expr_texts), ("scrutiny/tool.kinds", laid_scrutiny_tool_kinds), ("scrutiny/tool.verdicts", laid_scrutiny_tool_verdicts)], narrowed := true }
def ToolShowsUptoSaid : Prop := toolShowsUptoRow.holds Tryz.pinned (OpenSpec.upto toolShowsSpec)

/-- 'scrutinylaw24.ToolWhat', WHERE WHAT IT READS IS OF BULK AT MOST 1048576: true; the input reads as it did. -/
def toolWhatUptoRow : OpenClaim := { program := "ytkedhpmpejhekaagreatdoor", sum := "da8c1f37ce20fa76cb58fcc3543d6d1f5a83ab3eccb87ea4712a31c540af966d", func := "scrutiny/scrutinylaw24.ToolWhat", spec := "toolWhat", inPlace := ["internal/bytealg.IndexByteString", "internal/bytealg.IndexString", "internal/abi.NoEscape"], unfollowed := true, recurses := true, named := ["internal/bytealg.MaxLen", "scrutiny/tool.kinds", "internal/strconv.uint64pow10", "math/bits.deBruijn32tab", "math/bits.deBruijn64tab", "scrutiny/expr.keys", "scrutiny/expr.texts", "scrutiny/tool.verdicts"], plainKeys := false, apart := false, laid := [("math/bits.deBruijn32tab", laid_math_bits_deBruijn32tab), ("math/bits.deBruijn64tab", laid_math_bits_deBruijn64tab), ("internal/strconv.uint64pow10", laid_internal_strconv_uint64pow10), ("scrutiny/expr.keys", laid_scrutiny_expr_keys), ("scrutiny/expr.texts", laid_scrutiny_expr_texts), ("scrutiny/tool.kinds", laid_scrutiny_tool_kinds), ("scrutiny/tool.verdicts", laid_scrutiny_tool_verdicts)], narrowed := true }
def ToolWhatUptoSaid : Prop := toolWhatUptoRow.holds Tryz.pinned (OpenSpec.upto toolWhatSpec)

end Rows
end Go.Proofs.YtkedhpmpejhekaaGreatDoor
