/-
  Own framework: decimal numerals.
-/
import Derived.Test.YtmeombbmhpcacaaDoorKEx
import Derived.Lib.ItoaNum
namespace Go.Proofs.YtmeombbmhpcacaaDoor
/-- an int of 64 bits -/
def i64B (x : Int) : Bool := decide (-9223372036854775808 ≤ x) && decide (x ≤ 9223372036854775807)
theorem i64B_iff {x : Int} : i64B x = true ↔ -9223372036854775808 ≤ x ∧ x ≤ 9223372036854775807 := by simp [i64B]
end Go.Proofs.YtmeombbmhpcacaaDoor
