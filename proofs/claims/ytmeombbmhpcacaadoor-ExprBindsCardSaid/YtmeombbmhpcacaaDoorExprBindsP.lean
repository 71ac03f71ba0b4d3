/- The plain law: BINDS. (own) -/
import Derived.Test.YtmeombbmhpcacaaDoorModel
import Derived.KernelRfl
namespace Go.Proofs.YtmeombbmhpcacaaDoor
theorem shown_true : scrutinylaw13_shown = some true := by kernel_rfl
theorem six (i : Int) (h : 0 ≤ i ∧ i ≤ 255) : Int.tmod (IntKind.i64.wrap i) 6 = Int.tmod (IntKind.i64.wrap (i % 6)) 6 := by
  have e1 : IntKind.i64.wrap i = i := w64 (by omega)
  have e2 : IntKind.i64.wrap (i % 6) = i % 6 := w64 (by omega)
  rw [e1, e2, Int.tmod_eq_emod_of_nonneg h.1, Int.tmod_eq_emod_of_nonneg (by omega)]
  omega
theorem binds36 : ((List.range 6).all fun x => (List.range 6).all fun y => scrutinylaw13_ExprBinds (x : Nat) (y : Nat) == some true) = true := by kernel_rfl
theorem binds_true (i j : Int) (hi : 0 ≤ i ∧ i ≤ 255) (hj : 0 ≤ j ∧ j ≤ 255) : scrutinylaw13_ExprBinds i j = some true := by
  have e : scrutinylaw13_ExprBinds i j = scrutinylaw13_ExprBinds (i % 6) (j % 6) := by
    unfold scrutinylaw13_ExprBinds
    rw [six i hi, six j hj]
  rw [e]
  have h1 := List.all_eq_true.1 binds36 (i % 6).toNat (by simp; omega)
  have h2 := List.all_eq_true.1 h1 (j % 6).toNat (by simp; omega)
  have h3 : (((i % 6).toNat : Nat) : Int) = i % 6 := by omega
  have h4 : (((j % 6).toNat : Nat) : Int) = j % 6 := by omega
  rw [h3, h4] at h2
  exact eq_of_beq h2
end Go.Proofs.YtmeombbmhpcacaaDoor
