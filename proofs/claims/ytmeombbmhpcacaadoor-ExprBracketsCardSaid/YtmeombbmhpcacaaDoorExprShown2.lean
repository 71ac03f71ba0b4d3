/-
  Tokens of what is shown: numbers. Under way. (own)
-/
import Derived.Test.YtmeombbmhpcacaaDoorExprShown
namespace Go.Proofs.YtmeombbmhpcacaaDoor
namespace Lx

theorem dig_of (d : Nat) (h : d < 10) : dig (UInt8.ofNat (48 + d)) = d ∧ isDigit (UInt8.ofNat (48 + d)) = true := by
  have : d = 0 ∨ d = 1 ∨ d = 2 ∨ d = 3 ∨ d = 4 ∨ d = 5 ∨ d = 6 ∨ d = 7 ∨ d = 8 ∨ d = 9 := by omega
  rcases this with rfl | rfl | rfl | rfl | rfl | rfl | rfl | rfl | rfl | rfl <;> exact ⟨rfl, rfl⟩
theorem num_dec : ∀ (N n : Nat), n ≤ N → numFrom 0 (Lib.decDigits n) = n ∧ (Lib.decDigits n).all isDigit = true ∧ Lib.decDigits n ≠ [] := by
  intro N
  induction N with
  | zero =>
    intro n h
    obtain rfl : n = 0 := by omega
    rw [Lib.decDigits, dif_pos (by omega)]
    exact ⟨rfl, rfl, by simp⟩
  | succ N ih =>
    intro n h
    rw [Lib.decDigits]
    split
    · rename_i hn
      obtain ⟨h1, h2⟩ := dig_of n hn
      refine ⟨?_, by simp only [List.all_cons, h2, List.all_nil, Bool.and_self], by simp⟩
      show 10 * 0 + dig (UInt8.ofNat (48 + n)) = n
      rw [h1]; omega
    · rename_i hn
      obtain ⟨h1, h2⟩ := dig_of (n % 10) (by omega)
      obtain ⟨i1, i2, _⟩ := ih (n / 10) (by omega)
      refine ⟨?_, by simp only [List.all_append, i2, List.all_cons, h2, List.all_nil, Bool.and_self], by simp⟩
      unfold numFrom at *
      rw [List.foldl_append, i1]
      show 10 * ((n / 10 : Nat) : Int) + dig (UInt8.ofNat (48 + n % 10)) = n
      rw [h1]; omega
end Lx
end Go.Proofs.YtmeombbmhpcacaaDoor
