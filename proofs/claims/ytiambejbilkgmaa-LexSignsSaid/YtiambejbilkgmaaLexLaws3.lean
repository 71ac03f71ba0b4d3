/-
  Own pure proofs: LexSigns and LexNumbers answer true.
-/
import Derived.Test.YtiambejbilkgmaaLexLaws1
namespace Go.Proofs.Ytiambejbilkgmaa
namespace Lx

theorem signs_all : ((List.range 22).all fun i => (List.range 22).all fun j => scrutinylaw12_LexSigns (i : Int) (j : Int) == some true) = true := by kernel_rfl
theorem LexSigns_mod (i0 j1 i j : Int) (hi : Int.tmod (IntKind.i64.wrap i0) 22 = Int.tmod (IntKind.i64.wrap i) 22) (hj : Int.tmod (IntKind.i64.wrap j1) 22 = Int.tmod (IntKind.i64.wrap j) 22) :
    scrutinylaw12_LexSigns i0 j1 = scrutinylaw12_LexSigns i j := by
  unfold scrutinylaw12_LexSigns
  rw [hi, hj]
theorem mod22 {x : Int} (h : 0 ≤ x ∧ x ≤ 255) : ∃ m : Nat, m < 22 ∧ Int.tmod (IntKind.i64.wrap x) 22 = Int.tmod (IntKind.i64.wrap (m : Int)) 22 := by
  obtain ⟨n, rfl⟩ : ∃ n : Nat, x = (n : Int) := ⟨x.toNat, by omega⟩
  refine ⟨n % 22, Nat.mod_lt _ (by decide), ?_⟩
  rw [w64 (by omega), w64 (by omega)]
  show ((n % 22 : Nat) : Int) = ((n % 22 % 22 : Nat) : Int)
  rw [Nat.mod_mod]
theorem LexSigns_true (i j : Int) (hi : 0 ≤ i ∧ i ≤ 255) (hj : 0 ≤ j ∧ j ≤ 255) : scrutinylaw12_LexSigns i j = some true := by
  obtain ⟨a, ha, ea⟩ := mod22 hi
  obtain ⟨b, hb, eb⟩ := mod22 hj
  rw [LexSigns_mod i j a b ea eb]
  have h1 := List.all_eq_true.1 signs_all a (List.mem_range.2 ha)
  have h2 := List.all_eq_true.1 h1 b (List.mem_range.2 hb)
  simpa using h2
end Lx
end Go.Proofs.Ytiambejbilkgmaa
