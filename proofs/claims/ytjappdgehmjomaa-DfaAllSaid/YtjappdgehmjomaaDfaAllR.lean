/-
  DfaAll, plainly. (own)
-/
import Derived.Test.YtjappdgehmjomaaDfaAllQ
namespace Go.Proofs.Ytjappdgehmjomaa
namespace Df

theorem pow_lim {k n : Nat} (hk : 2 ≤ k ∧ k ≤ 4) (hn : n ≤ 4) : 1 ≤ k ^ n ∧ k ^ n ≤ 256 := by
  refine ⟨Nat.one_le_pow _ _ (by omega), ?_⟩
  have h1 : k ^ n ≤ 4 ^ n := Nat.pow_le_pow_left hk.2 n
  have h2 : 4 ^ n ≤ 4 ^ 4 := Nat.pow_le_pow_right (by omega) hn
  omega
theorem total_loop {signs wide last : Int} {k n : Nat} (hk : 2 ≤ k ∧ k ≤ 4) (hn : 1 ≤ n ∧ n ≤ 4) (eK : IntKind.i64.wrap (2 + (Int.tmod (IntKind.i64.wrap signs) 3)) = (k : Int)) (eN : IntKind.i64.wrap (1 + (Int.tmod (IntKind.i64.wrap wide) 4)) = (n : Int)) {s : Nat} (hs : s < k ^ n) (eS : Int.tmod (IntKind.i64.wrap last) ((k ^ n : Nat) : Int) = (s : Int)) : ∀ (r i : Nat), i + r = n → ∀ m, r < m →
    fixN (scrutinylaw09_DfaAll_L1 signs wide last true (((n : Int), [], -1, 0, []), 0)) m (((k ^ i : Nat) : Int), (i : Int)) = some true
  | 0, i, hi, m, hm => by
    obtain ⟨m, rfl⟩ : ∃ j, m = j + 1 := ⟨m - 1, by omega⟩
    rw [fixN_succ]
    generalize fixN (scrutinylaw09_DfaAll_L1 signs wide last true (((n : Int), [], -1, 0, []), 0)) m = g
    have e : i = n := by omega
    subst e
    have lim := pow_lim hk hn.2
    have two : 2 ≤ k ^ i := by
      have h : k ^ 1 ≤ k ^ i := Nat.pow_le_pow_right (by omega) hn.1
      rw [Nat.pow_one] at h; omega
    have r := all_loop (r6 := (((i : Int), [], -1, 0, []), 0)) rfl hk hn eK eN ⟨two, lim.2⟩ hs eS FUEL 0 (by omega) (fuel_lt (by omega)) ((i : Int), [], -1, 0, []) [] [] (new_is (by omega)) rfl (by simp)
    rw [show (((0 : Nat)) : Int) = 0 from rfl] at r
    dsimp only at r
    unfold scrutinylaw09_DfaAll_L1
    dsimp only
    rw [eN, show decide ((i : Int) < (i : Int)) = false by simp, cond_false, show (((k ^ i : Nat) : Int) != 0) = true by simp only [bne_iff_ne, ne_eq]; omega, chk_t, r]
  | r + 1, i, hi, m, hm => by
    obtain ⟨m, rfl⟩ : ∃ j, m = j + 1 := ⟨m - 1, by omega⟩
    rw [fixN_succ]
    have ih := total_loop hk hn eK eN hs eS r (i + 1) (by omega) m (by omega)
    generalize fixN (scrutinylaw09_DfaAll_L1 signs wide last true (((n : Int), [], -1, 0, []), 0)) m = g at ih ⊢
    have lim := pow_lim (n := i + 1) hk (by omega)
    have em : ((k ^ i : Nat) : Int) * (k : Int) = ((k ^ (i + 1) : Nat) : Int) := by rw [Nat.pow_succ, Int.natCast_mul]
    unfold scrutinylaw09_DfaAll_L1
    dsimp only
    rw [eN, eK, show decide ((i : Int) < (n : Int)) = true by simp; omega, cond_true, em, w64 (by omega), next_ix (by omega), ih]
theorem all_true (signs wide last : Int) (h1 : 0 ≤ signs ∧ signs < 256) (h2 : 0 ≤ wide ∧ wide < 256) (h3 : 0 ≤ last ∧ last < 256) : scrutinylaw09_DfaAll signs wide last = some true := by
  obtain ⟨x, rfl⟩ := Int.eq_ofNat_of_zero_le h1.1
  obtain ⟨y, rfl⟩ := Int.eq_ofNat_of_zero_le h2.1
  obtain ⟨z, rfl⟩ := Int.eq_ofNat_of_zero_le h3.1
  have tm : ∀ a b : Nat, Int.tmod (a : Int) (b : Int) = ((a % b : Nat) : Int) := fun a b => rfl
  have eK : IntKind.i64.wrap (2 + (Int.tmod (IntKind.i64.wrap (x : Int)) 3)) = ((2 + x % 3 : Nat) : Int) := by
    rw [w64 (x := (x : Int)) (by omega), show (3 : Int) = ((3 : Nat) : Int) from rfl, tm, w64 (by omega)]; omega
  have eN : IntKind.i64.wrap (1 + (Int.tmod (IntKind.i64.wrap (y : Int)) 4)) = ((1 + y % 4 : Nat) : Int) := by
    rw [w64 (x := (y : Int)) (by omega), show (4 : Int) = ((4 : Nat) : Int) from rfl, tm, w64 (by omega)]; omega
  have hk : 2 ≤ 2 + x % 3 ∧ 2 + x % 3 ≤ 4 := by omega
  have hn : 1 ≤ 1 + y % 4 ∧ 1 + y % 4 ≤ 4 := by omega
  have lim := pow_lim hk hn.2
  have eS : Int.tmod (IntKind.i64.wrap (z : Int)) (((2 + x % 3) ^ (1 + y % 4) : Nat) : Int) = ((z % (2 + x % 3) ^ (1 + y % 4) : Nat) : Int) := by
    rw [w64 (x := (z : Int)) (by omega), tm]
  have hs : z % (2 + x % 3) ^ (1 + y % 4) < (2 + x % 3) ^ (1 + y % 4) := Nat.mod_lt _ (by omega)
  have r := total_loop hk hn eK eN hs eS (1 + y % 4) 0 (by omega) FUEL (fuel_lt (by omega))
  rw [show (((2 + x % 3) ^ 0 : Nat) : Int) = 1 from rfl, show (((0 : Nat)) : Int) = 0 from rfl] at r
  unfold scrutinylaw09_DfaAll
  rw [shown_true]
  simp only [bind_p]
  rw [eN, new_ok (by omega)]
  simp only [bind_p]
  rw [r]
end Df
end Go.Proofs.Ytjappdgehmjomaa
