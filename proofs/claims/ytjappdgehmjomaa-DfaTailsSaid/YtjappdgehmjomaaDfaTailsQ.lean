/-
  DfaTails, plainly: the outer loops. (own)
-/
import Derived.Test.YtjappdgehmjomaaDfaTailsP
namespace Go.Proofs.Ytjappdgehmjomaa
namespace Df

theorem tails_b {a b : List (List Int)} {e27 : List Int} {n : Nat} (hn : 1 ≤ n ∧ n ≤ 4) (hm : 1 ≤ e27.length ∧ e27.length ≤ 4) (ha : a.length ≤ 8) (hb : b.length ≤ 8) (a0 : a ≠ []) (b0 : b ≠ []) (la : ∀ v ∈ a, v.length = n ∧ By v) (lb : ∀ v ∈ b, By v) {dS : D} {S : List (List Int)} {AS : List Int} (IS : Is dS n S AS) (mS : ∀ v, v ∈ S ↔ v ∈ a) (hS : S.length ≤ 8) :
    ∀ (q p : List (List Int)), b = p ++ q → (∀ v ∈ p, v.length = e27.length) → ∀ (dT : D) (T : List (List Int)) (AT : List Int), Is dT e27.length T AT → T.length ≤ p.length → (∀ v, v ∈ T ↔ v ∈ p) → ∀ k, q.length < k →
    fixN (scrutinylaw09_DfaTails_L2 a b true e27 ((((n + e27.length : Nat) : Int), [], -1, 0, []), 0) (n : Int) S) k ((e27.length : Int), T, (p.length : Int)) = some true
  | [], p, h, hp, dT, T, AT, IT, hT, mT, k, hk => by
    obtain ⟨k, rfl⟩ : ∃ j, k = j + 1 := ⟨k - 1, by simp at hk; omega⟩
    rw [fixN_succ]
    generalize fixN (scrutinylaw09_DfaTails_L2 a b true e27 ((((n + e27.length : Nat) : Int), [], -1, 0, []), 0) (n : Int) S) k = g
    have e : b = p := by simpa using h
    have r := tails_out (m := e27.length) (by omega) ha hb a0 b0 la (fun v hv => ⟨hp v (by rw [← e]; exact hv), lb v hv⟩) IS IT mS (fun v => by rw [mT, e]) hS (by rw [e] at hb; omega) (r64 := ((((n + e27.length : Nat) : Int), [], -1, 0, []), 0)) rfl a [] rfl (((n + e27.length : Nat) : Int), [], -1, 0, []) [] [] (new_is (by omega)) (by simp) (by simp) FUEL (fuel_lt (by omega))
    rw [show ((List.length ([] : List (List Int)) : Nat) : Int) = 0 from rfl] at r
    dsimp only at r
    unfold scrutinylaw09_DfaTails_L2
    dsimp only
    rw [lt_f h, cond_false, r]
  | v :: q, p, h, hp, dT, T, AT, IT, hT, mT, k, hk => by
    obtain ⟨k, rfl⟩ : ∃ j, k = j + 1 := ⟨k - 1, by simp at hk; omega⟩
    rw [fixN_succ]
    have hpl : p.length + 1 ≤ 8 := by rw [h] at hb; simp at hb; omega
    have ih := fun hp dT T AT IT hT mT => tails_b hn hm ha hb a0 b0 la lb IS mS hS q (p ++ [v]) (by rw [h]; simp) hp dT T AT IT hT mT k (by simp at hk; omega)
    generalize fixN (scrutinylaw09_DfaTails_L2 a b true e27 ((((n + e27.length : Nat) : Int), [], -1, 0, []), 0) (n : Int) S) k = g at ih ⊢
    rw [show ((p ++ [v]).length : Int) = ((p.length + 1 : Nat) : Int) by simp] at ih
    unfold scrutinylaw09_DfaTails_L2
    dsimp only
    rw [lt_t h, cond_true, idx_mid h]
    simp only [bind_p]
    by_cases hv : v.length = e27.length
    · obtain ⟨d', A', L', f, g1, I', k1, m1⟩ := both_ok IT (by omega) (lb v (by rw [h]; simp)) hv
      rw [show ((v.length : Int) != (e27.length : Int)) = false by simp [hv], cond_false, g1]
      simp only [bind_p]
      rw [next_ix (by omega), ih (fun u hu => by
        rcases List.mem_append.1 hu with hu | hu
        · exact hp u hu
        · simp at hu; rw [hu]; exact hv) d' L' A' I' (by simp; omega) (fun x => by rw [m1, mT]; simp [or_comm])]
    · rw [show ((v.length : Int) != (e27.length : Int)) = true by simp only [bne_iff_ne, ne_eq]; omega, cond_true]
theorem tails_a {a b : List (List Int)} {e21 e27 : List Int} (hn : 1 ≤ e21.length ∧ e21.length ≤ 4) (hm : 1 ≤ e27.length ∧ e27.length ≤ 4) (ha : a.length ≤ 8) (hb : b.length ≤ 8) (a0 : a ≠ []) (b0 : b ≠ []) (la : ∀ v ∈ a, By v) (lb : ∀ v ∈ b, By v) :
    ∀ (q p : List (List Int)), a = p ++ q → (∀ v ∈ p, v.length = e21.length) → ∀ (dS : D) (S : List (List Int)) (AS : List Int), Is dS e21.length S AS → S.length ≤ p.length → (∀ v, v ∈ S ↔ v ∈ p) → ∀ k, q.length < k →
    fixN (scrutinylaw09_DfaTails_L1 a b true e21 e27 (((e27.length : Int), []), 0) ((((e21.length + e27.length : Nat) : Int), [], -1, 0, []), 0)) k ((e21.length : Int), S, (p.length : Int)) = some true
  | [], p, h, hp, dS, S, AS, IS, hS, mS, k, hk => by
    obtain ⟨k, rfl⟩ : ∃ j, k = j + 1 := ⟨k - 1, by simp at hk; omega⟩
    rw [fixN_succ]
    generalize fixN (scrutinylaw09_DfaTails_L1 a b true e21 e27 (((e27.length : Int), []), 0) ((((e21.length + e27.length : Nat) : Int), [], -1, 0, []), 0)) k = g
    have e : a = p := by simpa using h
    have r := tails_b hn hm ha hb a0 b0 (fun v hv => ⟨hp v (by rw [← e]; exact hv), la v hv⟩) lb IS (fun v => by rw [mS, e]) (by rw [e] at ha; omega) b [] rfl (by simp) ((e27.length : Int), [], -1, 0, []) [] [] (new_is (by omega)) (by simp) (by simp) FUEL (fuel_lt (by omega))
    rw [show ((List.length ([] : List (List Int)) : Nat) : Int) = 0 from rfl] at r
    unfold scrutinylaw09_DfaTails_L1
    dsimp only
    rw [lt_f h, cond_false, r]
  | v :: q, p, h, hp, dS, S, AS, IS, hS, mS, k, hk => by
    obtain ⟨k, rfl⟩ : ∃ j, k = j + 1 := ⟨k - 1, by simp at hk; omega⟩
    rw [fixN_succ]
    have hpl : p.length + 1 ≤ 8 := by rw [h] at ha; simp at ha; omega
    have ih := fun hp dT T AT IT hT mT => tails_a hn hm ha hb a0 b0 la lb q (p ++ [v]) (by rw [h]; simp) hp dT T AT IT hT mT k (by simp at hk; omega)
    generalize fixN (scrutinylaw09_DfaTails_L1 a b true e21 e27 (((e27.length : Int), []), 0) ((((e21.length + e27.length : Nat) : Int), [], -1, 0, []), 0)) k = g at ih ⊢
    rw [show ((p ++ [v]).length : Int) = ((p.length + 1 : Nat) : Int) by simp] at ih
    unfold scrutinylaw09_DfaTails_L1
    dsimp only
    rw [lt_t h, cond_true, idx_mid h]
    simp only [bind_p]
    by_cases hv : v.length = e21.length
    · obtain ⟨d', A', L', f, g1, I', k1, m1⟩ := both_ok IS (by omega) (la v (by rw [h]; simp)) hv
      rw [show ((v.length : Int) != (e21.length : Int)) = false by simp [hv], cond_false, g1]
      simp only [bind_p]
      rw [next_ix (by omega), ih (fun u hu => by
        rcases List.mem_append.1 hu with hu | hu
        · exact hp u hu
        · simp at hu; rw [hu]; exact hv) d' L' A' I' (by simp; omega) (fun x => by rw [m1, mS]; simp [or_comm])]
    · rw [show ((v.length : Int) != (e21.length : Int)) = true by simp only [bne_iff_ne, ne_eq]; omega, cond_true]
theorem rnew_ok {W : Nat} (hW : 1 ≤ W ∧ W ≤ 64) : scrutinyref09_New (W : Int) = some (((W : Int), []), 0) := by
  unfold scrutinyref09_New
  simp only [letv_p]
  rw [show decide ((W : Int) < 1) = false by simp; omega, show decide (64 < (W : Int)) = false by simp; omega]
  rfl
theorem tails_true (a b : List (List Int)) (la : ∀ v ∈ a, By v) (lb : ∀ v ∈ b, By v) : scrutinylaw09_DfaTails a b = some true := by
  unfold scrutinylaw09_DfaTails
  rw [shown_true]
  simp only [bind_p, letv_p]
  by_cases h : a.length < 1 ∨ 8 < a.length ∨ b.length < 1 ∨ 8 < b.length
  · have : (((decide ((a.length : Int) < 1) || decide (8 < (a.length : Int))) || decide ((b.length : Int) < 1)) || decide (8 < (b.length : Int))) = true := by
      simp only [Bool.or_eq_true, decide_eq_true_eq]; omega
    rw [this, cond_true]
  · have : (((decide ((a.length : Int) < 1) || decide (8 < (a.length : Int))) || decide ((b.length : Int) < 1)) || decide (8 < (b.length : Int))) = false := by
      simp only [Bool.or_eq_false_iff, decide_eq_false_iff_not]; omega
    have a0 : a ≠ [] := fun e => by subst e; simp at h
    have b0 : b ≠ [] := fun e => by subst e; simp at h
    rw [this, cond_false, show (0 : Int) = ((0 : Nat) : Int) from rfl, idx_lt (xs := a) (by omega), idx_lt (xs := b) (by omega)]
    simp only [bind_p]
    generalize a[0]'(by omega) = e21
    generalize b[0]'(by omega) = e27
    by_cases h2 : e21.length < 1 ∨ 4 < e21.length ∨ e27.length < 1 ∨ 4 < e27.length
    · have : (((decide ((e21.length : Int) < 1) || decide (4 < (e21.length : Int))) || decide ((e27.length : Int) < 1)) || decide (4 < (e27.length : Int))) = true := by
        simp only [Bool.or_eq_true, decide_eq_true_eq]; omega
      rw [this, cond_true]
    · have : (((decide ((e21.length : Int) < 1) || decide (4 < (e21.length : Int))) || decide ((e27.length : Int) < 1)) || decide (4 < (e27.length : Int))) = false := by
        simp only [Bool.or_eq_false_iff, decide_eq_false_iff_not]; omega
      rw [this, cond_false, rnew_ok (by omega), rnew_ok (by omega)]
      simp only [bind_p]
      rw [w64 (x := (e21.length : Int) + (e27.length : Int)) (by omega), show (e21.length : Int) + (e27.length : Int) = ((e21.length + e27.length : Nat) : Int) by omega, new_ok (by omega)]
      simp only [bind_p]
      have r := tails_a (e21 := e21) (e27 := e27) (by omega) (by omega) (by omega) (by omega) a0 b0 la lb a [] rfl (by simp) ((e21.length : Int), [], -1, 0, []) [] [] (new_is (by omega)) (by simp) (by simp) FUEL (fuel_lt (by omega))
      rw [show ((List.length ([] : List (List Int)) : Nat) : Int) = ((0 : Nat) : Int) from rfl] at r
      rw [r]
end Df
end Go.Proofs.Ytjappdgehmjomaa
