/- The plain law: TYPES. (own) -/
import Derived.Test.YtmeombbmhpcacaaDoorExprTree
namespace Go.Proofs.YtmeombbmhpcacaaDoor

theorem tmod4 (k : Int) (h : 0 ≤ k ∧ k ≤ 255) : Int.tmod (IntKind.i64.wrap k) 4 = k % 4 := by
  rw [w64 (by omega), Int.tmod_eq_emod_of_nonneg h.1]
theorem tmod6 (k : Int) (h : 0 ≤ k ∧ k ≤ 255) : Int.tmod (IntKind.i64.wrap k) 6 = k % 6 := by
  rw [w64 (by omega), Int.tmod_eq_emod_of_nonneg h.1]
theorem idx4 (k : Int) : ∃ o c, idx ([15, 20, 21, 22] : List Int) (k % 4) = some o ∧ (k % 4 == 0) = c ∧ (c = true ∧ o = 15 ∨ c = false ∧ (o = 20 ∨ o = 21 ∨ o = 22)) := by
  have : k % 4 = 0 ∨ k % 4 = 1 ∨ k % 4 = 2 ∨ k % 4 = 3 := by omega
  rcases this with h | h | h | h <;> rw [h] <;> exact ⟨_, _, rfl, rfl, by decide⟩
theorem idx6 (k : Int) : ∃ o c, idx ([16, 17, 18, 19, 23, 24] : List Int) (k % 6) = some o ∧ decide (k % 6 < 4) = c ∧ (c = true ∧ (o = 16 ∨ o = 17 ∨ o = 18 ∨ o = 19) ∨ c = false ∧ (o = 23 ∨ o = 24)) := by
  have : k % 6 = 0 ∨ k % 6 = 1 ∨ k % 6 = 2 ∨ k % 6 = 3 ∨ k % 6 = 4 ∨ k % 6 = 5 := by omega
  rcases this with h | h | h | h | h | h <;> rw [h] <;> exact ⟨_, _, rfl, rfl, by decide⟩

theorem types_true (e : Ex) (k : Int) (h : e.sz < 1152921504606846976) (hk : 0 ≤ k ∧ k ≤ 255) : scrutinylaw13_ExprTypes e k = some true := by
  have s1 : ∀ o, (Ex.mk o 0 7 [e]).sz < 4611686018427387904 := fun o => by simp only [Ex.sz, szL]; omega
  have s2 : ∀ o, (Ex.mk o 0 8 [e, e]).sz < 4611686018427387904 := fun o => by simp only [Ex.sz, szL]; omega
  obtain ⟨few, hf⟩ := Few_some e (by omega)
  obtain ⟨o4, c4, h4, hc4, d4⟩ := idx4 k
  obtain ⟨o6, c6, h6, hc6, d6⟩ := idx6 k
  have one := ty_one e
  unfold scrutinylaw13_ExprTypes
  rw [shown_true, bind_s, hf, bind_s]
  simp only [scrutinylaw13_ExprTypes_K1, letv_e, tmod4 k hk, tmod6 k hk, h4, h6, hc4, hc6, bind_s, Type_eq e (by omega), Type_eq _ (s1 o4), Type_eq _ (s2 o6), May_eq e (by omega)]
  cases few
  · rfl
  · simp only [Bool.not_true, Bool.not_false, callG_tt, bind_s, Bool.false_or]
    cases mayE 3 e
    · rfl
    · simp only [Bool.not_true, cond_false]
      have t1 : ty (.mk o4 0 7 [e]) = bif (ty e).2.1 != 0 then (0, (ty e).2.1, (ty e).2.2) else tyFin o4 7 (true && (ty e).1 == 1) (true && (ty e).1 == 2) (true && (ty e).1 != 1) := by simp only [ty, tyA]
      have t2 : ty (.mk o6 0 8 [e, e]) = bif (ty e).2.1 != 0 then (0, (ty e).2.1, (ty e).2.2) else (bif (ty e).2.1 != 0 then (0, (ty e).2.1, (ty e).2.2) else tyFin o6 8 (true && (ty e).1 == 1 && (ty e).1 == 1) (true && (ty e).1 == 2 && (ty e).1 == 2) (true && (ty e).1 != 1 && (ty e).1 != 1)) := by simp only [ty, tyA]
      rw [t1, t2]
      generalize ty e = y at one ⊢
      obtain ⟨y, f, at_⟩ := y
      simp only at one ⊢
      cases hf0 : (f != 0)
      · have f0 : f = 0 := by simpa using hf0
        subst f0
        clear h4 h6 hc4 hc6 t1 t2
        rcases one rfl with rfl | rfl | rfl <;> rcases d4 with ⟨rfl, rfl⟩ | ⟨rfl, rfl | rfl | rfl⟩ <;> rcases d6 with ⟨rfl, rfl | rfl | rfl | rfl⟩ | ⟨rfl, rfl | rfl⟩ <;> rfl
      · simp
end Go.Proofs.YtmeombbmhpcacaaDoor
