/-
  Own pure proofs: LexNumbers answers true.
-/
import Derived.Test.YtiambejbilkgmaaLexLaws1
namespace Go.Proofs.Ytiambejbilkgmaa
namespace Lx

theorem numFrom_pow : ∀ (s : Str) (n : Int), numFrom n s = n * 10 ^ s.length + numFrom 0 s
  | [], n => by simp [numFrom]
  | c :: s, n => by
    have e1 : numFrom n (c :: s) = numFrom (10 * n + dig c) s := rfl
    have e2 : numFrom 0 (c :: s) = numFrom (dig c) s := by
      show numFrom (10 * 0 + dig c) s = _
      congr 1; omega
    rw [e1, e2, numFrom_pow s (10 * n + dig c), numFrom_pow s (dig c), List.length_cons, Int.pow_succ, Int.add_mul, ← Int.mul_assoc n, Int.mul_comm (n * 10 ^ s.length) 10, ← Int.mul_assoc 10]
    omega
theorem numFrom_lead (c : UInt8) (s : Str) : numFrom 0 (c :: s) = dig c * 10 ^ s.length + numFrom 0 s := by
  have e2 : numFrom 0 (c :: s) = numFrom (dig c) s := by
    show numFrom (10 * 0 + dig c) s = _
    congr 1; omega
  rw [e2, numFrom_pow]
def dg (k : Nat) : UInt8 := UInt8.ofNat (48 + k)
theorem dg_nat {k : Nat} (h : k < 10) : (dg k).toNat = 48 + k := by
  unfold dg; rw [UInt8.toNat_ofNat']; omega
theorem dg_digit {k : Nat} (h : k < 10) : isDigit (dg k) = true ∧ dig (dg k) = (k : Int) := by
  have := dg_nat h
  constructor
  · simp only [isDigit, Bool.and_eq_true, decide_eq_true_eq, UInt8.le_iff_toNat_le, this]
    have h1 : (48 : UInt8).toNat = 48 := rfl
    have h2 : (57 : UInt8).toNat = 57 := rfl
    omega
  · unfold dig; rw [this]; omega
theorem strOf_dg (v : Nat) : strOf [IntKind.u8.wrap (IntKind.i64.wrap (48 + Int.tmod (v : Int) 10))] = [dg (v % 10)] := by
  have e : Int.tmod (v : Int) 10 = ((v % 10 : Nat) : Int) := rfl
  rw [e, w64 (by omega), wu8 (by omega)]
  unfold strOf dg
  simp only [List.map_cons, List.map_nil]
  congr 2

theorem digits_loop (n noughts long : Int) : ∀ (N k v : Nat) (s : Str), v < 10 ^ k → k + s.length ≤ 10 → (s = [] → 1 ≤ k) → k + 1 < N → s.all isDigit = true →
    ∃ s', fixN (scrutinylaw12_LexNumbers_L1 n noughts long true) N (s, (v : Int)) = fixN (scrutinylaw12_LexNumbers_L2 n noughts long true) FUEL (s', 0) ∧ s'.all isDigit = true ∧ s' ≠ [] ∧ s'.length ≤ 10 ∧ numFrom 0 s' = (v : Int) * 10 ^ s.length + numFrom 0 s := by
  intro N
  induction N with
  | zero => intro k v s _ _ _ h; omega
  | succ N ih =>
    intro k v s hv hk hs hN hd
    rw [fixN_succ]
    by_cases hgo : 0 < v ∨ s = []
    · have hk1 : 1 ≤ k := by
        rcases hgo with h | h
        · rcases Nat.eq_zero_or_pos k with h0 | h0
          · subst h0; simp at hv; omega
          · exact h0
        · exact hs h
      obtain ⟨k, rfl⟩ : ∃ j, k = j + 1 := ⟨k - 1, by omega⟩
      have hv2 : v / 10 < 10 ^ k := by
        rw [Nat.pow_succ] at hv
        exact Nat.div_lt_of_lt_mul (by omega)
      have hv10 : v < 10 ^ 10 := Nat.lt_of_lt_of_le hv (Nat.pow_le_pow_right (by decide) (by omega))
      obtain ⟨hd1, hd2⟩ := dg_digit (show v % 10 < 10 from Nat.mod_lt _ (by decide))
      obtain ⟨s', h1, h2, h3, h4, h5⟩ := ih k (v / 10) (dg (v % 10) :: s) hv2 (by simp; omega) (fun h => by cases h) (by omega) (by simp only [List.all_cons, hd1, hd, Bool.and_self])
      refine ⟨s', ?_, h2, h3, h4, ?_⟩
      · rw [← h1]
        generalize fixN (scrutinylaw12_LexNumbers_L1 n noughts long true) N = again
        unfold scrutinylaw12_LexNumbers_L1
        have hb : (decide (0 < (v : Int)) || (s == [])) = true := by
          rcases hgo with h | h
          · rw [dec_t (by omega), Bool.true_or]
          · subst h; simp
        simp only [letv_eq, hb, cond_true]
        rw [strOf_dg, catB_true (by simp; omega), chk_true]
        have e : Int.tdiv (v : Int) 10 = ((v / 10 : Nat) : Int) := rfl
        rw [e, w64 (by omega)]; rfl
      · rw [h5, numFrom_lead, hd2, List.length_cons, Int.pow_succ, Int.mul_comm _ 10, ← Int.mul_assoc]
        have e : (v : Int) = ((v / 10 : Nat) : Int) * 10 + ((v % 10 : Nat) : Int) := by omega
        conv => rhs; rw [e]
        rw [Int.add_mul]; omega
    · have hv0 : v = 0 := by omega
      have hs0 : s ≠ [] := fun h => hgo (.inr h)
      subst hv0
      refine ⟨s, ?_, hd, hs0, by omega, by simp⟩
      generalize fixN (scrutinylaw12_LexNumbers_L1 n noughts long true) N = again
      unfold scrutinylaw12_LexNumbers_L1
      have hb : (decide (0 < ((0 : Nat) : Int)) || (s == [])) = false := by
        have : (s == []) = false := by simpa using hs0
        rw [this]; rfl
      simp only [letv_eq, hb, cond_false]

theorem numFrom_nought : ∀ (m : Nat) (s : Str), numFrom 0 (List.replicate m 48 ++ s) = numFrom 0 s
  | 0, s => rfl
  | m + 1, s => by
    rw [List.replicate_succ, List.cons_append, numFrom_lead, numFrom_nought m s]
    have : dig 48 = 0 := rfl
    rw [this]; omega
theorem digit_head {c : UInt8} (h : isDigit c = true) : isBlank c = false ∧ (c == 35) = false ∧ isLetter c = false := by
  refine ⟨?_, ?_, ?_⟩
  · cases hb : isBlank c
    · rfl
    · rw [blank_digit hb] at h; cases h
  · cases hb : (c == 35)
    · rfl
    · have : c = 35 := by simpa using hb
      subst this; cases h
  · cases hb : isLetter c
    · rfl
    · rw [letter_digit hb] at h; cases h
theorem lex_digits {s : Str} (hne : s ≠ []) (hd : s.all isDigit = true) : lex s = if big (numFrom 0 s) then .error (9, 0) else .ok [(2, s, numFrom 0 s, 0), (4, [], 0, (s.length : Int))] := by
  obtain ⟨c, r, rfl⟩ := List.exists_cons_of_ne_nil hne
  have hc : isDigit c = true := by simp only [List.all_cons, Bool.and_eq_true] at hd; exact hd.1
  obtain ⟨h1, h2, h3⟩ := digit_head hc
  have hst : step (c :: r) = if big (numFrom 0 (c :: r)) then .err 9 else .tok 2 (c :: r) (numFrom 0 (c :: r)) := by
    simp only [step, h1, h2, h3, hc, Bool.false_eq_true, if_false, if_true]
    rw [takeWhile_self hd]
  cases hb : big (numFrom 0 (c :: r))
  · rw [hb] at hst
    simp only [Bool.false_eq_true, if_false] at hst ⊢
    rw [lex_tok hst, List.drop_length, lex_nil]
    simp [shE, shT, consE]
  · rw [hb] at hst
    simp only [if_true] at hst ⊢
    exact lex_err hst
theorem lex_name (m : Nat) : lex (([32] ++ List.replicate (m + 1) 97) ++ [40]) = if 32 < m + 1 then .error (9, 1) else .ok [(1, List.replicate (m + 1) 97, 0, 1), (3, [40], 0, ((m + 2 : Nat) : Int)), (4, [], 0, ((m + 3 : Nat) : Int))] := by
  have e : ([32] ++ List.replicate (m + 1) 97) ++ [40] = (32 : UInt8) :: (97 :: (List.replicate m 97 ++ [40])) := by
    rw [List.replicate_succ]; rfl
  rw [e, lex_skip (show step ((32 : UInt8) :: (97 :: (List.replicate m 97 ++ [40]))) = .skip 1 from rfl)]
  simp only [List.drop_succ_cons, List.drop_zero]
  have htw : ((97 : UInt8) :: (List.replicate m 97 ++ [40])).takeWhile isEither = List.replicate (m + 1) 97 := by
    have e2 : (97 : UInt8) :: (List.replicate m 97 ++ [40]) = List.replicate (m + 1) 97 ++ (40 : UInt8) :: [] := by rw [List.replicate_succ]; rfl
    rw [e2, takeWhile_sep (by decide), takeWhile_self]
    rw [List.all_eq_true]; intro c hc
    rw [List.eq_of_mem_replicate hc]; decide
  have hst : step ((97 : UInt8) :: (List.replicate m 97 ++ [40])) = if 32 < m + 1 then .err 9 else .tok 1 (List.replicate (m + 1) 97) 0 := by
    have h1 : isBlank 97 = false := by decide
    have h2 : ((97 : UInt8) == 35) = false := by decide
    have h3 : isLetter 97 = true := by decide
    simp only [step, h1, h2, h3, Bool.false_eq_true, if_false, if_true]
    rw [htw, List.length_replicate]
  by_cases hm : 32 < m + 1
  · rw [if_pos hm] at hst ⊢
    rw [lex_err hst]; rfl
  · rw [if_neg hm] at hst ⊢
    rw [lex_tok hst]
    have e3 : ((97 : UInt8) :: (List.replicate m 97 ++ [40])).drop (List.replicate (m + 1) (97 : UInt8)).length = [40] := by
      have e2 : (97 : UInt8) :: (List.replicate m 97 ++ [40]) = List.replicate (m + 1) 97 ++ [40] := by rw [List.replicate_succ]; rfl
      rw [e2, List.drop_left]
    have e4 : lex [40] = .ok [(3, [40], 0, 0), (4, [], 0, 1)] := by
      have : step [(40 : UInt8)] = .tok 3 [40] 0 := rfl
      rw [lex_tok this]; rfl
    rw [e3, e4]
    simp only [shE, consE, shT, List.map_cons, List.map_nil, List.length_replicate]
    congr 1
    simp only [List.cons.injEq, Prod.mk.injEq, true_and, and_true]
    omega

theorem LexNumbers_true (n noughts long : Int) (hn : 0 ≤ n ∧ n ≤ 4294967295) (hz : 0 ≤ noughts ∧ noughts ≤ 255) (hl : 0 ≤ long ∧ long ≤ 255) : scrutinylaw12_LexNumbers n noughts long = some true := by
  unfold scrutinylaw12_LexNumbers
  rw [shown_true, some_bind', w64 (by omega)]
  obtain ⟨v, rfl⟩ : ∃ v : Nat, n = (v : Int) := ⟨n.toNat, by omega⟩
  obtain ⟨z, rfl⟩ : ∃ z : Nat, noughts = (z : Int) := ⟨noughts.toNat, by omega⟩
  obtain ⟨q, rfl⟩ : ∃ q : Nat, long = (q : Int) := ⟨long.toNat, by omega⟩
  obtain ⟨s, h1, h2, h3, h4, h5⟩ := digits_loop v z q FUEL 10 v [] (by omega) (by simp) (fun _ => by omega) (by rw [FUEL_val]; omega) rfl
  rw [h1]
  have hnum : numFrom 0 s = (v : Int) := by rw [h5]; simp [numFrom]
  have ez : Int.tmod (IntKind.i64.wrap (z : Int)) 20 = ((z % 20 : Nat) : Int) := by rw [w64 (by omega)]; rfl
  have eq : Int.tmod (IntKind.i64.wrap (q : Int)) 60 = ((q % 60 : Nat) : Int) := by rw [w64 (by omega)]; rfl
  have hz20 : z % 20 < 20 := Nat.mod_lt _ (by decide)
  have hq60 : q % 60 < 60 := Nat.mod_lt _ (by decide)
  refine fixN_up (N := FUEL) (fun k => (List.replicate k 48 ++ s, (k : Int))) (z % 20) (some true) ?_ ?_ 0 (by omega) (by rw [FUEL_val]; omega)
  · intro again k hk
    unfold scrutinylaw12_LexNumbers_L2
    simp only [ez]
    rw [dec_t (by omega), cond_true, catB_true (by simp; omega), chk_true, w64 (by omega), List.replicate_succ]; rfl
  · intro again
    unfold scrutinylaw12_LexNumbers_L2
    simp only [ez]
    rw [dec_f (by omega), cond_false]
    have hs'd : (List.replicate (z % 20) (48 : UInt8) ++ s).all isDigit = true := by
      rw [List.all_append, h2, Bool.and_true, List.all_eq_true]
      intro c hc; rw [List.eq_of_mem_replicate hc]; decide
    have hs'n : (List.replicate (z % 20) (48 : UInt8) ++ s) ≠ [] := by simp [h3]
    have hs'l : (List.replicate (z % 20) (48 : UInt8) ++ s).length ≤ 30 := by simp; omega
    have hs'v : numFrom 0 (List.replicate (z % 20) (48 : UInt8) ++ s) = (v : Int) := by rw [numFrom_nought, hnum]
    generalize List.replicate (z % 20) (48 : UInt8) ++ s = s' at hs'd hs'n hs'l hs'v
    rw [Tokens_lex (by omega), some_bind', lex_digits hs'n hs'd, hs'v]
    refine fixN_up (N := FUEL) (fun k => (List.replicate k 97, (k : Int))) (q % 60 + 1) (some true) ?_ ?_ 0 (by omega) (by rw [FUEL_val]; omega)
    · intro again k hk
      unfold scrutinylaw12_LexNumbers_L3
      simp only [eq]
      rw [dec_t (by omega), cond_true, catB_true (by simp; omega), chk_true, w64 (by omega), ← List.replicate_succ']; rfl
    · intro again
      unfold scrutinylaw12_LexNumbers_L3
      simp only [eq]
      rw [dec_f (by omega), cond_false, catB_true (by simp; omega), chk_true, catB_true (by simp; omega), chk_true, Tokens_lex (by simp; omega), some_bind', lex_name, w64 (by omega)]
      have hlenq : ((List.replicate (q % 60 + 1) (97 : UInt8)).length : Int) = ((q % 60 + 1 : Nat) : Int) := by simp
      simp only [hlenq, letv_eq]
      have tail : (bif decide (1073741824 < (v : Int)) then some (true && (res (if big (v : Int) = true then .error (9, 0) else .ok [(2, s', (v : Int), 0), (4, [], 0, (s'.length : Int))])).2.1 == 9 && (res (if big (v : Int) = true then .error (9, 0) else .ok [(2, s', (v : Int), 0), (4, [], 0, (s'.length : Int))])).2.2 == 0) else some true) = some true := by
        by_cases hb : 1073741824 < (v : Int)
        · rw [dec_t hb, cond_true, if_pos (by simp [big]; omega)]; rfl
        · rw [dec_f hb]; rfl
      by_cases hm : 32 < q % 60 + 1
      · rw [if_pos hm]
        have hm2 : ¬ (((q % 60 + 1 : Nat) : Int) ≤ 32) := by omega
        simp only [res, hm2, decide_false]
        by_cases hb : 1073741824 < (v : Int)
        · rw [if_pos (show big (v : Int) = true by simp [big]; omega)]
          simp [callG, hb]
        · rw [if_neg (show ¬ big (v : Int) = true by simp [big]; omega)]
          simp [callG, hb, idx]
      · rw [if_neg hm]
        have hm2 : (((q % 60 + 1 : Nat) : Int) ≤ 32) := by omega
        simp only [res, hm2, decide_true]
        by_cases hb : 1073741824 < (v : Int)
        · rw [if_pos (show big (v : Int) = true by simp [big]; omega)]
          simp [callG, hb, idx]
        · rw [if_neg (show ¬ big (v : Int) = true by simp [big]; omega)]
          simp [callG, hb, idx]
end Lx
end Go.Proofs.Ytiambejbilkgmaa
