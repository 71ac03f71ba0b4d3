/-
  How the automaton's nodes are looked up. (own)
-/
import Derived.Test.YtjappdgehmjomaaDfaAut
namespace Go.Proofs.Ytjappdgehmjomaa
namespace Df

theorem cmp_ok (x y : Int) : cmp_Compare_byte x y = some (if x < y then -1 else if y < x then 1 else 0) := by
  unfold cmp_Compare_byte cmp_isNaN_byte
  simp only [bind_s, show (x != x) = false by simp, show (y != y) = false by simp, cond_false]
  by_cases h : x < y
  · simp [h]
  · by_cases h' : y < x <;> simp [h, h']
theorem c1_ok (e : Int × Int) (y : Int) : dfa_to_c1 e y = some (if e.1 < y then -1 else if y < e.1 then 1 else 0) := by
  unfold dfa_to_c1; rw [cmp_ok]; rfl
theorem mid_eq {i j : Nat} (h : i + j < 4611686018427387904) : IntKind.i64.wrap (shrI .u64 (IntKind.u64.wrap (IntKind.i64.wrap ((i : Int) + j))) 1) = (((i + j) / 2 : Nat) : Int) := by
  rw [w64 (x := (i : Int) + j) (by omega)]
  have : IntKind.u64.wrap ((i : Int) + j) = (i : Int) + j := by
    show ((i : Int) + j) % (2 ^ 64) = _
    omega
  rw [this]
  have : shrI .u64 ((i : Int) + j) 1 = ((i : Int) + j) / 2 := rfl
  rw [this, w64 (by omega)]; omega
theorem bs_loop {x : List (Int × Int)} {t : Int} (hs : x.Pairwise (fun a b => a.1 < b.1)) (hx : x.length < 1048576) : ∀ (n i j : Nat), i ≤ j → j ≤ x.length →
    (∀ k (hk : k < x.length), k < i → x[k].1 < t) → (∀ k (hk : k < x.length), j ≤ k → t ≤ x[k].1) → j - i < n →
    ∃ (m : Nat) (b : Bool), fixN (slices_BinarySearchFunc_api_Edge_api_Edge_byte_L1 x t) n ((i : Int), (j : Int)) = some ((m : Int), b) ∧ m ≤ x.length ∧ (∀ k (hk : k < x.length), k < m → x[k].1 < t) ∧ (∀ k (hk : k < x.length), m ≤ k → t ≤ x[k].1) ∧ (b = true ↔ ∃ h : m < x.length, x[m].1 = t)
  | 0, _, _, _, _, _, _, h => by omega
  | n + 1, i, j, hij, hj, h1, h2, hn => by
    rw [fixN_succ]
    unfold slices_BinarySearchFunc_api_Edge_api_Edge_byte_L1
    have hp := List.pairwise_iff_getElem.1 hs
    simp only [mid_eq (show i + j < _ by omega), letv_e]
    by_cases h : i < j
    · rw [show decide ((i : Int) < (j : Int)) = true by simpa using h, cond_true, idx_lt (show (i + j) / 2 < x.length by omega), bind_s, c1_ok, bind_s]
      by_cases hc : (x[(i + j) / 2]'(by omega)).1 < t
      · simp only [hc, if_true, show decide ((-1 : Int) < 0) = true from rfl, cond_true]
        rw [next_ix (by omega)]
        exact bs_loop hs hx n ((i + j) / 2 + 1) j (by omega) hj (fun k hk hki => by
          by_cases e : k = (i + j) / 2
          · subst e; exact hc
          · have := hp k ((i + j) / 2) hk (by omega) (by omega); omega) h2 (by omega)
      · have : decide ((if (x[(i + j) / 2]'(by omega)).1 < t then (-1 : Int) else if t < (x[(i + j) / 2]'(by omega)).1 then 1 else 0) < 0) = false := by
          simp only [hc, if_false]; split <;> rfl
        rw [this, cond_false]
        exact bs_loop hs hx n i ((i + j) / 2) (by omega) (by omega) h1 (fun k hk hki => by
          by_cases e : k = (i + j) / 2
          · subst e; omega
          · have := hp ((i + j) / 2) k (by omega) hk (by omega); omega) (by omega)
    · have : i = j := by omega
      subst this
      rw [show decide ((i : Int) < (i : Int)) = false by simp, cond_false]
      by_cases hl : i < x.length
      · rw [show decide ((i : Int) < (List.length x : Int)) = true by simpa using hl, callG_tt, idx_lt hl, bind_s, callG_tt, c1_ok, bind_s]
        refine ⟨i, _, rfl, hj, h1, h2, ?_⟩
        have := h2 i hl (Nat.le_refl _)
        simp only [hl, exists_true_left, Bool.true_and, beq_iff_eq]
        split
        · omega
        · split <;> omega
      · rw [show decide ((i : Int) < (List.length x : Int)) = false by simpa using hl, callG_ff, callG_ff]
        exact ⟨i, _, rfl, hj, h1, h2, by simp [hl]⟩
/-- where an edge stands, or would stand -/
theorem bs_ok {x : List (Int × Int)} (t : Int) (hs : Rise x) (hx : x.length < 1048576) :
    ∃ (p q : List (Int × Int)), x = p ++ q ∧ (∀ e ∈ p, e.1 < t) ∧ (∀ e ∈ q, t ≤ e.1) ∧
      slices_BinarySearchFunc_api_Edge_api_Edge_byte x t = some ((p.length : Int), (q.head?.map (·.1)) == some t) := by
  obtain ⟨m, b, h, hm, h1, h2, hb⟩ := bs_loop (t := t) hs.1 hx FUEL 0 x.length (by omega) (by omega) (fun k _ h => by omega) (fun k h h' => by omega) (by show _ < 2 ^ 64; omega)
  refine ⟨x.take m, x.drop m, (List.take_append_drop m x).symm, ?_, ?_, ?_⟩
  · intro e he
    obtain ⟨k, hk, rfl⟩ := List.getElem_of_mem he
    simp only [List.length_take] at hk
    rw [List.getElem_take]; exact h1 k _ (by omega)
  · intro e he
    obtain ⟨k, hk, rfl⟩ := List.getElem_of_mem he
    rw [List.getElem_drop]; exact h2 (m + k) _ (by omega)
  · unfold slices_BinarySearchFunc_api_Edge_api_Edge_byte
    have h : fixN (slices_BinarySearchFunc_api_Edge_api_Edge_byte_L1 x t) FUEL (0, (x.length : Int)) = some ((m : Int), b) := h
    rw [h, List.length_take, Nat.min_eq_left hm]
    congr 2
    rw [Bool.eq_iff_iff, hb, beq_iff_eq, List.head?_drop]
    by_cases hl : m < x.length
    · rw [List.getElem?_eq_getElem hl]; simp [hl]
    · rw [List.getElem?_eq_none (by omega)]; simp [hl]
theorem bs3_eq : slices_BinarySearchFunc_api_Edge_api_Edge_byte_s3 = slices_BinarySearchFunc_api_Edge_api_Edge_byte := rfl
theorem to3_eq : dfa_to_s3 = dfa_to := rfl

/-- where an edge of a node leads -/
theorem to_ok {d : Int × List Nd × Int × Int × List Int} {i : Int} (b : Int) (h0 : 0 ≤ i) (hi : i < d.2.1.length) (hr : Rise (nx d.2.1 i)) (hl : (nx d.2.1 i).length < 1048576) :
    (∃ e ∈ nx d.2.1 i, e.1 = b ∧ dfa_to d i b = some e.2) ∨ ((∀ e ∈ nx d.2.1 i, e.1 ≠ b) ∧ dfa_to d i b = some (-1)) := by
  obtain ⟨p, q, hx, hp, hq, h⟩ := bs_ok b hr hl
  unfold dfa_to
  rw [show (i == -1) = false by simp; omega, cond_false, idx_nd h0 hi]
  simp only [bind_s]
  rw [h, bind_s]
  cases q with
  | nil =>
    refine .inr ⟨fun e he => ?_, rfl⟩
    rw [hx] at he
    have := hp e (by simpa using he); omega
  | cons e q =>
    by_cases hb : e.1 = b
    · refine .inl ⟨e, by rw [hx]; simp, hb, ?_⟩
      simp only [List.head?_cons, Option.map_some, hb, beq_self_eq_true, Bool.not_true, cond_false]
      rw [idx_mid hx]; rfl
    · refine .inr ⟨fun x he => ?_, ?_⟩
      · rw [hx] at he hr
        rcases List.mem_append.1 he with he | he
        · have := hp x he; omega
        · rcases List.mem_cons.1 he with rfl | he'
          · exact hb
          · have h1 := (List.pairwise_cons.1 (List.pairwise_append.1 hr.1).2.1).1 x he'
            have h2 := hq e (by simp)
            omega
      · have : ((List.head? (e :: q)).map (·.1) == some b) = false := by simp [hb]
        rw [this]; rfl
theorem to_none (d : Int × List Nd × Int × Int × List Int) (b : Int) : dfa_to d (-1) b = some (-1) := rfl

theorem eq_loop {s1 s2 : List (Int × Int)} (hl : s1.length = s2.length) (hb : s1.length < 1048576) : ∀ (n k : Nat), k ≤ s1.length → s1.length - k < n →
    fixN (slices_Equal_api_Edge_api_Edge_L1 s1 s2) n (k : Int) = some (decide (s1.drop k = s2.drop k))
  | 0, _, _, h => by omega
  | n + 1, k, hk, hn => by
    rw [fixN_succ]
    unfold slices_Equal_api_Edge_api_Edge_L1
    by_cases h : k < s1.length
    · rw [show decide ((k : Int) < (List.length s1 : Int)) = true by simpa using h, cond_true, idx_lt h, idx_lt (hl ▸ h)]
      simp only [bind_s]
      rw [next_ix (by omega), List.drop_eq_getElem_cons h, List.drop_eq_getElem_cons (show k < s2.length from hl ▸ h)]
      unfold eqT69
      by_cases e : s1[k] = s2[k]'(hl ▸ h)
      · rw [← e]
        simp only [beq_self_eq_true, Bool.and_self, Bool.not_true, cond_false, List.cons.injEq, true_and]
        exact eq_loop hl hb n (k + 1) (by omega) (by omega)
      · have : (s1[k].1 == (s2[k]'(hl ▸ h)).1 && s1[k].2 == (s2[k]'(hl ▸ h)).2) = false := by
          rw [Bool.eq_false_iff]; intro h'
          simp only [Bool.and_eq_true, beq_iff_eq] at h'
          exact e (Prod.ext h'.1 h'.2)
        rw [this]
        simp only [Bool.not_false, cond_true, Option.some.injEq]
        symm; rw [decide_eq_false_iff_not]
        intro h'; exact e (List.cons.inj h').1
    · rw [show decide ((k : Int) < (List.length s1 : Int)) = false by simpa using h, cond_false, List.drop_eq_nil_of_le (by omega), List.drop_eq_nil_of_le (by omega)]; rfl
theorem eq_ok {s1 s2 : List (Int × Int)} (hb : s1.length < 1048576) : slices_Equal_api_Edge_api_Edge s1 s2 = some (decide (s1 = s2)) := by
  unfold slices_Equal_api_Edge_api_Edge
  by_cases hl : s1.length = s2.length
  · rw [show ((List.length s1 : Int) != (List.length s2 : Int)) = false by simp [hl], cond_false]
    exact eq_loop hl hb FUEL 0 (by omega) (by show _ < 2 ^ 64; omega)
  · have : s1 ≠ s2 := fun e => hl (by rw [e])
    rw [show ((List.length s1 : Int) != (List.length s2 : Int)) = true by simp only [bne_iff_ne, ne_eq]; omega, cond_true]
    simp [this]

/-- a live node of these edges -/
theorem same_loop {N : List Nd} {A : List Int} {y : List (Int × Bool)} {next : List (Int × Int)} (hv : ∀ i : Int, 0 ≤ i → i < N.length → ((0 < rf N i ∨ mgetD (some y) i false = true) ↔ i ∈ A)) (hb : ∀ i ∈ A, (nx N i).length < 1048576) (hN : N.length < 1048576) : ∀ (n k : Nat), k ≤ N.length → N.length - k < n →
    (∃ i : Int, fixN (dfa_work_same_L1 next N (some y)) n (k : Int) = some (i, true) ∧ i ∈ A ∧ 0 ≤ i ∧ i < N.length ∧ nx N i = next) ∨
    (fixN (dfa_work_same_L1 next N (some y)) n (k : Int) = some (-1, false) ∧ ∀ i ∈ A, (k : Int) ≤ i → i < N.length → nx N i ≠ next)
  | 0, _, _, h => by omega
  | n + 1, k, hk, hn => by
    rw [fixN_succ]
    unfold dfa_work_same_L1
    by_cases h : k < N.length
    · rw [show decide ((k : Int) < (List.length N : Int)) = true by simpa using h, cond_true, idx_nd (by omega) (by omega)]
      simp only [bind_s, letv_e]
      rw [next_ix (by omega)]
      have ih := same_loop (next := next) hv hb hN n (k + 1) (by omega) (by omega)
      have hk' := hv (k : Int) (by omega) (by omega)
      have go : (∀ x : Int, x ∈ A → x = (k : Int) → nx N x ≠ next) → (∃ i : Int, fixN (dfa_work_same_L1 next N (some y)) n ((k + 1 : Nat) : Int) = some (i, true) ∧ i ∈ A ∧ 0 ≤ i ∧ i < N.length ∧ nx N i = next) ∨
          (fixN (dfa_work_same_L1 next N (some y)) n ((k + 1 : Nat) : Int) = some (-1, false) ∧ ∀ i ∈ A, (k : Int) ≤ i → i < N.length → nx N i ≠ next) := by
        intro hne
        rcases ih with h | ⟨h1, h2⟩
        · exact .inl h
        · exact .inr ⟨h1, fun i hi hki hiN => by
            by_cases e : i = (k : Int)
            · exact hne i hi e
            · exact h2 i hi (by omega) hiN⟩
      by_cases ha : (k : Int) ∈ A
      · have : (decide (0 < rf N (k : Int)) || mgetD (some y) (k : Int) false) = true := by simpa using hk'.2 ha
        rw [this, callG_tt, eq_ok (hb _ ha), bind_s]
        by_cases he : nx N (k : Int) = next
        · left
          exact ⟨(k : Int), by simp [he], ha, by omega, by omega, he⟩
        · simp only [he, decide_false, Bool.and_false, cond_false]
          exact go fun x _ e => by rw [e]; exact he
      · have : (decide (0 < rf N (k : Int)) || mgetD (some y) (k : Int) false) = false := by
          rw [Bool.eq_false_iff]; intro h'; exact ha (hk'.1 (by simpa using h'))
        rw [this, callG_ff]
        simp only [Bool.false_and, cond_false]
        exact go fun x hx e => absurd (e ▸ hx) ha
    · rw [show decide ((k : Int) < (List.length N : Int)) = false by simpa using h, cond_false]
      exact .inr ⟨rfl, fun i _ h1 h2 => by omega⟩
end Df
end Go.Proofs.Ytjappdgehmjomaa
