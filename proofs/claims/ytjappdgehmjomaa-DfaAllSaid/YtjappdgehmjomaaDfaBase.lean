/-
  Plain lemmas for the automaton of words: indices, rows, the heap of free nodes. (own)
-/
import Derived.Test.YtjappdgehmjomaaModel
namespace Go.Proofs.Ytjappdgehmjomaa
namespace Df

theorem bind_s {α ρ : Type} (x : α) (k : α → Option ρ) : (some x).bind k = k x := rfl
theorem letv_e {α ρ : Type} (x : α) (k : α → Option ρ) : letv x k = k x := rfl
theorem chk_t {ρ : Type} (k : Option ρ) : chk true k = k := rfl
theorem callG_tt {α ρ : Type} (d : α) (m : Option α) (k : α → Option ρ) : callG true d m k = m.bind k := rfl
theorem callG_ff {α ρ : Type} (d : α) (m : Option α) (k : α → Option ρ) : callG false d m k = k d := rfl
theorem idx_nat {α : Type} (xs : List α) (k : Nat) : idx xs (k : Int) = xs[k]? := by simp [idx]
theorem idx_lt {α : Type} {xs : List α} {k : Nat} (h : k < xs.length) : idx xs (k : Int) = some xs[k] := by rw [idx_nat, List.getElem?_eq_getElem h]
theorem idx_in {α : Type} {xs : List α} {i : Int} (h0 : 0 ≤ i) (h : i < xs.length) : ∃ x, idx xs i = some x := by
  obtain ⟨k, rfl⟩ := Int.eq_ofNat_of_zero_le h0
  exact ⟨_, idx_lt (by omega)⟩
theorem idx_mid {α : Type} {l pre r : List α} {x : α} (h : l = pre ++ x :: r) : idx l (pre.length : Int) = some x := by subst h; simp [idx]
theorem idx_set {α : Type} {xs : List α} {i j : Int} {x : α} (h0 : 0 ≤ i) (hi : i < xs.length) : idx (xs.set i.toNat x) j = if j = i then some x else idx xs j := by
  unfold idx
  split
  · rw [List.getElem?_set]
    by_cases h : j = i
    · subst h; simp; omega
    · simp [h]; intro h'; omega
  · have : j ≠ i := by omega
    simp [this]
theorem lt_t {α : Type} {l pre r : List α} {x : α} (h : l = pre ++ x :: r) : decide ((pre.length : Int) < (List.length l : Int)) = true := by subst h; simp; omega
theorem lt_f {α : Type} {l pre : List α} (h : l = pre ++ []) : decide ((pre.length : Int) < (List.length l : Int)) = false := by subst h; simp
theorem next_ix {n : Nat} (h : n < 4611686018427387904) : IntKind.i64.wrap ((n : Int) + 1) = ((n + 1 : Nat) : Int) := by rw [w64 (by omega)]; omega
theorem room_t {k b : Nat} (h : k * b ≤ 140737488355328) (h2 : k ≤ 9223372036854775807) : roomB k b = true := by
  simp only [roomB, Bool.and_eq_true]; exact ⟨Nat.ble_eq_true_of_le h, Nat.ble_eq_true_of_le h2⟩

/-! rows -/
theorem len_le {α : Type} {l m : List α} (hl : l.Nodup) (h : ∀ x ∈ l, x ∈ m) : l.length ≤ m.length := by
  classical
  induction l generalizing m with
  | nil => simp
  | cons x l ih =>
    have hx := h x (by simp)
    have hn := List.nodup_cons.1 hl
    obtain ⟨s, t, rfl⟩ := List.append_of_mem hx
    have := ih (m := s ++ t) hn.2 fun y hy => by
      have := h y (by simp [hy])
      simp only [List.mem_append, List.mem_cons] at this ⊢
      rcases this with h | rfl | h
      · exact .inl h
      · exact absurd hy hn.1
      · exact .inr h
    simp at this ⊢; omega
theorem len_eq {α : Type} {l m : List α} (hl : l.Nodup) (hm : m.Nodup) (h : ∀ x, x ∈ l ↔ x ∈ m) : l.length = m.length :=
  Nat.le_antisymm (len_le hl fun x hx => (h x).1 hx) (len_le hm fun x hx => (h x).2 hx)
/-- rising rows with the same members -/
theorem rise_eq {α : Type} {R : α → α → Prop} (irr : ∀ a, ¬ R a a) (as : ∀ a b, R a b → ¬ R b a) : ∀ {l m : List α}, l.Pairwise R → m.Pairwise R → (∀ x, x ∈ l ↔ x ∈ m) → l = m
  | [], [], _, _, _ => rfl
  | [], y :: m, _, _, h => absurd ((h y).2 (by simp)) (by simp)
  | x :: l, [], _, _, h => absurd ((h x).1 (by simp)) (by simp)
  | x :: l, y :: m, hl, hm, h => by
    have hl' := List.pairwise_cons.1 hl
    have hm' := List.pairwise_cons.1 hm
    have hxy : x = y := by
      rcases List.mem_cons.1 ((h x).1 (by simp)) with e | hx
      · exact e
      · rcases List.mem_cons.1 ((h y).2 (by simp)) with e | hy
        · exact e.symm
        · exact absurd (hl'.1 y hy) (as _ _ (hm'.1 x hx))
    subst hxy
    have : l = m := rise_eq irr as hl'.2 hm'.2 fun z => by
      have := h z
      simp only [List.mem_cons] at this
      constructor
      · intro hz
        rcases this.1 (.inr hz) with rfl | h
        · exact absurd (hl'.1 z hz) (irr z)
        · exact h
      · intro hz
        rcases this.2 (.inr hz) with rfl | h
        · exact absurd (hm'.1 z hz) (irr z)
        · exact h
    rw [this]

/-! the heap of free nodes: a row in some order -/
theorem swap_ok {h : List Int} {i j : Int} (hi0 : 0 ≤ i) (hi : i < h.length) (hj0 : 0 ≤ j) (hj : j < h.length) : ∃ h', dfa_numbers_Swap_s2 h i j = some h' ∧ h'.Perm h ∧ h'.length = h.length := by
  obtain ⟨i, rfl⟩ := Int.eq_ofNat_of_zero_le hi0
  obtain ⟨j, rfl⟩ := Int.eq_ofNat_of_zero_le hj0
  have hi' : i < h.length := by omega
  have hj' : j < h.length := by omega
  refine ⟨(h.set i h[j]).set j h[i], ?_, List.set_set_perm hi' hj', by simp⟩
  unfold dfa_numbers_Swap_s2
  rw [idx_lt hj', idx_lt hi']
  simp only [bind_s, Int.toNat_natCast]
  obtain ⟨x, hx⟩ : ∃ x, idx (h.set i h[j]) (j : Int) = some x := idx_in (xs := h.set i h[j]) (i := (j : Int)) hj0 (by rw [List.length_set]; exact hj)
  rw [hx]; rfl
theorem less_ok {h : List Int} {i j : Int} (hi0 : 0 ≤ i) (hi : i < h.length) (hj0 : 0 ≤ j) (hj : j < h.length) : ∃ b, dfa_numbers_Less_s2 h i j = some b := by
  unfold dfa_numbers_Less_s2
  obtain ⟨x, hx⟩ := idx_in hi0 hi
  obtain ⟨y, hy⟩ := idx_in hj0 hj
  rw [hx, hy]; exact ⟨_, rfl⟩
theorem up_ok : ∀ (n : Nat) (l : List Int) (j : Nat), j < l.length → l.length < 4611686018427387904 → j < n → ∃ l', fixN container_heap_up_s2_L1 n (l, (j : Int)) = some l' ∧ l'.Perm l
  | 0, _, _, _, _, h => by omega
  | n + 1, l, j, hj, hl, hn => by
    rw [fixN_succ]
    unfold container_heap_up_s2_L1
    simp only [letv_e]
    rw [w64 (x := (j : Int) - 1) (by omega)]
    by_cases h0 : j = 0
    · subst h0
      refine ⟨l, ?_, .refl _⟩
      rfl
    · have hi : IntKind.i64.wrap (Int.tdiv ((j : Int) - 1) 2) = (((j - 1) / 2 : Nat) : Int) := by
        rw [show (j : Int) - 1 = ((j - 1 : Nat) : Int) by omega]
        rw [show Int.tdiv ((j - 1 : Nat) : Int) 2 = (((j - 1) / 2 : Nat) : Int) from rfl]
        exact w64 (by omega)
      rw [hi]
      have hne : ((((j - 1) / 2 : Nat) : Int) == (j : Int)) = false := by simp; omega
      rw [hne]
      obtain ⟨b, hb⟩ := less_ok (h := l) (i := (j : Int)) (j := (((j - 1) / 2 : Nat) : Int)) (by omega) (by omega) (by omega) (by omega)
      simp only [Bool.not_false, callG_tt, hb, bind_s, Bool.false_or]
      cases b
      · exact ⟨l, rfl, .refl _⟩
      · obtain ⟨l1, h1, p1, e1⟩ := swap_ok (h := l) (i := (((j - 1) / 2 : Nat) : Int)) (j := (j : Int)) (by omega) (by omega) (by omega) (by omega)
        obtain ⟨l2, h2, p2⟩ := up_ok n l1 ((j - 1) / 2) (by omega) (by omega) (by omega)
        refine ⟨l2, ?_, p2.trans p1⟩
        simp only [Bool.not_true, cond_false, h1, bind_s]
        exact h2
theorem push_ok {h : List Int} (x : Int) (hl : h.length < 1048576) : ∃ h', container_heap_Push x h = some h' ∧ h'.Perm (x :: h) := by
  unfold container_heap_Push dfa_numbers_Push dfa_numbers_Len_s2 container_heap_up_s2
  rw [room_t (by simp; omega) (by simp; omega)]
  simp only [chk_t, bind_s]
  rw [w64 (by simp; omega)]
  rw [show ((List.length (h ++ [x]) : Int) - 1) = (h.length : Int) by simp]
  obtain ⟨l, h1, p⟩ := up_ok FUEL (h ++ [x]) h.length (by simp) (by simp; omega) (by show _ < 2 ^ 64; omega)
  exact ⟨l, by rw [h1]; rfl, p.trans (List.perm_append_comm)⟩
theorem down_ok {i0 : Int} {m : Nat} : ∀ (n : Nat) (l : List Int) (i : Nat), m < l.length → l.length < 1048576 → i < l.length → l.length - i < n → ∃ b l', fixN (container_heap_down_L1 i0 (m : Int)) n (l, (i : Int)) = some (b, l') ∧ l'.Perm l ∧ l'[m]? = l[m]?
  | 0, _, _, _, _, _, h => by omega
  | n + 1, l, i, hm, hl, hi, hn => by
    rw [fixN_succ]
    unfold container_heap_down_L1
    simp only [letv_e]
    rw [w64 (x := 2 * (i : Int)) (by omega), w64 (x := 2 * (i : Int) + 1) (by omega), w64 (x := 2 * (i : Int) + 1 + 1) (by omega)]
    by_cases h1 : m ≤ 2 * i + 1
    · have : decide ((m : Int) ≤ 2 * (i : Int) + 1) = true := by simp; omega
      rw [this]
      exact ⟨_, l, rfl, .refl _, rfl⟩
    · have : decide ((m : Int) ≤ 2 * (i : Int) + 1) = false := by simp; omega
      rw [this]
      have : decide (2 * (i : Int) + 1 < 0) = false := by simp; omega
      rw [this]
      simp only [Bool.or_false, cond_false]
      have K : ∀ j : Nat, i < j → j < m → ∃ b l', container_heap_down_K2 i0 l (i : Int) (fixN (container_heap_down_L1 i0 (m : Int)) n) (j : Int) = some (b, l') ∧ l'.Perm l ∧ l'[m]? = l[m]? := by
        intro j hij hjm
        unfold container_heap_down_K2
        obtain ⟨b, hb⟩ := less_ok (h := l) (i := (j : Int)) (j := (i : Int)) (by omega) (by omega) (by omega) (by omega)
        rw [hb, bind_s]
        cases b
        · exact ⟨_, l, rfl, .refl _, rfl⟩
        · obtain ⟨l1, g1, p1, e1⟩ := swap_ok (h := l) (i := (i : Int)) (j := (j : Int)) (by omega) (by omega) (by omega) (by omega)
          have g0 := g1
          obtain ⟨b, l2, g2, p2, q2⟩ := down_ok (i0 := i0) (m := m) n l1 j (by omega) (by omega) (by omega) (by omega)
          refine ⟨b, l2, ?_, p2.trans p1, ?_⟩
          · simp only [Bool.not_true, cond_false, g1, bind_s]
            exact g2
          · rw [q2]
            unfold dfa_numbers_Swap_s2 at g0
            obtain ⟨x, _, g0⟩ := bind_some' g0
            obtain ⟨y, _, g0⟩ := bind_some' g0
            obtain ⟨z, _, g0⟩ := bind_some' g0
            obtain ⟨u, _, g0⟩ := bind_some' g0
            cases g0
            rw [List.getElem?_set_ne (show ((j : Nat) : Int).toNat ≠ m by omega), List.getElem?_set_ne (show ((i : Nat) : Int).toNat ≠ m by omega)]
      by_cases h2 : 2 * i + 2 < m
      · have : decide (2 * (i : Int) + 1 + 1 < (m : Int)) = true := by simp; omega
        rw [this]
        obtain ⟨b, hb⟩ := less_ok (h := l) (i := 2 * (i : Int) + 1 + 1) (j := 2 * (i : Int) + 1) (by omega) (by omega) (by omega) (by omega)
        simp only [callG_tt, hb, bind_s, Bool.true_and]
        cases b
        · exact K (2 * i + 1) (by omega) (by omega)
        · exact K (2 * i + 2) (by omega) (by omega)
      · have : decide (2 * (i : Int) + 1 + 1 < (m : Int)) = false := by simp; omega
        rw [this]
        simp only [callG_ff, Bool.false_and, cond_false]
        exact K (2 * i + 1) (by omega) (by omega)
theorem pop_ok {h : List Int} (h0 : h ≠ []) (hl : h.length < 1048576) : ∃ x h', container_heap_Pop h = some (x, h') ∧ (x :: h').Perm h := by
  have hp : 0 < h.length := List.length_pos_iff.2 h0
  unfold container_heap_Pop dfa_numbers_Len_s2
  rw [bind_s, w64 (by omega), show ((h.length : Int) - 1) = ((h.length - 1 : Nat) : Int) by omega]
  obtain ⟨l1, h1, p1, e1⟩ := swap_ok (h := h) (i := 0) (j := ((h.length - 1 : Nat) : Int)) (by omega) (by omega) (by omega) (by omega)
  rw [h1, bind_s]
  unfold container_heap_down
  obtain ⟨b, l2, h2, p2, _⟩ := down_ok (i0 := 0) (m := h.length - 1) FUEL l1 0 (by omega) (by omega) (by omega) (by show _ < 2 ^ 64; omega)
  have h2 : fixN (container_heap_down_L1 0 ((h.length - 1 : Nat) : Int)) FUEL (l1, 0) = some (b, l2) := h2
  rw [h2, bind_s]
  unfold dfa_numbers_Pop
  simp only []
  have hl2 : l2.length = h.length := by rw [p2.length_eq, e1]
  rw [w64 (by omega), show ((List.length l2 : Int) - 1) = ((l2.length - 1 : Nat) : Int) by omega, idx_lt (by omega)]
  simp only [bind_s]
  rw [cutB_iff.2 (by omega), chk_t]
  refine ⟨_, _, rfl, ?_⟩
  have : cutL l2 0 ((l2.length - 1 : Nat) : Int) = l2.take (l2.length - 1) := by simp [cutL]
  rw [this]
  refine List.Perm.trans ?_ (p2.trans p1)
  have e : l2 = l2.take (l2.length - 1) ++ [l2[l2.length - 1]'(by omega)] := by
    conv => lhs; rw [← List.take_append_drop (l2.length - 1) l2]
    congr 1
    rw [List.drop_eq_getElem_cons (by omega), List.drop_eq_nil_of_le (by omega)]
  conv => rhs; rw [e]
  exact (List.perm_append_comm (l₁ := [_]))
end Df
end Go.Proofs.Ytjappdgehmjomaa
