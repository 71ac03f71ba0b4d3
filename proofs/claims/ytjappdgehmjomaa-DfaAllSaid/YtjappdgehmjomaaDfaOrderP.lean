/-
  DfaOrder, plainly. (own)
-/
import Derived.Test.YtjappdgehmjomaaDfaSize
namespace Go.Proofs.Ytjappdgehmjomaa
namespace Df

/-- sets of the same words are the same -/
theorem same_words {d1 d2 : D} {W : Nat} {L1 L2 : List (List Int)} {A1 A2 : List Int} (I1 : Is d1 W L1 A1) (I2 : Is d2 W L2 A2) (hL : L1.length < 100) (h : ∀ v, v ∈ L1 ↔ v ∈ L2) : L1 = L2 ∧ dfa_Size d1 = dfa_Size d2 := by
  have e := sor_eq I1.sor I2.sor h
  subst e
  refine ⟨rfl, ?_⟩
  rw [size_ok I1.good, size_ok I2.good]
  have h1 := refsize_ok I1 hL
  rw [refsize_ok I2 hL] at h1
  exact h1.symm
/-- inserting a word of its length -/
theorem insW_ok {d : D} {W : Nat} {L : List (List Int)} {A : List Int} (I : Is d W L A) (hm : L.length < 4000) {w : List Int} (hb : By w) (hw : w.length = W) :
    ∃ d' b L' A', dfa_Insert d w = some (d', b, 0) ∧ Is d' W L' A' ∧ L'.length ≤ L.length + 1 ∧ ∀ v, v ∈ L' ↔ v = w ∨ v ∈ L := by
  have hW := I.good.w1
  rcases insL_ok I hm hb (by omega) with ⟨h, _⟩ | ⟨_, hm, h⟩ | ⟨_, hm, d', A', h, I'⟩
  · exact absurd hw h
  · exact ⟨d, false, L, A, h, I, by omega, fun v => ⟨.inr, fun h => by rcases h with rfl | h; exact hm; exact h⟩⟩
  · exact ⟨d', true, _, A', h, I', by rw [insW_len]; omega, fun v => insW_mem⟩

theorem letv_p {α ρ : Type} (x : α) (k : α → Option ρ) : letv x k = k x := id rfl
theorem callG_p {α ρ : Type} (d : α) (m : Option α) (k : α → Option ρ) : callG true d m k = m.bind k := id rfl
theorem bind_p {α ρ : Type} (x : α) (k : α → Option ρ) : (some x).bind k = k x := id rfl
theorem order_end {l m : List (List Int)} {r41 : D × Int} (h41 : r41.2 = 0) {d1 d2 : D} {W : Nat} {L1 L2 : List (List Int)} {A1 A2 : List Int} (I1 : Is d1 W L1 A1) (I2 : Is d2 W L2 A2) (hL : L1.length < 100) (h : ∀ v, v ∈ L1 ↔ v ∈ L2) {i : Int} (hi : decide (i < (l.length : Int)) = false) (g : (Int × List Nd × Int × Int × List Int × Int × List Nd × Int × Int × List Int × Int) → Option Bool) :
    scrutinylaw09_DfaOrder_L3 l true r41 m g (d1.1, d1.2.1, d1.2.2.1, d1.2.2.2.1, d1.2.2.2.2, d2.1, d2.2.1, d2.2.2.1, d2.2.2.2.1, d2.2.2.2.2, i) = some true := by
  obtain ⟨rfl, hs⟩ := same_words I1 I2 hL h
  unfold scrutinylaw09_DfaOrder_L3
  dsimp only
  rw [hi, cond_false]
  rw [show (d1.1, d1.2.1, d1.2.2.1, d1.2.2.2.1, d1.2.2.2.2) = d1 from rfl, show (d2.1, d2.2.1, d2.2.2.1, d2.2.2.2.1, d2.2.2.2.2) = d2 from rfl]
  have w1 := words_ok I1
  have w2 := words_ok I2
  have y1 := many_ok I1
  have y2 := many_ok I2
  have z2 := size_ok I2.good
  have rr := rows_refl (show L1.length < 1048576 by omega)
  rw [z2] at hs
  generalize dfa_Words d1 = q1 at w1 ⊢
  generalize dfa_Words d2 = q2 at w2 ⊢
  generalize dfa_Many d1 = q3 at y1 ⊢
  generalize dfa_Many d2 = q4 at y2 ⊢
  generalize dfa_Size d1 = q5 at hs ⊢
  generalize dfa_Size d2 = q6 at z2 ⊢
  generalize scrutinyref04_Rows = ro at rr ⊢
  subst w1 w2 y1 y2 hs z2
  simp only [letv_p, h41, beq_self_eq_true, Bool.true_and, callG_p, bind_p, rr]
theorem order_loop {l m : List (List Int)} {W : Nat} {r41 : D × Int} (h41 : r41.2 = 0) (hl : l.length ≤ 40) (hW : 1 ≤ W ∧ W ≤ 64) (bl : ∀ v ∈ l, v.length = W ∧ By v) (hm : m.length = l.length) (mm : ∀ v, v ∈ m ↔ v ∈ l) : ∀ (q q2 p p2 : List (List Int)), l = p ++ q → m = p2 ++ q2 → p.length = p2.length → ∀ (d1 d2 : D) (L1 L2 : List (List Int)) (A1 A2 : List Int), Is d1 W L1 A1 → Is d2 W L2 A2 → L1.length ≤ p.length → L2.length ≤ p.length → (∀ v, v ∈ L1 ↔ v ∈ p) → (∀ v, v ∈ L2 ↔ v ∈ p2) → ∀ n, q.length < n →
    fixN (scrutinylaw09_DfaOrder_L3 l true r41 m) n (d1.1, d1.2.1, d1.2.2.1, d1.2.2.2.1, d1.2.2.2.2, d2.1, d2.2.1, d2.2.2.1, d2.2.2.2.1, d2.2.2.2.2, (p.length : Int)) = some true
  | [], q2, p, p2, h, h2, hp, d1, d2, L1, L2, A1, A2, I1, I2, hL1, hL2, m1, m2, n, hn => by
    obtain ⟨n, rfl⟩ : ∃ k, n = k + 1 := ⟨n - 1, by simp at hn; omega⟩
    rw [fixN_succ]
    have e1 : l = p := by simpa using h
    have e2 : q2 = [] := by
      have := congrArg List.length h2
      have := congrArg List.length h
      simp at *
      exact List.length_eq_zero_iff.1 (by omega)
    subst e2
    have e2 : m = p2 := by simpa using h2
    exact order_end h41 I1 I2 (by rw [e1] at hl; omega) (fun v => by rw [m1, m2, ← e1, ← e2, mm]) (lt_f h) _
  | v :: q, [], p, p2, h, h2, hp, _, _, _, _, _, _, _, _, _, _, _, _, _, _ => by
    have h1 := congrArg List.length h2
    have h3 := congrArg List.length h
    simp at h1 h3; omega
  | v :: q, v2 :: q2, p, p2, h, h2, hp, d1, d2, L1, L2, A1, A2, I1, I2, hL1, hL2, m1, m2, n, hn => by
    obtain ⟨n, rfl⟩ : ∃ k, n = k + 1 := ⟨n - 1, by simp at hn; omega⟩
    rw [fixN_succ]
    have hpl : p.length + 1 ≤ 40 := by rw [h] at hl; simp at hl; omega
    have b1 := bl v (by rw [h]; simp)
    have b2 := bl v2 ((mm v2).1 (by rw [h2]; simp))
    obtain ⟨e1, f1, L1', A1', g1, J1, k1, n1⟩ := insW_ok I1 (by omega) b1.2 b1.1
    obtain ⟨e2, f2, L2', A2', g2, J2, k2, n2⟩ := insW_ok I2 (by omega) b2.2 b2.1
    have ih := order_loop h41 hl hW bl hm mm q q2 (p ++ [v]) (p2 ++ [v2]) (by rw [h]; simp) (by rw [h2]; simp) (by simp [hp]) e1 e2 L1' L2' A1' A2' J1 J2 (by simp; omega) (by simp; omega)
      (fun x => by rw [n1, m1]; simp [or_comm]) (fun x => by rw [n2, m2]; simp [or_comm]) n (by simp at hn; omega)
    generalize fixN (scrutinylaw09_DfaOrder_L3 l true r41 m) n = g at ih ⊢
    rw [show ((p ++ [v]).length : Int) = ((p.length + 1 : Nat) : Int) by simp] at ih
    unfold scrutinylaw09_DfaOrder_L3
    dsimp only
    rw [lt_t h, cond_true, idx_mid h, hp, idx_mid h2]
    simp only [bind_s]
    rw [show (d1.1, d1.2.1, d1.2.2.1, d1.2.2.2.1, d1.2.2.2.2) = d1 from rfl, show (d2.1, d2.2.1, d2.2.2.1, d2.2.2.2.1, d2.2.2.2.2) = d2 from rfl, g1, g2]
    simp only [bind_s, letv_e, bne_self_eq_false, Bool.or_self, cond_false]
    rw [next_ix (by omega), ← hp]
    exact ih
theorem swaps_loop {l : List (List Int)} {W : Nat} {swaps : List Int} (hl : 1 ≤ l.length ∧ l.length ≤ 40) (hs : swaps.length ≤ 80) (bs : By swaps) (hW : 1 ≤ W ∧ W ≤ 64) (bl : ∀ v ∈ l, v.length = W ∧ By v) : ∀ (q p : List Int), swaps = p ++ q → ∀ m : List (List Int), m.Perm l → ∀ n, q.length < n →
    fixN (scrutinylaw09_DfaOrder_L2 l swaps true (((W : Int), [], -1, 0, []), 0) (((W : Int), [], -1, 0, []), 0)) n (m, (p.length : Int)) = some true
  | [], p, h, m, pm, n, hn => by
    obtain ⟨n, rfl⟩ : ∃ k, n = k + 1 := ⟨n - 1, by simp at hn; omega⟩
    rw [fixN_succ]
    generalize fixN (scrutinylaw09_DfaOrder_L2 l swaps true (((W : Int), [], -1, 0, []), 0) (((W : Int), [], -1, 0, []), 0)) n = g
    have r := order_loop (r41 := (((W : Int), [], -1, 0, []), 0)) rfl hl.2 hW bl pm.length_eq (fun v => pm.mem_iff) l m [] [] rfl rfl rfl ((W : Int), [], -1, 0, []) ((W : Int), [], -1, 0, []) [] [] [] [] (new_is hW) (new_is hW) (by simp) (by simp) (by simp) (by simp) FUEL (fuel_lt (by omega))
    rw [show ((List.length ([] : List (List Int)) : Nat) : Int) = 0 from rfl] at r
    unfold scrutinylaw09_DfaOrder_L2
    dsimp only
    rw [lt_f h, cond_false]
    dsimp only at r
    rw [r]
  | x :: q, p, h, m, pm, n, hn => by
    obtain ⟨n, rfl⟩ : ∃ k, n = k + 1 := ⟨n - 1, by simp at hn; omega⟩
    rw [fixN_succ]
    have hpl : p.length < 100 := by rw [h] at hs; simp at hs; omega
    have hx := bs x (by rw [h]; simp)
    have hml := pm.length_eq
    have i1 : 0 ≤ Int.tmod (p.length : Int) (m.length : Int) ∧ Int.tmod (p.length : Int) (m.length : Int) < m.length := ⟨Int.tmod_nonneg _ (by omega), Int.tmod_lt_of_pos _ (by omega)⟩
    have i2 : 0 ≤ Int.tmod x (m.length : Int) ∧ Int.tmod x (m.length : Int) < m.length := ⟨Int.tmod_nonneg _ (by omega), Int.tmod_lt_of_pos _ (by omega)⟩
    obtain ⟨a, ha⟩ := Int.eq_ofNat_of_zero_le i1.1
    obtain ⟨b, hb⟩ := Int.eq_ofNat_of_zero_le i2.1
    have ha' : a < m.length := by omega
    have hb' : b < m.length := by omega
    have ih := fun m pm => swaps_loop hl hs bs hW bl q (p ++ [x]) (by rw [h]; simp) m pm n (by simp at hn; omega)
    generalize fixN (scrutinylaw09_DfaOrder_L2 l swaps true (((W : Int), [], -1, 0, []), 0) (((W : Int), [], -1, 0, []), 0)) n = g at ih ⊢
    rw [show ((p ++ [x]).length : Int) = ((p.length + 1 : Nat) : Int) by simp] at ih
    unfold scrutinylaw09_DfaOrder_L2
    dsimp only
    rw [lt_t h, cond_true, idx_mid h]
    simp only [bind_s]
    rw [w64 (x := x) (by omega), show ((m.length : Int) != 0) = true by simp only [bne_iff_ne, ne_eq]; omega, chk_t, chk_t, ha, hb, idx_lt ha', idx_lt hb']
    simp only [bind_s, Int.toNat_natCast]
    obtain ⟨z, hz⟩ : ∃ z, idx (m.set b m[a]) (a : Int) = some z := idx_in (xs := m.set b m[a]) (by omega) (by rw [List.length_set]; omega)
    rw [hz, bind_s, next_ix (by omega)]
    exact ih _ ((List.set_set_perm hb' ha').trans pm)
theorem lens_check {l : List (List Int)} {swaps e17 : List Int} (hl : 1 ≤ l.length ∧ l.length ≤ 40) (hs : swaps.length ≤ 80) (bs : By swaps) (bl : ∀ v ∈ l, By v) (h0 : e17 ∈ l) : ∀ (q p : List (List Int)), l = p ++ q → (∀ v ∈ p, v.length = e17.length) → ∀ n, q.length < n →
    fixN (scrutinylaw09_DfaOrder_L1 l swaps true e17) n (p.length : Int) = some true
  | [], p, h, hp, n, hn => by
    obtain ⟨n, rfl⟩ : ∃ k, n = k + 1 := ⟨n - 1, by simp at hn; omega⟩
    rw [fixN_succ]
    generalize fixN (scrutinylaw09_DfaOrder_L1 l swaps true e17) n = g
    unfold scrutinylaw09_DfaOrder_L1
    rw [lt_f h, cond_false]
    simp only [letv_e]
    have e1 : l = p := by simpa using h
    by_cases h2 : e17.length < 1 ∨ 8 < e17.length
    · have : (decide ((e17.length : Int) < 1) || decide (8 < (e17.length : Int))) = true := by
        simp only [Bool.or_eq_true, decide_eq_true_eq]; omega
      rw [this, cond_true]
    · have : (decide ((e17.length : Int) < 1) || decide (8 < (e17.length : Int))) = false := by
        simp only [Bool.or_eq_false_iff, decide_eq_false_iff_not]; omega
      have hW : 1 ≤ e17.length ∧ e17.length ≤ 64 := by omega
      rw [this, cond_false, new_ok hW]
      simp only [bind_s, List.nil_append]
      have r := swaps_loop hl hs bs hW (fun v hv => ⟨hp v (e1 ▸ hv), bl v hv⟩) swaps [] rfl l (.refl l) FUEL (fuel_lt (by omega))
      rw [show ((List.length ([] : List Int) : Nat) : Int) = 0 from rfl] at r
      rw [room_t (by simp; omega) (by simp; omega), chk_t, r]
  | v :: q, p, h, hp, n, hn => by
    obtain ⟨n, rfl⟩ : ∃ k, n = k + 1 := ⟨n - 1, by simp at hn; omega⟩
    rw [fixN_succ]
    have hpl : p.length + 1 ≤ 40 := by have := hl.2; rw [h] at this; simp at this; omega
    have ih := fun hp => lens_check hl hs bs bl h0 q (p ++ [v]) (by rw [h]; simp) hp n (by simp at hn; omega)
    generalize fixN (scrutinylaw09_DfaOrder_L1 l swaps true e17) n = g at ih ⊢
    rw [show ((p ++ [v]).length : Int) = ((p.length + 1 : Nat) : Int) by simp] at ih
    unfold scrutinylaw09_DfaOrder_L1
    rw [lt_t h, cond_true, idx_mid h]
    simp only [bind_s]
    by_cases hv : v.length = e17.length
    · rw [show ((v.length : Int) != (e17.length : Int)) = false by simp [hv], cond_false, next_ix (by omega)]
      refine ih fun x hx => ?_
      rcases List.mem_append.1 hx with hx | hx
      · exact hp x hx
      · simp at hx; rw [hx]; exact hv
    · rw [show ((v.length : Int) != (e17.length : Int)) = true by simp only [bne_iff_ne, ne_eq]; omega, cond_true]
theorem order_true (l : List (List Int)) (swaps : List Int) (bl : ∀ v ∈ l, By v) (bs : By swaps) : scrutinylaw09_DfaOrder l swaps = some true := by
  unfold scrutinylaw09_DfaOrder
  rw [shown_true]
  simp only [bind_s, letv_e]
  by_cases h : l.length < 1 ∨ 40 < l.length ∨ 80 < swaps.length
  · have : ((decide ((l.length : Int) < 1) || decide (40 < (l.length : Int))) || decide (80 < (swaps.length : Int))) = true := by
      simp only [Bool.or_eq_true, decide_eq_true_eq]; omega
    rw [this, cond_true]
  · have : ((decide ((l.length : Int) < 1) || decide (40 < (l.length : Int))) || decide (80 < (swaps.length : Int))) = false := by
      simp only [Bool.or_eq_false_iff, decide_eq_false_iff_not]; omega
    rw [this, cond_false, show (0 : Int) = ((0 : Nat) : Int) from rfl, idx_lt (by omega)]
    simp only [bind_s]
    have r := lens_check (e17 := l[0]'(by omega)) (swaps := swaps) (by omega) (by omega) bs bl (List.getElem_mem _) l [] rfl (by simp) FUEL (fuel_lt (by omega))
    rw [show ((List.length ([] : List (List Int)) : Nat) : Int) = ((0 : Nat) : Int) from rfl] at r
    rw [r]
end Df
end Go.Proofs.Ytjappdgehmjomaa
