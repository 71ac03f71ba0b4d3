/-
  DfaTells, plainly. (own)
-/
import Derived.Test.YtjappdgehmjomaaDfaOrderP
import Derived.Test.YtjappdgehmjomaaDfaRisingP
namespace Go.Proofs.Ytjappdgehmjomaa
namespace Df

/-! the document's set -/
theorem rhas_loop {L : List (List Int)} {w : List Int} (hL : L.length < 100) (bL : ∀ v ∈ L, By v) (bw : By w) (s1 : Int) : ∀ (q p : List (List Int)), L = p ++ q → ∀ n, q.length < n →
    fixN (scrutinyref09_Has_L1 (s1, L) w) n (p.length : Int) = some (decide (w ∈ q))
  | [], p, h, n, hn => by
    obtain ⟨n, rfl⟩ : ∃ k, n = k + 1 := ⟨n - 1, by simp at hn; omega⟩
    rw [fixN_succ]
    generalize fixN (scrutinyref09_Has_L1 (s1, L) w) n = g
    unfold scrutinyref09_Has_L1
    dsimp only
    rw [lt_f h, cond_false]; simp
  | v :: q, p, h, n, hn => by
    obtain ⟨n, rfl⟩ : ∃ k, n = k + 1 := ⟨n - 1, by simp at hn; omega⟩
    rw [fixN_succ]
    have hp : p.length < 100 := by rw [h] at hL; simp at hL; omega
    have ih := rhas_loop hL bL bw s1 q (p ++ [v]) (by rw [h]; simp) n (by simp at hn; omega)
    generalize fixN (scrutinyref09_Has_L1 (s1, L) w) n = g at ih ⊢
    rw [show ((p ++ [v]).length : Int) = ((p.length + 1 : Nat) : Int) by simp] at ih
    unfold scrutinyref09_Has_L1
    dsimp only
    rw [lt_t h, cond_true, idx_mid h]
    simp only [bind_p]
    rw [strOf_eq (bL v (by rw [h]; simp)) bw, next_ix (by omega), ih]
    by_cases e : v = w
    · subst e; simp
    · rw [show decide (v = w) = false by simpa using e, cond_false]
      have : (w ∈ v :: q) ↔ w ∈ q := by simp [Ne.symm e]
      rw [decide_eq_decide.2 this]
theorem rhas_ok {L : List (List Int)} {w : List Int} (hL : L.length < 100) (bL : ∀ v ∈ L, By v) (bw : By w) (s1 : Int) : scrutinyref09_Has (s1, L) w = some (decide (w ∈ L)) := by
  have h := rhas_loop hL bL bw s1 L [] rfl FUEL (fuel_lt (by omega))
  rw [show ((List.length ([] : List (List Int)) : Nat) : Int) = 0 from rfl] at h
  unfold scrutinyref09_Has
  rw [h]
theorem rins_tail {L : List (List Int)} {w : List Int} (hL : L.length < 100) (s1 : Int) : ∀ (q p : List (List Int)), L = p ++ q → ∀ (o : List (List Int)), o.length ≤ p.length + 1 → ∀ n, q.length < n →
    fixN (scrutinyref09_Insert_L1 (s1, L) w) n (o, true, (p.length : Int)) = some ((s1, o ++ q), true, 0)
  | [], p, h, o, ho, n, hn => by
    obtain ⟨n, rfl⟩ : ∃ k, n = k + 1 := ⟨n - 1, by simp at hn; omega⟩
    rw [fixN_succ]
    generalize fixN (scrutinyref09_Insert_L1 (s1, L) w) n = g
    unfold scrutinyref09_Insert_L1
    dsimp only
    rw [lt_f h, cond_false]
    simp [scrutinyref09_Insert_K3]
  | v :: q, p, h, o, ho, n, hn => by
    obtain ⟨n, rfl⟩ : ∃ k, n = k + 1 := ⟨n - 1, by simp at hn; omega⟩
    rw [fixN_succ]
    have hp : p.length < 100 := by rw [h] at hL; simp at hL; omega
    have ih := rins_tail (w := w) hL s1 q (p ++ [v]) (by rw [h]; simp) (o ++ [v]) (by simp; omega) n (by simp at hn; omega)
    generalize fixN (scrutinyref09_Insert_L1 (s1, L) w) n = g at ih ⊢
    rw [show ((p ++ [v]).length : Int) = ((p.length + 1 : Nat) : Int) by simp, List.append_assoc, List.singleton_append] at ih
    unfold scrutinyref09_Insert_L1 scrutinyref09_Insert_K2
    dsimp only
    rw [lt_t h, cond_true, idx_mid h]
    simp only [letv_p, Bool.not_true, callG_ff, Bool.false_and, cond_false, bind_p]
    rw [room_t (by simp; omega) (by simp; omega), chk_t, next_ix (by omega), ih]
theorem insW_at {w : List Int} {p q : List (List Int)} (hp : ∀ v ∈ p, ltw v w = true) (hq : ∀ v ∈ q, ltw v w = false) : insW w (p ++ q) = p ++ w :: q := by
  have e1 : p.filter (fun v => ltw v w) = p := List.filter_eq_self.2 hp
  have e2 : q.filter (fun v => ltw v w) = [] := List.filter_eq_nil_iff.2 fun v hv => by rw [hq v hv]; simp
  have e3 : p.filter (fun v => !ltw v w) = [] := List.filter_eq_nil_iff.2 fun v hv => by rw [hp v hv]; simp
  have e4 : q.filter (fun v => !ltw v w) = q := List.filter_eq_self.2 fun v hv => by rw [hq v hv]; rfl
  unfold insW
  rw [List.filter_append, List.filter_append, e1, e2, e3, e4]
  simp
theorem rins_loop {L : List (List Int)} {w : List Int} (hL : L.length < 100) (sL : Sor L) (bL : ∀ v ∈ L, By v) (bw : By w) (lw : w.length ≤ 70) (hn : w ∉ L) (s1 : Int) : ∀ (q p : List (List Int)), L = p ++ q → (∀ v ∈ p, ltw v w = true) → ∀ n, q.length < n →
    fixN (scrutinyref09_Insert_L1 (s1, L) w) n (p, false, (p.length : Int)) = some ((s1, insW w L), true, 0)
  | [], p, h, hp, n, hm => by
    obtain ⟨n, rfl⟩ : ∃ k, n = k + 1 := ⟨n - 1, by simp at hm; omega⟩
    rw [fixN_succ]
    generalize fixN (scrutinyref09_Insert_L1 (s1, L) w) n = g
    have e : insW w L = p ++ [w] := by rw [h]; exact insW_at hp (by simp)
    have hpl : p.length < 100 := by rw [h] at hL; simpa using hL
    unfold scrutinyref09_Insert_L1 scrutinyref09_Insert_K3
    dsimp only
    rw [lt_f h, cond_false, Bool.not_false, cond_true, room_t (by simp; omega) (by simp; omega), chk_t, room_t (by simp; omega) (by simp; omega), chk_t, e]
    simp
  | v :: q, p, h, hp, n, hm => by
    obtain ⟨n, rfl⟩ : ∃ k, n = k + 1 := ⟨n - 1, by simp at hm; omega⟩
    rw [fixN_succ]
    have hpl : p.length < 100 := by rw [h] at hL; simp at hL; omega
    have bv := bL v (by rw [h]; simp)
    have sp := List.pairwise_append.1 (h ▸ sL)
    have sq := List.pairwise_cons.1 sp.2.1
    have hne : v ≠ w := fun e => hn (by rw [h, ← e]; simp)
    cases hlt : ltw w v
    · have hvw : ltw v w = true := by
        rcases ltw_tri v w with h | h | h
        · exact h
        · exact absurd h hne
        · rw [hlt] at h; cases h
      have ih := rins_loop hL sL bL bw lw hn s1 q (p ++ [v]) (by rw [h]; simp) (fun u hu => by
        rcases List.mem_append.1 hu with hu | hu
        · exact hp u hu
        · simp at hu; rw [hu]; exact hvw) n (by simp at hm; omega)
      generalize fixN (scrutinyref09_Insert_L1 (s1, L) w) n = g at ih ⊢
      rw [show ((p ++ [v]).length : Int) = ((p.length + 1 : Nat) : Int) by simp] at ih
      unfold scrutinyref09_Insert_L1 scrutinyref09_Insert_K2
      dsimp only
      rw [lt_t h, cond_true, idx_mid h]
      simp only [letv_p, Bool.not_false, callG_p, bind_p, Bool.true_and]
      rw [ltS_eq bw bv, hlt, cond_false, room_t (by simp; omega) (by simp; omega), chk_t, next_ix (by omega), ih]
    · have e : insW w L = p ++ w :: v :: q := by
        rw [h]
        refine insW_at hp fun u hu => ?_
        rw [← Bool.not_eq_true]
        rcases List.mem_cons.1 hu with rfl | hu
        · exact ltw_asymm hlt
        · exact ltw_asymm (ltw_trans hlt (sq.1 u hu))
      have ih := rins_tail (w := w) hL s1 q (p ++ [v]) (by rw [h]; simp) (p ++ [w] ++ [v]) (by simp) n (by simp at hm; omega)
      generalize fixN (scrutinyref09_Insert_L1 (s1, L) w) n = g at ih ⊢
      rw [show ((p ++ [v]).length : Int) = ((p.length + 1 : Nat) : Int) by simp] at ih
      unfold scrutinyref09_Insert_L1 scrutinyref09_Insert_K2
      dsimp only
      rw [lt_t h, cond_true, idx_mid h]
      simp only [letv_p, Bool.not_false, callG_p, bind_p, Bool.true_and]
      rw [ltS_eq bw bv, hlt, cond_true, room_t (by simp; omega) (by simp; omega), chk_t, room_t (by simp; omega) (by simp; omega), chk_t]
      simp only [List.nil_append]
      rw [room_t (by simp; omega) (by simp; omega), chk_t, next_ix (by omega), ih, e]
      simp
theorem rins_ok {L : List (List Int)} {w : List Int} {W : Nat} (hL : L.length < 100) (sL : Sor L) (bL : ∀ v ∈ L, By v) (bw : By w) (lw : w.length ≤ 70) :
    (w.length ≠ W ∧ scrutinyref09_Insert ((W : Int), L) w = some (((W : Int), L), false, 1)) ∨ (w.length = W ∧ w ∈ L ∧ scrutinyref09_Insert ((W : Int), L) w = some (((W : Int), L), false, 0)) ∨
    (w.length = W ∧ w ∉ L ∧ scrutinyref09_Insert ((W : Int), L) w = some (((W : Int), insW w L), true, 0)) := by
  unfold scrutinyref09_Insert
  dsimp only
  by_cases h : w.length = W
  · rw [show ((w.length : Int) != (W : Int)) = false by simp [h], cond_false, rhas_ok hL bL bw]
    simp only [bind_p]
    by_cases hm : w ∈ L
    · exact .inr (.inl ⟨h, hm, by simp [hm]⟩)
    · refine .inr (.inr ⟨h, hm, ?_⟩)
      rw [show decide (w ∈ L) = false by simpa using hm, cond_false]
      have r := rins_loop hL sL bL bw lw hm (W : Int) L [] rfl (by simp) FUEL (fuel_lt (by omega))
      rw [show ((List.length ([] : List (List Int)) : Nat) : Int) = 0 from rfl] at r
      rw [r]
  · exact .inl ⟨h, by rw [show ((w.length : Int) != (W : Int)) = true by simp only [bne_iff_ne, ne_eq]; omega, cond_true]⟩

theorem few_loop {l : List (List Int)} (hl : l.length ≤ 40) : ∀ (q p : List (List Int)), l = p ++ q → ∀ n, q.length < n → fixN (scrutinyref09_Few_L1 l) n (p.length : Int) = some (decide (∀ v ∈ q, v.length ≤ 70))
  | [], p, h, n, hn => by
    obtain ⟨n, rfl⟩ : ∃ k, n = k + 1 := ⟨n - 1, by simp at hn; omega⟩
    rw [fixN_succ]
    generalize fixN (scrutinyref09_Few_L1 l) n = g
    unfold scrutinyref09_Few_L1
    rw [lt_f h, cond_false]; simp
  | v :: q, p, h, n, hn => by
    obtain ⟨n, rfl⟩ : ∃ k, n = k + 1 := ⟨n - 1, by simp at hn; omega⟩
    rw [fixN_succ]
    have hp : p.length < 100 := by rw [h] at hl; simp at hl; omega
    have ih := few_loop hl q (p ++ [v]) (by rw [h]; simp) n (by simp at hn; omega)
    generalize fixN (scrutinyref09_Few_L1 l) n = g at ih ⊢
    rw [show ((p ++ [v]).length : Int) = ((p.length + 1 : Nat) : Int) by simp] at ih
    unfold scrutinyref09_Few_L1
    rw [lt_t h, cond_true, idx_mid h]
    simp only [bind_p]
    by_cases hv : 70 < v.length
    · rw [show decide (70 < (v.length : Int)) = true by simp; omega, cond_true]
      congr 1; symm; rw [decide_eq_false_iff_not]
      intro h'; have := h' v (by simp); omega
    · rw [show decide (70 < (v.length : Int)) = false by simp; omega, cond_false, next_ix (by omega), ih]
      congr 1; rw [decide_eq_decide]
      simp; omega
theorem few_ok (l : List (List Int)) : scrutinyref09_Few l 40 = some (decide (l.length ≤ 40 ∧ ∀ v ∈ l, v.length ≤ 70)) := by
  unfold scrutinyref09_Few
  by_cases h : 40 < l.length
  · rw [show decide (40 < (l.length : Int)) = true by simp; omega, cond_true]
    congr 1; symm; rw [decide_eq_false_iff_not]; omega
  · have r := few_loop (l := l) (by omega) l [] rfl FUEL (fuel_lt (by omega))
    rw [show ((List.length ([] : List (List Int)) : Nat) : Int) = 0 from rfl] at r
    rw [show decide (40 < (l.length : Int)) = false by simp; omega, cond_false, r]
    congr 1; rw [decide_eq_decide]
    exact ⟨fun h' => ⟨by omega, h'⟩, fun h' => h'.2⟩

theorem tells_end {d : D} {W : Nat} {L : List (List Int)} {A : List Int} (I : Is d W L A) (hL : L.length < 100) {w : List Int} (bw : By w) (lw : w.length ≤ 70) {l : List (List Int)} {i : Int} (hi : decide (i < (l.length : Int)) = false) (g : (Int × List Nd × Int × Int × List Int × Int × List (List Int) × Int) → Option Bool) :
    scrutinylaw09_DfaTells_L1 l w true g (d.1, d.2.1, d.2.2.1, d.2.2.2.1, d.2.2.2.2, (W : Int), L, i) = some true := by
  have bL : ∀ v ∈ L, By v := fun v hv => (I.len v hv).2
  unfold scrutinylaw09_DfaTells_L1
  dsimp only
  rw [hi, cond_false]
  rw [show (d.1, d.2.1, d.2.2.1, d.2.2.2.1, d.2.2.2.2) = d from rfl, words_ok I]
  simp only [callG_p, bind_p, letv_p, rows_refl (show L.length < 1048576 by omega), Bool.true_and, hasL_ok I (show w.length < 1048576 by omega), rhas_ok hL bL bw, beq_self_eq_true]
theorem tells_loop {l : List (List Int)} {w : List Int} {W : Nat} (hl : l.length ≤ 40) (ll : ∀ v ∈ l, v.length ≤ 70) (bl : ∀ v ∈ l, By v) (bw : By w) (lw : w.length ≤ 70) : ∀ (q p : List (List Int)), l = p ++ q → ∀ (d : D) (L : List (List Int)) (A : List Int), Is d W L A → L.length ≤ p.length → ∀ n, q.length < n →
    fixN (scrutinylaw09_DfaTells_L1 l w true) n (d.1, d.2.1, d.2.2.1, d.2.2.2.1, d.2.2.2.2, (W : Int), L, (p.length : Int)) = some true
  | [], p, h, d, L, A, I, hL, n, hn => by
    obtain ⟨n, rfl⟩ : ∃ k, n = k + 1 := ⟨n - 1, by simp at hn; omega⟩
    rw [fixN_succ]
    exact tells_end I (by rw [h] at hl; simp at hl; omega) bw lw (lt_f h) _
  | v :: q, p, h, d, L, A, I, hL, n, hn => by
    obtain ⟨n, rfl⟩ : ∃ k, n = k + 1 := ⟨n - 1, by simp at hn; omega⟩
    rw [fixN_succ]
    have hp : p.length + 1 ≤ 40 := by rw [h] at hl; simp at hl; omega
    have hv := ll v (by rw [h]; simp)
    have bv := bl v (by rw [h]; simp)
    have bL : ∀ v ∈ L, By v := fun v hv => (I.len v hv).2
    have ih := fun d L A I hL => tells_loop (W := W) hl ll bl bw lw q (p ++ [v]) (by rw [h]; simp) d L A I hL n (by simp at hn; omega)
    generalize fixN (scrutinylaw09_DfaTells_L1 l w true) n = g at ih ⊢
    rw [show ((p ++ [v]).length : Int) = ((p.length + 1 : Nat) : Int) by simp] at ih
    have step : ∀ (d' : D) (b : Bool) (c : Int) (L' : List (List Int)) (A' : List Int), dfa_Insert d v = some (d', b, c) → scrutinyref09_Insert ((W : Int), L) v = some (((W : Int), L'), b, c) → Is d' W L' A' → L'.length ≤ p.length + 1 →
        scrutinylaw09_DfaTells_L1 l w true g (d.1, d.2.1, d.2.2.1, d.2.2.2.1, d.2.2.2.2, (W : Int), L, (p.length : Int)) = some true := by
      intro d' b c L' A' h1 h2 I' hL'
      have r := ih d' L' A' I' (by simp; omega)
      unfold scrutinylaw09_DfaTells_L1
      dsimp only
      rw [lt_t h, cond_true, idx_mid h]
      simp only [bind_p]
      rw [show (d.1, d.2.1, d.2.2.1, d.2.2.2.1, d.2.2.2.2) = d from rfl, h1, h2]
      simp only [bind_p, letv_p, bne_self_eq_false, Bool.or_self, Bool.not_false, callG_p, many_ok I', size_ok I'.good, refsize_ok I' (show L'.length < 100 by omega), cond_false]
      rw [next_ix (by omega), r]
    rcases insL_ok I (by omega) bv (by omega) with ⟨h1, h2⟩ | ⟨h1, h2, h3⟩ | ⟨h1, h2, d', A', h3, I'⟩
    · rcases rins_ok (W := W) (show L.length < 100 by omega) I.sor bL bv hv with ⟨_, g2⟩ | ⟨g1, _⟩ | ⟨g1, _⟩
      · exact step d false 1 L A h2 g2 I (by omega)
      · exact absurd g1 h1
      · exact absurd g1 h1
    · rcases rins_ok (W := W) (show L.length < 100 by omega) I.sor bL bv hv with ⟨g1, _⟩ | ⟨_, _, g3⟩ | ⟨_, g2, _⟩
      · exact absurd h1 g1
      · exact step d false 0 L A h3 g3 I (by omega)
      · exact absurd h2 g2
    · rcases rins_ok (W := W) (show L.length < 100 by omega) I.sor bL bv hv with ⟨g1, _⟩ | ⟨_, g2, _⟩ | ⟨_, _, g3⟩
      · exact absurd h1 g1
      · exact absurd g2 h2
      · exact step d' true 0 (insW v L) A' h3 g3 I' (by rw [insW_len]; omega)
theorem tells_start {l : List (List Int)} {w : List Int} {W : Nat} (hW : 1 ≤ W ∧ W ≤ 64) (hl : l.length ≤ 40) (ll : ∀ v ∈ l, v.length ≤ 70) (bl : ∀ v ∈ l, By v) (bw : By w) (lw : w.length ≤ 70) {fu : Nat} (hf : l.length < fu) :
    fixN (scrutinylaw09_DfaTells_L1 l w true) fu ((W : Int), [], -1, 0, [], (W : Int), [], 0) = some true :=
  tells_loop hl ll bl bw lw l [] rfl ((W : Int), [], -1, 0, []) [] [] (new_is hW) (by simp) fu hf
theorem tells_true (wide : Int) (l : List (List Int)) (w : List Int) (_hw : -9223372036854775808 ≤ wide ∧ wide ≤ 9223372036854775807) (bl : ∀ v ∈ l, By v) (bw : By w) : scrutinylaw09_DfaTells wide l w = some true := by
  unfold scrutinylaw09_DfaTells
  rw [shown_true, few_ok]
  simp only [bind_p, letv_p]
  by_cases h : l.length ≤ 40 ∧ ∀ v ∈ l, v.length ≤ 70
  · by_cases h2 : 70 < w.length
    · rw [show decide (70 < (w.length : Int)) = true by simp; omega, Bool.or_true, cond_true]
    · rw [show decide (70 < (w.length : Int)) = false by simp; omega, show decide (l.length ≤ 40 ∧ ∀ v ∈ l, v.length ≤ 70) = true by simpa using h]
      simp only [Bool.not_true, Bool.or_false, cond_false]
      by_cases h3 : wide < 1 ∨ 64 < wide
      · unfold dfa_New scrutinyref09_New
        simp only [letv_p]
        have : (decide (wide < 1) || decide (64 < wide)) = true := by
          simp only [Bool.or_eq_true, decide_eq_true_eq]; omega
        rw [this, cond_true, cond_true]
        rfl
      · obtain ⟨W, rfl⟩ := Int.eq_ofNat_of_zero_le (show 0 ≤ wide by omega)
        have hW : 1 ≤ W ∧ W ≤ 64 := by omega
        rw [new_ok hW]
        have e : scrutinyref09_New (W : Int) = some (((W : Int), []), 0) := by
          unfold scrutinyref09_New
          simp only [letv_p]
          rw [show decide ((W : Int) < 1) = false by simp; omega, show decide (64 < (W : Int)) = false by simp; omega]
          rfl
        rw [e]
        simp only [bind_p, bne_self_eq_false, cond_false]
        rw [tells_start hW h.1 h.2 bl bw (by omega) (fuel_lt (by omega))]
  · rw [show decide (l.length ≤ 40 ∧ ∀ v ∈ l, v.length ≤ 70) = false by simpa using h, Bool.not_false, Bool.true_or, cond_true]
end Df
end Go.Proofs.Ytjappdgehmjomaa
