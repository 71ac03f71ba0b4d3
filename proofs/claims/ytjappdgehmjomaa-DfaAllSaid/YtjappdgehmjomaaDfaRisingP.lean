/-
  DfaRising, plainly. (own)
-/
import Derived.Test.YtjappdgehmjomaaDfaOldP
namespace Go.Proofs.Ytjappdgehmjomaa
namespace Df

theorem u8_nat {a : Int} (h : 0 ≤ a ∧ a < 256) : ((UInt8.ofNat a.toNat).toNat : Int) = a := by
  simp only [UInt8.toNat_ofNat']; omega
theorem ltS_eq : ∀ {x y : List Int}, By x → By y → ltS (strOf x) (strOf y) = ltw x y
  | [], [], _, _ => rfl
  | [], _ :: _, _, _ => rfl
  | _ :: _, [], _, _ => rfl
  | a :: x, b :: y, hx, hy => by
    have ih := ltS_eq (x := x) (y := y) (fun c hc => hx c (by simp [hc])) (fun c hc => hy c (by simp [hc]))
    have ha := u8_nat (hx a (by simp)); have hb := u8_nat (hy b (by simp))
    unfold ltS at ih ⊢
    simp only [strOf, List.map_cons] at ih ⊢
    show (decide (UInt8.ofNat a.toNat < UInt8.ofNat b.toNat) || (UInt8.ofNat a.toNat == UInt8.ofNat b.toNat && Op.bytesLess _ _)) = (decide (a < b) || (a == b && ltw x y))
    rw [ih]
    congr 1
    · rw [decide_eq_decide, UInt8.lt_iff_toNat_lt]; omega
    · congr 1
      rw [Bool.eq_iff_iff, beq_iff_eq, beq_iff_eq, ← UInt8.toNat_inj]; omega

theorem told_loop {c : Int} {e13 : List Int} {d : D} {L : List (List Int)} {i : Int} {ag : Int → Option Bool} {w o : List Int} (hL : L.length < 100) (bL : ∀ v ∈ L, By v) (bo : By o) (ho : List.set (([] : List Int) ++ w) (Int.toNat (IntKind.i64.wrap ((List.length e13 : Int) - 1))) c = o)
    (hh : dfa_Has d o = some (decide (o ∈ L))) {r : Option Bool} (hr : ag (IntKind.i64.wrap (i + 1)) = r) : ∀ (q p : List (List Int)), L = p ++ q → ∀ n, q.length < n →
    fixN (scrutinylaw09_DfaRising_L3 c e13 d.1 d.2.1 d.2.2.1 d.2.2.2.1 d.2.2.2.2 L i ag w) n (decide (o ∈ p), (p.length : Int)) = r
  | [], p, h, n, hn => by
    obtain ⟨n, rfl⟩ : ∃ k, n = k + 1 := ⟨n - 1, by simp at hn; omega⟩
    rw [fixN_succ]
    generalize fixN (scrutinylaw09_DfaRising_L3 c e13 d.1 d.2.1 d.2.2.1 d.2.2.2.1 d.2.2.2.2 L i ag w) n = g
    unfold scrutinylaw09_DfaRising_L3
    dsimp only
    rw [lt_f h, cond_false, ho, show (d.1, d.2.1, d.2.2.1, d.2.2.2.1, d.2.2.2.2) = d from rfl, hh, show L = p by simpa using h]
    simp only [bind_s, bne_self_eq_false, cond_false]
    exact hr
  | v :: q, p, h, n, hn => by
    obtain ⟨n, rfl⟩ : ∃ k, n = k + 1 := ⟨n - 1, by simp at hn; omega⟩
    rw [fixN_succ]
    have ih := told_loop hL bL bo ho hh hr q (p ++ [v]) (by rw [h]; simp) n (by simp at hn; omega)
    have hp : p.length < 100 := by rw [h] at hL; simp at hL; omega
    generalize fixN (scrutinylaw09_DfaRising_L3 c e13 d.1 d.2.1 d.2.2.1 d.2.2.2.1 d.2.2.2.2 L i ag w) n = g at ih ⊢
    unfold scrutinylaw09_DfaRising_L3
    dsimp only
    rw [lt_t h, cond_true, ho, next_ix (by omega)]
    rw [show ((p ++ [v]).length : Int) = ((p.length + 1 : Nat) : Int) by simp] at ih
    have bv := bL v (by rw [h]; simp)
    by_cases hm : o ∈ p
    · rw [show decide (o ∈ p ++ [v]) = true by simp [hm]] at ih
      rw [show decide (o ∈ p) = true by simp [hm]]
      simp only [Bool.not_true, callG_ff, letv_e, Bool.true_or]
      exact ih
    · rw [show decide (o ∈ p) = false by simp [hm]]
      simp only [Bool.not_false, callG_tt, letv_e, Bool.false_or]
      rw [idx_mid h]
      simp only [bind_s, strOf_eq bv bo]
      rw [show decide (v = o) = decide (o ∈ p ++ [v]) by rw [decide_eq_decide]; simp [hm, eq_comm]]
      exact ih

theorem rising_words {c : Int} {e13 : List Int} {d : D} {L : List (List Int)} {A : List Int} (I : Is d e13.length L A) (hL : L.length < 100) (hc : 0 ≤ c ∧ c < 256) : ∀ (n k : Nat), k ≤ L.length → L.length - k < n →
    fixN (scrutinylaw09_DfaRising_L2 c true e13 d.1 d.2.1 d.2.2.1 d.2.2.2.1 d.2.2.2.2 L) n (k : Int) = some true
  | 0, _, _, h => by omega
  | n + 1, k, hk, hn => by
    rw [fixN_succ]
    have hW := I.good.w1
    have ih := rising_words I hL hc n (k + 1)
    generalize fixN (scrutinylaw09_DfaRising_L2 c true e13 d.1 d.2.1 d.2.2.1 d.2.2.2.1 d.2.2.2.2 L) n = g at ih ⊢
    unfold scrutinylaw09_DfaRising_L2
    by_cases h : k < L.length
    · have hm := I.len L[k] (List.getElem_mem h)
      have bL : ∀ v ∈ L, By v := fun v hv => (I.len v hv).2
      rw [show decide ((k : Int) < (List.length L : Int)) = true by simpa using h, cond_true, idx_lt h]
      simp only [bind_s, letv_e]
      rw [show ((L[k].length : Int) != (e13.length : Int)) = false by simp [hm.1]]
      simp only [Bool.not_false, Bool.true_and, Bool.false_or]
      have hin : decide (L[k] ∈ L) = true := by simp
      have fin : (List.length ([] : List Int) + List.length L[k]) * 1 ≤ 140737488355328 := by simp; omega
      have o1 : ∀ b ∈ L[k].set (e13.length - 1) c, 0 ≤ b ∧ b < 256 := fun b hb => by
        rcases List.mem_or_eq_of_mem_set hb with h | h
        · exact hm.2 b h
        · rw [h]; exact hc
      have last : (idx L[k] ((e13.length - 1 : Nat) : Int)) = some (L[k][e13.length - 1]'(by omega)) := idx_lt (by omega)
      have e0 : IntKind.i64.wrap ((List.length e13 : Int) - 1) = ((e13.length - 1 : Nat) : Int) := by rw [w64 (by omega)]; omega
      have ho : List.set (([] : List Int) ++ L[k]) (Int.toNat (IntKind.i64.wrap ((List.length e13 : Int) - 1))) c = L[k].set (e13.length - 1) c := by rw [e0]; simp
      have ol : (L[k].set (e13.length - 1) c).length < 1048576 := by simp; omega
      have hstep : g (IntKind.i64.wrap ((k : Int) + 1)) = some true := by rw [next_ix (by omega)]; exact ih (by omega) (by omega)
      have rest := told_loop (c := c) (e13 := e13) (d := d) (w := L[k]) (i := (k : Int)) (ag := g) hL bL o1 ho (hasL_ok I ol) hstep L [] rfl FUEL (fuel_lt (by omega))
      rw [show decide (L[k].set (e13.length - 1) c ∈ ([] : List (List Int))) = false by simp, show ((List.length ([] : List (List Int)) : Nat) : Int) = 0 from rfl] at rest
      generalize fixN (scrutinylaw09_DfaRising_L3 c e13 d.1 d.2.1 d.2.2.1 d.2.2.2.1 d.2.2.2.2 L (k : Int) g L[k]) FUEL (false, 0) = gg at rest ⊢
      subst rest
      rw [room_t fin (by simp; omega), chk_t, e0, List.nil_append, last]
      simp only [bind_s]
      rw [show (d.1, d.2.1, d.2.2.1, d.2.2.2.1, d.2.2.2.2) = d from rfl]
      by_cases h0 : k = 0
      · subst h0
        rw [show decide ((0 : Int) < ((0 : Nat) : Int)) = false from rfl]
        simp only [callG_ff, Bool.false_and, Bool.not_false, callG_tt, bind_s, hasL_ok I (w := L[0]) (by omega), hin, Bool.not_true, Bool.or_false, cond_false]
      · rw [show decide ((0 : Int) < (k : Int)) = true by simp; omega]
        have hk1 : k - 1 < L.length := by omega
        have hlt : ltw L[k - 1] L[k] = true := List.pairwise_iff_getElem.1 I.sor (k - 1) k hk1 h (by omega)
        have hb1 := bL L[k - 1] (List.getElem_mem hk1)
        rw [show IntKind.i64.wrap ((k : Int) - 1) = ((k - 1 : Nat) : Int) by rw [w64 (by omega)]; omega, idx_lt hk1]
        simp only [callG_tt, bind_s, ltS_eq hm.2 hb1, strOf_eq hm.2 hb1]
        rw [show ltw L[k] L[k - 1] = false by rw [← Bool.not_eq_true]; exact ltw_asymm hlt, show decide (L[k] = L[k - 1]) = false by
          rw [decide_eq_false_iff_not]; intro e; rw [e] at hlt; exact ltw_irr _ hlt]
        simp only [Bool.or_self, Bool.and_false, Bool.not_false, callG_tt, bind_s, hasL_ok I (w := L[k]) (by omega), hin, Bool.not_true, cond_false]
    · rw [show decide ((k : Int) < (List.length L : Int)) = false by simpa using h, cond_false]
theorem rising_loop {l : List (List Int)} {c : Int} {e13 : List Int} (hl : l.length ≤ 40) (bl : ∀ v ∈ l, By v) (hc : 0 ≤ c ∧ c < 256) : ∀ (q p : List (List Int)), l = p ++ q → ∀ (d : D) (L : List (List Int)) (A : List Int), Is d e13.length L A → L.length ≤ p.length → ∀ n, q.length < n →
    fixN (scrutinylaw09_DfaRising_L1 l c true e13) n (d.1, d.2.1, d.2.2.1, d.2.2.2.1, d.2.2.2.2, (p.length : Int)) = some true
  | [], p, h, d, L, A, I, hL, n, hn => by
    obtain ⟨n, rfl⟩ : ∃ k, n = k + 1 := ⟨n - 1, by simp at hn; omega⟩
    rw [fixN_succ]
    have hp : p.length ≤ 40 := by rw [h] at hl; simp at hl; omega
    have fin := rising_words I (by omega) hc FUEL 0 (by omega) (fuel_lt (by omega))
    generalize fixN (scrutinylaw09_DfaRising_L1 l c true e13) n = g
    unfold scrutinylaw09_DfaRising_L1
    dsimp only
    rw [lt_f h, cond_false]
    rw [show (d.1, d.2.1, d.2.2.1, d.2.2.2.1, d.2.2.2.2) = d from rfl, words_ok I, many_ok I]
    simp only [bind_s, bne_self_eq_false, cond_false]
    rw [show (0 : Int) = ((0 : Nat) : Int) from rfl, fin]
  | v :: q, p, h, d, L, A, I, hL, n, hn => by
    obtain ⟨n, rfl⟩ : ∃ k, n = k + 1 := ⟨n - 1, by simp at hn; omega⟩
    rw [fixN_succ]
    have hp : p.length + 1 ≤ 40 := by rw [h] at hl; simp at hl; omega
    have hW := I.good.w1
    have ih := fun d L A I hL => rising_loop (e13 := e13) hl bl hc q (p ++ [v]) (by rw [h]; simp) d L A I hL n (by simp at hn; omega)
    generalize fixN (scrutinylaw09_DfaRising_L1 l c true e13) n = g at ih ⊢
    rw [show ((p ++ [v]).length : Int) = ((p.length + 1 : Nat) : Int) by simp] at ih
    unfold scrutinylaw09_DfaRising_L1
    dsimp only
    rw [lt_t h, cond_true, idx_mid h]
    simp only [bind_s]
    by_cases hv : v.length = e13.length
    · rw [show ((v.length : Int) != (e13.length : Int)) = false by simp [hv], cond_false, next_ix (by omega)]
      rw [show (d.1, d.2.1, d.2.2.1, d.2.2.2.1, d.2.2.2.2) = d from rfl]
      rcases insL_ok I (by omega) (bl v (by rw [h]; simp)) (by omega) with ⟨h, _⟩ | ⟨_, hm, h⟩ | ⟨_, hm, d', A', h, I'⟩
      · exact absurd hv h
      · rw [h]
        exact ih d L A I (by simp; omega)
      · rw [h]
        exact ih d' _ A' I' (by rw [insW_len]; simp; omega)
    · rw [show ((v.length : Int) != (e13.length : Int)) = true by simp only [bne_iff_ne, ne_eq]; omega, cond_true]
theorem rising_start {l : List (List Int)} {c : Int} {e13 : List Int} (hl : l.length ≤ 40) (bl : ∀ v ∈ l, By v) (hc : 0 ≤ c ∧ c < 256) (hw : 1 ≤ e13.length ∧ e13.length ≤ 64) {fu : Nat} (hf : l.length < fu) :
    fixN (scrutinylaw09_DfaRising_L1 l c true e13) fu ((e13.length : Int), [], -1, 0, [], 0) = some true :=
  rising_loop hl bl hc l [] rfl ((e13.length : Int), [], -1, 0, []) [] [] (new_is hw) (by simp) fu hf
theorem rising_true (l : List (List Int)) (c : Int) (bl : ∀ v ∈ l, By v) (hc : 0 ≤ c ∧ c < 256) : scrutinylaw09_DfaRising l c = some true := by
  unfold scrutinylaw09_DfaRising
  rw [shown_true]
  simp only [bind_s, letv_e]
  by_cases h : l.length < 1 ∨ 40 < l.length
  · have : (decide ((l.length : Int) < 1) || decide (40 < (l.length : Int))) = true := by
      simp only [Bool.or_eq_true, decide_eq_true_eq]; omega
    rw [this, cond_true]
  · have : (decide ((l.length : Int) < 1) || decide (40 < (l.length : Int))) = false := by
      simp only [Bool.or_eq_false_iff, decide_eq_false_iff_not]; omega
    rw [this, cond_false, show (0 : Int) = ((0 : Nat) : Int) from rfl, idx_lt (by omega)]
    simp only [bind_s]
    generalize l[0]'(by omega) = e13
    by_cases h2 : e13.length < 1 ∨ 8 < e13.length
    · have : (decide ((e13.length : Int) < 1) || decide (8 < (e13.length : Int))) = true := by
        simp only [Bool.or_eq_true, decide_eq_true_eq]; omega
      rw [this, cond_true]
    · have : (decide ((e13.length : Int) < 1) || decide (8 < (e13.length : Int))) = false := by
        simp only [Bool.or_eq_false_iff, decide_eq_false_iff_not]; omega
      rw [this, cond_false, new_ok (by omega)]
      simp only [bind_s]
      rw [show ((0 : Nat) : Int) = 0 from rfl, rising_start (by omega) bl hc (by omega) (fuel_lt (by omega))]
end Df
end Go.Proofs.Ytjappdgehmjomaa
