/-
  DfaOld, plainly. (own)
-/
import Derived.Test.YtjappdgehmjomaaDfaWords
import Derived.KernelRfl
namespace Go.Proofs.Ytjappdgehmjomaa
namespace Df

theorem shown_true : scrutinylaw09_shown = some true := by kernel_rfl
abbrev By (v : List Int) : Prop := ∀ b ∈ v, 0 ≤ b ∧ b < 256
theorem strOf_inj : ∀ {x y : List Int}, By x → By y → strOf x = strOf y → x = y
  | [], [], _, _, _ => rfl
  | [], _ :: _, _, _, h => by simp [strOf] at h
  | _ :: _, [], _, _, h => by simp [strOf] at h
  | a :: x, b :: y, hx, hy, h => by
    simp only [strOf, List.map_cons, List.cons.injEq] at h
    have h1 := congrArg UInt8.toNat h.1
    simp only [UInt8.toNat_ofNat'] at h1
    have ha := hx a (by simp); have hb := hy b (by simp)
    rw [strOf_inj (fun c hc => hx c (by simp [hc])) (fun c hc => hy c (by simp [hc])) h.2]
    have : a = b := by omega
    rw [this]
theorem strOf_eq {x y : List Int} (hx : By x) (hy : By y) : (strOf x == strOf y) = decide (x = y) := by
  rw [Bool.eq_iff_iff, beq_iff_eq, decide_eq_true_eq]
  exact ⟨strOf_inj hx hy, fun h => by rw [h]⟩
theorem rows_loop {a : List (List Int)} (hl : a.length < 1048576) : ∀ (n k : Nat), k ≤ a.length → a.length - k < n → fixN (scrutinyref04_Rows_L1 a a) n (k : Int) = some true
  | 0, _, _, h => by omega
  | n + 1, k, hk, hn => by
    rw [fixN_succ]
    have ih := rows_loop hl n (k + 1)
    generalize fixN (scrutinyref04_Rows_L1 a a) n = g at ih ⊢
    unfold scrutinyref04_Rows_L1
    by_cases h : k < a.length
    · rw [show decide ((k : Int) < (List.length a : Int)) = true by simpa using h, cond_true, idx_lt h]
      simp only [bind_s, bne_self_eq_false, cond_false]
      rw [next_ix (by omega)]
      exact ih (by omega) (by omega)
    · rw [show decide ((k : Int) < (List.length a : Int)) = false by simpa using h, cond_false]
theorem rows_refl {a : List (List Int)} (hl : a.length < 1048576) : scrutinyref04_Rows a a = some true := by
  unfold scrutinyref04_Rows
  rw [bne_self_eq_false, cond_false]
  exact rows_loop hl FUEL 0 (by omega) (by show _ < 2 ^ 64; omega)
theorem size_some (d : D) : dfa_Size d = some (IntKind.i64.wrap ((List.length d.2.1 : Int) - (List.length d.2.2.2.2 : Int))) := rfl

theorem old_end {d : D} {W : Nat} {L : List (List Int)} {A : List Int} (I : Is d W L A) (hL : L.length < 100) {w other : List Int} (hw : w.length = W) (bw : By w) (bo : By other) (lo : other.length ≤ 70) {l : List (List Int)} {r21 : D × Int} (h21 : r21.2 = 0) {i : Int} (hi : decide (i < (l.length : Int)) = false) (g : (Int × List Nd × Int × Int × List Int × Int) → Option Bool) :
    scrutinylaw09_DfaOld_L1 l w other true r21 g (d.1, d.2.1, d.2.2.1, d.2.2.2.1, d.2.2.2.2, i) = some true := by
  have hW := I.good.w1
  unfold scrutinylaw09_DfaOld_L1
  dsimp only
  rw [hi, cond_false]
  rw [show (d.1, d.2.1, d.2.2.1, d.2.2.2.1, d.2.2.2.2) = d from rfl, words_ok I, size_some, hasL_ok I (by omega), hasL_ok I (by omega)]
  simp only [bind_s, letv_e, h21, beq_self_eq_true, Bool.true_and]
  rcases insL_ok I (by omega) bw (by omega) with ⟨h, _⟩ | ⟨_, hm, h⟩ | ⟨_, hm, d', A', h, I'⟩
  · exact absurd hw h
  · rw [h]
    simp only [bind_s, hm, decide_true, Bool.not_true, beq_self_eq_true, Bool.true_and, callG_tt, rows_refl (show L.length < 1048576 by omega), words_ok I, hasL_ok I (show w.length < 1048576 by omega), hasL_ok I (show other.length < 1048576 by omega), strOf_eq bo bw, scrutinylaw09_flag, cond_false]
    have : (decide (other ∈ L) || decide (other = w)) = decide (other ∈ L) := by
      by_cases ho : other = w
      · rw [ho]; simp [hm]
      · simp [ho]
    rw [this]
    simp only [beq_self_eq_true, callG_tt, bind_s, Bool.true_and]
    rw [w64 (x := (L.length : Int) + 0) (by omega)]
    simp
  · rw [h]
    have e1 := hasL_ok I' (w := w) (by omega)
    have e2 := hasL_ok I' (w := other) (by omega)
    have m1 : decide (w ∈ insW w L) = true := by simp [insW_mem]
    rw [m1] at e1
    have m2 : decide (other ∈ insW w L) = (decide (other ∈ L) || decide (other = w)) := by
      rw [Bool.eq_iff_iff]; simp [insW_mem, or_comm]
    rw [m2] at e2
    simp only [bind_s, hm, decide_false, Bool.not_false, beq_self_eq_true, Bool.true_and, callG_tt, rows_refl (show L.length < 1048576 by omega), words_ok I', e1, e2, strOf_eq bo bw, scrutinylaw09_flag, cond_true]
    rw [w64 (by omega), insW_len]
    simp
theorem old_loop {l : List (List Int)} {w other : List Int} {r21 : D × Int} (h21 : r21.2 = 0) (hl : l.length ≤ 30) (bl : ∀ v ∈ l, By v) (bw : By w) (bo : By other) (lo : other.length ≤ 70) : ∀ (q p : List (List Int)), l = p ++ q → ∀ (d : D) (L : List (List Int)) (A : List Int), Is d w.length L A → L.length ≤ p.length → ∀ n, q.length < n →
    fixN (scrutinylaw09_DfaOld_L1 l w other true r21) n (d.1, d.2.1, d.2.2.1, d.2.2.2.1, d.2.2.2.2, (p.length : Int)) = some true
  | [], p, h, d, L, A, I, hL, n, hn => by
    obtain ⟨n, rfl⟩ : ∃ k, n = k + 1 := ⟨n - 1, by simp at hn; omega⟩
    rw [fixN_succ]
    exact old_end I (by rw [h] at hl; simp at hl; omega) rfl bw bo lo h21 (lt_f h) _
  | v :: q, p, h, d, L, A, I, hL, n, hn => by
    obtain ⟨n, rfl⟩ : ∃ k, n = k + 1 := ⟨n - 1, by simp at hn; omega⟩
    rw [fixN_succ]
    have hp : p.length + 1 ≤ 30 := by rw [h] at hl; simp at hl; omega
    have hW := I.good.w1
    have ih := fun d L A I hL => old_loop h21 hl bl bw bo lo q (p ++ [v]) (by rw [h]; simp) d L A I hL n (by simp at hn; omega)
    generalize fixN (scrutinylaw09_DfaOld_L1 l w other true r21) n = g at ih ⊢
    rw [show ((p ++ [v]).length : Int) = ((p.length + 1 : Nat) : Int) by simp] at ih
    unfold scrutinylaw09_DfaOld_L1
    dsimp only
    rw [lt_t h, cond_true, idx_mid h]
    simp only [bind_s]
    by_cases hv : v.length = w.length
    · rw [show ((v.length : Int) != (w.length : Int)) = false by simp [hv], cond_false, next_ix (by omega)]
      rw [show (d.1, d.2.1, d.2.2.1, d.2.2.2.1, d.2.2.2.2) = d from rfl]
      rcases insL_ok I (by omega) (bl v (by rw [h]; simp)) (by omega) with ⟨h, _⟩ | ⟨_, hm, h⟩ | ⟨_, hm, d', A', h, I'⟩
      · exact absurd hv h
      · rw [h]
        exact ih d L A I (by simp; omega)
      · rw [h]
        exact ih d' _ A' I' (by rw [insW_len]; simp; omega)
    · rw [show ((v.length : Int) != (w.length : Int)) = true by simp only [bne_iff_ne, ne_eq]; omega, cond_true]
theorem fuel_lt {n : Nat} (h : n < 1048576) : n < FUEL := by show _ < 2 ^ 64; omega
theorem old_start {l : List (List Int)} {w other : List Int} (hl : l.length ≤ 30) (bl : ∀ v ∈ l, By v) (bw : By w) (bo : By other) (lo : other.length ≤ 70) (hw : 1 ≤ w.length ∧ w.length ≤ 64) {fu : Nat} (hf : l.length < fu) :
    fixN (scrutinylaw09_DfaOld_L1 l w other true (((w.length : Int), [], -1, 0, []), 0)) fu ((w.length : Int), [], -1, 0, [], 0) = some true :=
  old_loop (r21 := (((w.length : Int), [], -1, 0, []), 0)) rfl hl bl bw bo lo l [] rfl ((w.length : Int), [], -1, 0, []) [] [] (new_is hw) (by simp) fu hf
theorem old_true (l : List (List Int)) (w other : List Int) (bl : ∀ v ∈ l, By v) (bw : By w) (bo : By other) : scrutinylaw09_DfaOld l w other = some true := by
  unfold scrutinylaw09_DfaOld
  rw [shown_true]
  simp only [bind_s, letv_e]
  by_cases h : 30 < l.length ∨ w.length < 1 ∨ 8 < w.length ∨ 70 < other.length
  · have : (((decide (30 < (l.length : Int)) || decide ((w.length : Int) < 1)) || decide (8 < (w.length : Int))) || decide (70 < (other.length : Int))) = true := by
      simp only [Bool.or_eq_true, decide_eq_true_eq]; omega
    rw [this, cond_true]
  · have : (((decide (30 < (l.length : Int)) || decide ((w.length : Int) < 1)) || decide (8 < (w.length : Int))) || decide (70 < (other.length : Int))) = false := by
      simp only [Bool.or_eq_false_iff, decide_eq_false_iff_not]; omega
    rw [this, cond_false, new_ok (by omega)]
    simp only [bind_s]
    rw [old_start (by omega) bl bw bo (by omega) (by omega) (fuel_lt (by omega))]
end Df
end Go.Proofs.Ytjappdgehmjomaa
