/-
  How deep a tree is, and how many parts it has: what the document's bounded counts say. (own)
-/
import Derived.Test.YtmeombbmhpcacaaDoorExprTree
namespace Go.Proofs.YtmeombbmhpcacaaDoor

mutual
def ht : Ex → Nat
  | .mk _ _ _ l => htL l + 1
def htL : List Ex → Nat
  | [] => 0
  | x :: r => max (ht x) (htL r)
end
theorem ht_eq (e : Ex) : ht e = htL e.l + 1 := by cases e; simp only [ht, Ex.l]
theorem ht_mem {x : Ex} : ∀ {l : List Ex}, x ∈ l → ht x ≤ htL l
  | y :: l, h => by
    simp only [htL]
    rcases List.mem_cons.1 h with rfl | h
    · omega
    · have := ht_mem h; omega
theorem ht_lt {e x : Ex} (h : x ∈ e.l) : ht x + 1 ≤ ht e := by have := ht_mem h; rw [ht_eq e]; omega

theorem deep_loop2 (k : Ex × Int → Option Int) (e : Ex) (most : Int) (hm : -1000 ≤ most ∧ most ≤ 1000) (hk : ∀ x ∈ e.l, ∀ m : Int, -1001 ≤ m → m ≤ 1000 → ∃ d : Int, k (x, m) = some d ∧ 1 ≤ d ∧ d ≤ x.sz ∧ (d < m → (ht x : Int) ≤ d)) (hl : e.sz < 4611686018427387904) :
    ∀ (r pre : List Ex), e.l = pre ++ r → ∀ (M : Nat) (d : Int), 1 ≤ d → d ≤ e.sz → r.length < M → ∃ v : Int, fixN (scrutinyref13_Deep_L1 k e most) M (d, (pre.length : Int)) = some v ∧ d ≤ v ∧ v ≤ e.sz ∧ (v < most → (htL r : Int) + 1 ≤ v)
  | [], pre, h, M, d, h1, h2, hM => by
    obtain ⟨m, rfl⟩ : ∃ m, M = m + 1 := ⟨M - 1, by simp at hM; omega⟩
    rw [fixN_succ]
    simp only [scrutinyref13_Deep_L1, lt_f h, letv_e, Bool.false_and, cond_false]
    exact ⟨_, rfl, Int.le_refl _, h2, fun _ => by simp only [htL]; omega⟩
  | x :: r, pre, h, M, d, h1, h2, hM => by
    obtain ⟨m, rfl⟩ : ∃ m, M = m + 1 := ⟨M - 1, by omega⟩
    rw [fixN_succ]
    have hw : IntKind.i64.wrap (most - 1) = most - 1 := w64 (by omega)
    have hxm : x ∈ e.l := by rw [h]; simp
    have hxs := sz_lt hxm
    obtain ⟨dx, hx, hx1, hx2, hx3⟩ := hk x hxm (most - 1) (by omega) (by omega)
    have hle := len_lt e
    have hlen : pre.length < 4611686018427387904 := by have hl' := congrArg List.length h; simp at hl'; omega
    have ih := fun d => deep_loop2 k e most hm hk hl r (pre ++ [x]) (by rw [h]; simp) m d
    rw [show ((pre ++ [x]).length : Int) = ((pre.length + 1 : Nat) : Int) by simp] at ih
    simp only [scrutinyref13_Deep_L1, lt_t h, letv_e, Bool.true_and]
    cases hm1 : decide (1 < most)
    · simp only [cond_false]
      refine ⟨_, rfl, Int.le_refl _, h2, fun hv => ?_⟩
      simp only [decide_eq_false_iff_not] at hm1
      omega
    · have hw1 : IntKind.i64.wrap (1 + dx) = 1 + dx := w64 (by omega)
      simp only [cond_true, idx_mid h, bind_s, hw, hx, next_ix hlen, hw1]
      cases hd : decide (d < 1 + dx)
      · simp only [cond_false]
        simp only [decide_eq_false_iff_not] at hd
        obtain ⟨v, e1, e2, e3, e4⟩ := ih d h1 h2 (by simp at hM; omega)
        refine ⟨v, e1, e2, e3, fun hv => ?_⟩
        have := e4 hv
        have := hx3 (by omega)
        simp only [htL]; omega
      · simp only [cond_true]
        simp only [decide_eq_true_eq] at hd
        obtain ⟨v, e1, e2, e3, e4⟩ := ih (1 + dx) (by omega) (by omega) (by simp at hM; omega)
        refine ⟨v, e1, by omega, e3, fun hv => ?_⟩
        have := e4 hv
        have := hx3 (by omega)
        simp only [htL]; omega
theorem deep_val : ∀ (N : Nat) (e : Ex) (most : Int), e.sz ≤ N → e.sz < 4611686018427387904 → -1000 ≤ most → most ≤ 1000 → ∃ d : Int, fixN (fun k (s : Ex × Int) => scrutinyref13_Deep_F k s.1 s.2) N (e, most) = some d ∧ 1 ≤ d ∧ d ≤ e.sz ∧ (d < most → (ht e : Int) ≤ d) := by
  intro N
  induction N with
  | zero => intro e _ h; have := sz_pos e; omega
  | succ N ih =>
    intro e most h hb h1 h2
    rw [fixN_succ]
    show ∃ d : Int, fixN (scrutinyref13_Deep_L1 _ e most) FUEL (1, 0) = some d ∧ _
    have hl := len_lt e
    have hp := sz_pos e
    by_cases hm : most = -1000
    · -- none is asked
      refine ⟨1, ?_, Int.le_refl _, by omega, by omega⟩
      rw [show FUEL = 18446744073709551615 + 1 from rfl, fixN_succ]
      simp only [scrutinyref13_Deep_L1, letv_e, hm, show decide ((1 : Int) < -1000) = false from rfl, Bool.and_false, cond_false]
    obtain ⟨v, e1, e2, e3, e4⟩ := deep_loop2 (fixN (fun k (s : Ex × Int) => scrutinyref13_Deep_F k s.1 s.2) N) e most ⟨h1, h2⟩ (fun x hx m hm1 hm2 => by
      by_cases hm3 : m < -1000
      · obtain rfl : m = -1001 := by omega
        refine ⟨1, ?_, Int.le_refl _, by have := sz_pos x; omega, by omega⟩
        obtain ⟨K, rfl⟩ : ∃ K, N = K + 1 := ⟨N - 1, by have := sz_lt hx; have := sz_pos x; omega⟩
        rw [fixN_succ]
        show fixN (scrutinyref13_Deep_L1 _ x (-1001)) FUEL (1, 0) = some 1
        rw [show FUEL = 18446744073709551615 + 1 from rfl, fixN_succ]
        simp only [scrutinyref13_Deep_L1, letv_e, show decide ((1 : Int) < -1001) = false from rfl, Bool.and_false, cond_false]
      · exact ih x m (by have := sz_lt hx; omega) (by have := sz_lt hx; omega) (by omega) hm2) hb e.l [] rfl FUEL 1 (Int.le_refl _) (by omega) (by show e.l.length < 2 ^ 64; omega)
    exact ⟨v, e1, e2, e3, fun hv => by rw [ht_eq]; have := e4 hv; omega⟩
theorem Deep_val (e : Ex) (h : e.sz < 4611686018427387904) {most : Int} (h1 : -1000 ≤ most) (h2 : most ≤ 1000) : ∃ d : Int, scrutinyref13_Deep e most = some d ∧ 1 ≤ d ∧ d ≤ e.sz ∧ (d < most → (ht e : Int) ≤ d) := deep_val FUEL e most (by show e.sz ≤ 2 ^ 64; omega) h h1 h2

theorem many_loop2 (k : Ex × Int → Option Int) (e : Ex) (most : Int) (hk : ∀ x ∈ e.l, ∃ d : Int, k (x, most) = some d ∧ 1 ≤ d ∧ d ≤ x.sz ∧ (d < most → d = x.sz)) (hl : e.sz < 4611686018427387904) :
    ∀ (r pre : List Ex), e.l = pre ++ r → ∀ (M : Nat) (d : Int), 1 ≤ d → d + szL r ≤ e.sz → r.length < M → ∃ v : Int, fixN (scrutinyref13_Many_L1 k e most) M (d, (pre.length : Int)) = some v ∧ d ≤ v ∧ v ≤ d + szL r ∧ (v < most → v = d + szL r)
  | [], pre, h, M, d, h1, h2, hM => by
    obtain ⟨m, rfl⟩ : ∃ m, M = m + 1 := ⟨M - 1, by simp at hM; omega⟩
    rw [fixN_succ]
    simp only [scrutinyref13_Many_L1, lt_f h, letv_e, Bool.false_and, cond_false]
    exact ⟨_, rfl, Int.le_refl _, by simp only [szL]; omega, fun _ => by simp only [szL]; omega⟩
  | x :: r, pre, h, M, d, h1, h2, hM => by
    obtain ⟨m, rfl⟩ : ∃ m, M = m + 1 := ⟨M - 1, by omega⟩
    rw [fixN_succ]
    obtain ⟨dx, hx, hx1, hx2, hx3⟩ := hk x (by rw [h]; simp)
    have hle := len_lt e
    have hlen : pre.length < 4611686018427387904 := by have hl' := congrArg List.length h; simp at hl'; omega
    have ih := fun d => many_loop2 k e most hk hl r (pre ++ [x]) (by rw [h]; simp) m d
    rw [show ((pre ++ [x]).length : Int) = ((pre.length + 1 : Nat) : Int) by simp] at ih
    simp only [szL] at h2 ⊢
    simp only [scrutinyref13_Many_L1, lt_t h, letv_e, Bool.true_and]
    cases hm1 : decide (d < most)
    · simp only [cond_false]
      refine ⟨_, rfl, Int.le_refl _, by omega, fun hv => ?_⟩
      simp only [decide_eq_false_iff_not] at hm1
      omega
    · have hw1 : IntKind.i64.wrap (d + dx) = d + dx := w64 (by omega)
      simp only [cond_true, idx_mid h, bind_s, hx, next_ix hlen, hw1]
      obtain ⟨v, e1, e2, e3, e4⟩ := ih (d + dx) (by omega) (by omega) (by simp at hM; omega)
      refine ⟨v, e1, by omega, by omega, fun hv => ?_⟩
      have := e4 hv
      have := hx3 (by omega)
      omega
theorem many_val : ∀ (N : Nat) (e : Ex) (most : Int), e.sz ≤ N → e.sz < 4611686018427387904 → ∃ d : Int, fixN (fun k (s : Ex × Int) => scrutinyref13_Many_F k s.1 s.2) N (e, most) = some d ∧ 1 ≤ d ∧ d ≤ e.sz ∧ (d < most → d = e.sz) := by
  intro N
  induction N with
  | zero => intro e _ h; have := sz_pos e; omega
  | succ N ih =>
    intro e most h hb
    rw [fixN_succ]
    show ∃ d : Int, fixN (scrutinyref13_Many_L1 _ e most) FUEL (1, 0) = some d ∧ _
    have hl := len_lt e
    have hs := Ex.sz_l e
    obtain ⟨v, e1, e2, e3, e4⟩ := many_loop2 (fixN (fun k (s : Ex × Int) => scrutinyref13_Many_F k s.1 s.2) N) e most (fun x hx => ih x most (by have := sz_lt hx; omega) (by have := sz_lt hx; omega)) hb e.l [] rfl FUEL 1 (Int.le_refl _) (by omega) (by show e.l.length < 2 ^ 64; omega)
    exact ⟨v, e1, e2, by omega, fun hv => by have := e4 hv; omega⟩
theorem Many_val (e : Ex) (h : e.sz < 4611686018427387904) (most : Int) : ∃ d : Int, scrutinyref13_Many e most = some d ∧ 1 ≤ d ∧ d ≤ e.sz ∧ (d < most → d = e.sz) := many_val FUEL e most (by show e.sz ≤ 2 ^ 64; omega) h
theorem few_facts {e : Ex} (h : e.sz < 4611686018427387904) (hf : scrutinyref13_Few e = some true) : ht e ≤ 44 ∧ e.sz ≤ 299 := by
  obtain ⟨d, d1, d2, d3, d4⟩ := Deep_val e h (most := 45) (by omega) (by omega)
  obtain ⟨m, m1, m2, m3, m4⟩ := Many_val e h 300
  unfold scrutinyref13_Few at hf
  rw [d1, m1] at hf
  have : (decide (d < 45) && decide (m < 300)) = true := by injection hf
  simp only [Bool.and_eq_true, decide_eq_true_eq] at this
  have := d4 this.1
  have := m4 (by omega)
  omega
end Go.Proofs.YtmeombbmhpcacaaDoor
