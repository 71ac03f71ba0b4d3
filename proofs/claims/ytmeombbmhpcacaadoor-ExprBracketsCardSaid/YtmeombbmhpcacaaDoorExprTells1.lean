/-
  The plain laws of trees: key words, sameness, sizes, types: program and document agree. (own)
-/
import Derived.Test.YtmeombbmhpcacaaDoorExprEval
namespace Go.Proofs.YtmeombbmhpcacaaDoor

theorem str_mid {l pre r : List Str} {x : Str} (h : l = pre ++ x :: r) : idx l (pre.length : Int) = some x := by subst h; simp [idx]
theorem str_t {l pre r : List Str} {x : Str} (h : l = pre ++ x :: r) : decide ((pre.length : Int) < (List.length l : Int)) = true := by subst h; simp; omega
theorem str_f {l pre : List Str} (h : l = pre ++ []) : decide ((pre.length : Int) < (List.length l : Int)) = false := by subst h; simp
theorem index_loop (s : List Str) (v : Str) (hl : s.length < 4611686018427387904) : ∀ (r pre : List Str), s = pre ++ r → ∀ (M : Nat), r.length < M →
    ∃ z, fixN (slices_Index_string_string_L1 s v) M (pre.length : Int) = some z ∧ decide (0 ≤ z) = r.contains v
  | [], pre, h, M, hM => by
    obtain ⟨m, rfl⟩ : ∃ m, M = m + 1 := ⟨M - 1, by simp at hM; omega⟩
    rw [fixN_succ]
    simp only [slices_Index_string_string_L1, str_f h, cond_false]
    exact ⟨_, rfl, rfl⟩
  | x :: r, pre, h, M, hM => by
    obtain ⟨m, rfl⟩ : ∃ m, M = m + 1 := ⟨M - 1, by omega⟩
    rw [fixN_succ]
    have hlen : pre.length < 4611686018427387904 := by rw [h] at hl; simp at hl; omega
    obtain ⟨z, hz, hd⟩ := index_loop s v hl r (pre ++ [x]) (by rw [h]; simp) m (by simp at hM; omega)
    rw [show ((pre ++ [x]).length : Int) = ((pre.length + 1 : Nat) : Int) by simp] at hz
    simp only [slices_Index_string_string_L1, str_t h, cond_true, str_mid h, bind_s, next_ix hlen]
    cases hv : (v == x)
    · simp only [cond_false]
      exact ⟨z, hz, by rw [hd, List.contains_cons, hv, Bool.false_or]⟩
    · simp only [cond_true]
      exact ⟨_, rfl, by rw [List.contains_cons, hv, Bool.true_or]; simp⟩
theorem Contains_eq (s : List Str) (v : Str) (h : s.length < 4611686018427387904) : slices_Contains_string_string s v = some (s.contains v) := by
  obtain ⟨z, hz, hd⟩ := index_loop s v h s [] rfl FUEL (by show s.length < 2 ^ 64; omega)
  unfold slices_Contains_string_string slices_Index_string_string
  rw [show fixN (slices_Index_string_string_L1 s v) FUEL 0 = some z from hz, bind_s, hd]
theorem Key_eq (name : Str) : expr_Key name = some (keysL.contains name) := by
  unfold expr_Key
  rw [Contains_eq keysL name (by decide)]
  rfl
theorem RKey_eq (name : Str) : scrutinyref13_Key name = some (keysL.contains name) := by
  unfold scrutinyref13_Key scrutinyref13_Key_K1 keysL
  simp only [List.contains_cons, List.contains_nil, Bool.or_false]
  cases (name == [116, 114, 117, 101])
  case true => rfl
  cases (name == [102, 97, 108, 115, 101])
  case true => rfl
  cases (name == [88])
  case true => rfl
  cases (name == [70])
  case true => rfl
  cases (name == [71])
  case true => rfl
  cases (name == [85])
  case true => rfl
  cases (name == [82])
  case true => rfl
  cases (name == [118, 97, 114])
  case true => rfl
  cases (name == [112, 114, 111, 99]) <;> rfl

/-! same -/
theorem same_F (k : Ex × Ex → Option Bool) (a b : Ex) : expr_Same_F k a b = scrutinyref13_Same_F k a b := by
  unfold expr_Same_F scrutinyref13_Same_F slices_EqualFunc_api_Expr_api_Expr_api_Expr_api_Expr
  simp only [letv_e, bne]
  have hL : slices_EqualFunc_api_Expr_api_Expr_api_Expr_api_Expr_L1 k a.l b.l = scrutinyref13_Same_L1 k a b := rfl
  rw [hL]
  cases (a.op == b.op) <;> cases (a.n == b.n) <;> cases ((List.length a.l : Int) == (List.length b.l : Int)) <;> try rfl
  show (fixN (scrutinyref13_Same_L1 k a b) FUEL 0).bind (fun r => some (true && r)) = fixN (scrutinyref13_Same_L1 k a b) FUEL 0
  cases fixN (scrutinyref13_Same_L1 k a b) FUEL 0 <;> rfl
theorem Same_ref (a b : Ex) : expr_Same a b = scrutinyref13_Same a b := by
  unfold expr_Same scrutinyref13_Same
  have : (fun k (s : Ex × Ex) => expr_Same_F k s.1 s.2) = (fun k (s : Ex × Ex) => scrutinyref13_Same_F k s.1 s.2) := by
    funext k s; exact same_F k s.1 s.2
  rw [this]
mutual
def same : Ex → Ex → Bool
  | .mk o n _ l, b => o == b.op && n == b.n && sameL l b.l
def sameL : List Ex → List Ex → Bool
  | [], [] => true
  | x :: l, y :: m => same x y && sameL l m
  | [], _ :: _ => false
  | _ :: _, [] => false
end
theorem same_eq (a b : Ex) : same a b = (a.op == b.op && a.n == b.n && sameL a.l b.l) := by cases a; simp only [same, Ex.op, Ex.n, Ex.l]
theorem sameL_len : ∀ (l m : List Ex), l.length ≠ m.length → sameL l m = false
  | [], [], h => absurd rfl h
  | x :: l, y :: m, h => by simp only [sameL, sameL_len l m (by simpa using h), Bool.and_false]
  | [], _ :: _, _ => by simp only [sameL]
  | _ :: _, [], _ => by simp only [sameL]
theorem same_loop (k : Ex × Ex → Option Bool) (a b : Ex) (hk : ∀ x ∈ a.l, ∀ y, k (x, y) = some (same x y)) (hl : a.l.length < 4611686018427387904) :
    ∀ (r r' pre pre' : List Ex), a.l = pre ++ r → b.l = pre' ++ r' → pre.length = pre'.length → r.length = r'.length → ∀ (M : Nat), r.length < M → fixN (scrutinyref13_Same_L1 k a b) M (pre.length : Int) = some (sameL r r')
  | [], r', pre, pre', h, h', _, hrr, M, hM => by
    obtain ⟨m, rfl⟩ : ∃ m, M = m + 1 := ⟨M - 1, by simp at hM; omega⟩
    obtain rfl : r' = [] := List.eq_nil_of_length_eq_zero (by simpa using hrr.symm)
    rw [fixN_succ]
    simp only [scrutinyref13_Same_L1, lt_f h, cond_false, sameL]
  | x :: r, r', pre, pre', h, h', hpp, hrr, M, hM => by
    obtain ⟨m, rfl⟩ : ∃ m, M = m + 1 := ⟨M - 1, by omega⟩
    obtain ⟨y, r'', rfl⟩ : ∃ y t, r' = y :: t := by
      cases r' with
      | nil => simp at hrr
      | cons y t => exact ⟨y, t, rfl⟩
    rw [fixN_succ]
    have hlen : pre.length < 4611686018427387904 := by rw [h] at hl; simp at hl; omega
    have hx := hk x (by rw [h]; simp) y
    have ih := same_loop k a b hk hl r r'' (pre ++ [x]) (pre' ++ [y]) (by rw [h]; simp) (by rw [h']; simp) (by simp [hpp]) (by simpa using hrr) m (by simp at hM; omega)
    rw [show ((pre ++ [x]).length : Int) = ((pre.length + 1 : Nat) : Int) by simp] at ih
    have hy : idx b.l (pre.length : Int) = some y := by rw [hpp]; exact idx_mid h'
    simp only [scrutinyref13_Same_L1, lt_t h, cond_true, idx_mid h, hy, bind_s, hx, next_ix hlen, sameL]
    cases same x y
    · rfl
    · simp only [Bool.not_true, cond_false, Bool.true_and]; exact ih
theorem same_some : ∀ (N : Nat) (a b : Ex), a.sz ≤ N → a.sz < 4611686018427387904 → fixN (fun k (s : Ex × Ex) => scrutinyref13_Same_F k s.1 s.2) N (a, b) = some (same a b) := by
  intro N
  induction N with
  | zero => intro e _ h; have := sz_pos e; omega
  | succ N ih =>
    intro a b h hb
    rw [fixN_succ]
    have hl := len_lt a
    show scrutinyref13_Same_F _ a b = _
    unfold scrutinyref13_Same_F
    simp only [letv_e, bne]
    rw [same_eq]
    cases (a.op == b.op)
    · rfl
    cases (a.n == b.n)
    · rfl
    cases hq : ((List.length a.l : Int) == (List.length b.l : Int))
    · simp only [Bool.not_true, Bool.or_false, Bool.not_false, Bool.or_true, cond_true, Bool.true_and]
      rw [sameL_len _ _ (by have := beq_eq_false_iff_ne.1 hq; omega)]
    · simp only [Bool.not_true, Bool.or_false, cond_false, Bool.true_and]
      have hq' := beq_iff_eq.1 hq
      exact same_loop (fixN (fun k (s : Ex × Ex) => scrutinyref13_Same_F k s.1 s.2) N) a b (fun x hx y => ih x y (by have := sz_lt hx; omega) (by have := sz_lt hx; omega)) (by omega) a.l b.l [] [] rfl rfl rfl (by omega) FUEL (by show a.l.length < 2 ^ 64; omega)
theorem RSame_eq (a b : Ex) (h : a.sz < 4611686018427387904) : scrutinyref13_Same a b = some (same a b) := same_some FUEL a b (by show a.sz ≤ 2 ^ 64; omega) h

/-! sizes -/
theorem Size_ref (e : Ex) : expr_Size e = scrutinyref13_Size e := rfl
theorem size_loop (k : Ex → Option Int) (e : Ex) (hk : ∀ x ∈ e.l, ∃ n, k x = some n) (hl : e.l.length < 4611686018427387904) :
    ∀ (r pre : List Ex), e.l = pre ++ r → ∀ (M : Nat) (n : Int), r.length < M → ∃ v, fixN (scrutinyref13_Size_L1 k e) M (n, (pre.length : Int)) = some v
  | [], pre, h, M, n, hM => by
    obtain ⟨m, rfl⟩ : ∃ m, M = m + 1 := ⟨M - 1, by simp at hM; omega⟩
    rw [fixN_succ]
    simp only [scrutinyref13_Size_L1, lt_f h, cond_false]
    exact ⟨_, rfl⟩
  | x :: r, pre, h, M, n, hM => by
    obtain ⟨m, rfl⟩ : ∃ m, M = m + 1 := ⟨M - 1, by omega⟩
    rw [fixN_succ]
    obtain ⟨dx, hx⟩ := hk x (by rw [h]; simp)
    have hlen : pre.length < 4611686018427387904 := by rw [h] at hl; simp at hl; omega
    have ih := fun d => size_loop k e hk hl r (pre ++ [x]) (by rw [h]; simp) m d (by simp at hM; omega)
    rw [show ((pre ++ [x]).length : Int) = ((pre.length + 1 : Nat) : Int) by simp] at ih
    simp only [scrutinyref13_Size_L1, lt_t h, cond_true, idx_mid h, bind_s, hx, next_ix hlen]
    exact ih _
theorem size_some : ∀ (N : Nat) (e : Ex), e.sz ≤ N → e.sz < 4611686018427387904 → ∃ d, fixN (fun k (s : Ex) => scrutinyref13_Size_F k s) N e = some d := by
  intro N
  induction N with
  | zero => intro e h; have := sz_pos e; omega
  | succ N ih =>
    intro e h hb
    rw [fixN_succ]
    have hl := len_lt e
    exact size_loop _ e (fun x hx => ih x (by have := sz_lt hx; omega) (by have := sz_lt hx; omega)) (by omega) e.l [] rfl FUEL 1 (by show e.l.length < 2 ^ 64; omega)
theorem RSize_some (e : Ex) (h : e.sz < 4611686018427387904) : ∃ d, scrutinyref13_Size e = some d := size_some FUEL e (by show e.sz ≤ 2 ^ 64; omega) h

/-! types -/
theorem fin_same (op a len : Int) (i b t : Int) : tyFin op a (i == len) (b == len) (b + t == len) = rtFin op a len i b t := by
  unfold tyFin rtFin
  have h6 : decide (6 < op) = decide (7 ≤ op) := by
    by_cases h : 6 < op
    · rw [decide_eq_true h, decide_eq_true (by omega)]
    · rw [decide_eq_false h, decide_eq_false (by omega)]
  rw [h6]
  cases (decide (op ≤ 6) && (i == len))
  · cases (decide (7 ≤ op) && decide (op ≤ 12) && (i == len))
    · cases (op == 13)
      · cases (op == 14)
        · cases (decide (15 ≤ op) && decide (op ≤ 19) && (b == len)) <;> rfl
        · rfl
      · rfl
    · rfl
  · rfl
theorem types_loop (op a len : Int) : ∀ (r : List Ex) (m : Int) (i b t : Int), (∀ x ∈ r, ty x = rt x) → m + r.length = len → 0 ≤ i ∧ 0 ≤ b ∧ 0 ≤ t → i + b + t = m →
    tyA op a r (i == m) (b == m) (b + t == m) = rtA op a len r i b t
  | [], m, i, b, t, _, hm, h0, _ => by
    obtain rfl : m = len := by simpa using hm
    simp only [tyA, rtA]
    exact fin_same op a m i b t
  | x :: r, m, i, b, t, hx, hm, h0, hs => by
    have e := hx x (by simp)
    have one := ty_one x
    simp only [tyA, rtA, e] at one ⊢
    cases hf : ((rt x).2.1 != 0)
    · simp only [cond_false]
      have ih := types_loop op a len r (m + 1)
      have hr : ∀ y ∈ r, ty y = rt y := fun y hy => hx y (List.mem_cons_of_mem _ hy)
      have hm' : m + 1 + (r.length : Int) = len := by simp only [List.length_cons] at hm; omega
      have q : ∀ z : Int, z ≤ m → ((z == m) && true) = (z + 1 == m + 1) := fun z _ => by
        rw [Bool.and_true, Bool.eq_iff_iff, beq_iff_eq, beq_iff_eq]; omega
      have q0 : ∀ z : Int, z ≤ m → ((z == m) && false) = (z == m + 1) := fun z hz => by
        rw [Bool.and_false]; symm; rw [beq_eq_false_iff_ne]; omega
      rcases one (by simpa using hf) with h1 | h1 | h1
      · rw [h1]
        have := ih (i + 1) b t hr hm' ⟨by omega, by omega, by omega⟩ (by omega)
        rw [← q i (by omega), ← q0 b (by omega), ← q0 (b + t) (by omega)] at this
        exact this
      · rw [h1]
        have := ih i (b + 1) t hr hm' ⟨by omega, by omega, by omega⟩ (by omega)
        rw [show b + 1 + t = b + t + 1 by omega, ← q0 i (by omega), ← q b (by omega), ← q (b + t) (by omega)] at this
        exact this
      · rw [h1]
        have := ih i b (t + 1) hr hm' ⟨by omega, by omega, by omega⟩ (by omega)
        rw [show b + (t + 1) = b + t + 1 by omega, ← q0 i (by omega), ← q0 b (by omega), ← q (b + t) (by omega)] at this
        exact this
    · rfl
theorem types_same : ∀ (N : Nat) (e : Ex), e.sz ≤ N → ty e = rt e := by
  intro N
  induction N with
  | zero => intro e h; have := sz_pos e; omega
  | succ N ih =>
    intro e h
    rw [ty_eq, rt_eq]
    exact types_loop e.op e.at_ (e.l.length : Int) e.l 0 0 0 0 (fun x hx => ih x (by have := sz_lt hx; omega)) (by omega) ⟨by omega, by omega, by omega⟩ rfl
end Go.Proofs.YtmeombbmhpcacaaDoor
