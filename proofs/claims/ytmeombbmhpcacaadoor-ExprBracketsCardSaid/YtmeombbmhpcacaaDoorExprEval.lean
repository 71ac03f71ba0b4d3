/-
  The plain laws of trees: what a tree comes to; its type by the document's counting. (own)
-/
import Derived.Test.YtmeombbmhpcacaaDoorExprTree
namespace Go.Proofs.YtmeombbmhpcacaaDoor

def tr (b : Bool) : Int := bif b then 1 else 0
theorem truth_eq (b : Bool) : expr_truth b = some (tr b) := by cases b <;> rfl
def evF (op n : Int) (v : List Int) (a b : Int) : Int :=
  bif op == 1 then n else bif op == 2 then (bif decide (n < 0) || decide ((List.length v : Int) ≤ n) then 0 else v.getD n.toNat 0)
  else bif op == 3 then IntKind.i64.wrap (a + b) else bif op == 5 then IntKind.i64.wrap (a * b) else bif op == 6 then IntKind.i64.wrap (0 - a) else bif op == 4 then IntKind.i64.wrap (a - b)
  else bif op == 8 then tr ((a == b) != true) else bif op == 7 then tr ((a == b) != false) else bif op == 19 then tr ((a == b) != false)
  else bif op == 12 then tr (decide (a < b) != true) else bif op == 9 then tr (decide (a < b) != false) else bif op == 11 then tr (decide (a ≤ b) != true) else bif op == 10 then tr (decide (a ≤ b) != false)
  else bif op == 13 then 1 else bif op == 15 then IntKind.i64.wrap (1 - a) else bif op == 16 then IntKind.i64.wrap (a * b) else bif op == 17 then max a b else bif op == 18 then max (IntKind.i64.wrap (1 - a)) b else 0
mutual
def ev (v : List Int) : Ex → Int
  | .mk op n _ l => evF op n v (ev0 v l) (ev1 v l)
def ev0 (v : List Int) : List Ex → Int
  | [] => 0
  | x :: _ => ev v x
def ev1 (v : List Int) : List Ex → Int
  | [] => 0
  | _ :: r => ev0 v r
end
theorem ev_eq (v : List Int) (e : Ex) : ev v e = evF e.op e.n v (ev0 v e.l) (ev1 v e.l) := by cases e; simp only [ev, Ex.op, Ex.n, Ex.l]

theorem eval_last (k : Ex × List Int → Option Int) (e : Ex) (v : List Int) (again : Int × Int × Int → Option Int) (a b t : Int) (h : ¬ t < (List.length (cutL e.l 0 (min (List.length e.l : Int) 2)) : Int)) :
    expr_Eval_L1 k e v again (a, b, t) = some (evF e.op e.n v a b) := by
  simp only [expr_Eval_L1, decide_eq_false h, cond_false, letv_e, expr_Eval_K2, expr_Eval_K3, expr_Eval_K4, expr_Eval_K5, expr_Eval_K6, truth_eq, bind_s, evF]
  cases c2 : (decide (e.n < 0) || decide ((List.length v : Int) ≤ e.n))
  · have h1 : idx v e.n = some (v.getD e.n.toNat 0) := by
      simp only [Bool.or_eq_false_iff, decide_eq_false_iff_not] at c2
      unfold idx
      rw [if_pos (by omega), List.getElem?_eq_getElem (by omega)]
      simp [List.getD, List.getElem?_eq_getElem (show e.n.toNat < v.length by omega)]
    rw [h1]
    generalize (e.op == 1) = b1
    generalize (e.op == 2) = b2
    generalize (e.op == 3) = b3
    generalize (e.op == 5) = b5
    generalize (e.op == 6) = b6
    generalize (e.op == 4) = b4
    generalize (e.op == 8) = b8
    generalize (e.op == 7) = b7
    generalize (e.op == 19) = b19
    generalize (e.op == 12) = b12
    generalize (e.op == 9) = b9
    generalize (e.op == 11) = b11
    generalize (e.op == 10) = b10
    generalize (e.op == 13) = b13
    generalize (e.op == 15) = b15
    generalize (e.op == 16) = b16
    generalize (e.op == 17) = b17
    generalize (e.op == 18) = b18
    cases b1
    case true => rfl
    cases b2
    case true => rfl
    cases b3
    case true => rfl
    cases b5
    case true => rfl
    cases b6
    case true => rfl
    cases b4
    case true => rfl
    cases b8
    case true => rfl
    cases b7
    case true => rfl
    cases b19
    case true => rfl
    cases b12
    case true => rfl
    cases b9
    case true => rfl
    cases b11
    case true => rfl
    cases b10
    case true => rfl
    cases b13
    case true => rfl
    cases b15
    case true => rfl
    cases b16
    case true => rfl
    cases b17
    case true => rfl
    cases b18 <;> rfl
  · generalize (e.op == 1) = b1
    generalize (e.op == 2) = b2
    generalize (e.op == 3) = b3
    generalize (e.op == 5) = b5
    generalize (e.op == 6) = b6
    generalize (e.op == 4) = b4
    generalize (e.op == 8) = b8
    generalize (e.op == 7) = b7
    generalize (e.op == 19) = b19
    generalize (e.op == 12) = b12
    generalize (e.op == 9) = b9
    generalize (e.op == 11) = b11
    generalize (e.op == 10) = b10
    generalize (e.op == 13) = b13
    generalize (e.op == 15) = b15
    generalize (e.op == 16) = b16
    generalize (e.op == 17) = b17
    generalize (e.op == 18) = b18
    cases b1
    case true => rfl
    cases b2
    case true => rfl
    cases b3
    case true => rfl
    cases b5
    case true => rfl
    cases b6
    case true => rfl
    cases b4
    case true => rfl
    cases b8
    case true => rfl
    cases b7
    case true => rfl
    cases b19
    case true => rfl
    cases b12
    case true => rfl
    cases b9
    case true => rfl
    cases b11
    case true => rfl
    cases b10
    case true => rfl
    cases b13
    case true => rfl
    cases b15
    case true => rfl
    cases b16
    case true => rfl
    cases b17
    case true => rfl
    cases b18 <;> rfl
theorem eval_F (k : Ex × List Int → Option Int) (e : Ex) (v : List Int) (hk : ∀ x ∈ e.l, k (x, v) = some (ev v x)) : expr_Eval_F k e v = some (ev v e) := by
  unfold expr_Eval_F
  have hc : cutB 0 (min (List.length e.l : Int) 2) (List.length e.l) = true := cutB_iff.2 ⟨⟨Int.le_refl _, by omega⟩, by omega⟩
  rw [hc, ev_eq]
  show fixN (expr_Eval_L1 k e v) FUEL (0, 0, 0) = _
  rw [show FUEL = 18446744073709551613 + 1 + 1 + 1 from rfl]
  generalize 18446744073709551613 = N
  rw [fixN_succ]
  obtain ⟨op, n, a, l⟩ := e
  match l, hk with
  | [], _ => exact eval_last k (.mk op n a []) v _ 0 0 0 (by show ¬ (0 : Int) < ((List.length (cutL ([] : List Ex) 0 _) : Nat) : Int); simp [cutL])
  | [x], hk =>
    have hx := hk x (by simp [Ex.l])
    have hl : cutL [x] 0 (min (List.length [x] : Int) 2) = [x] := rfl
    have h1 : expr_Eval_L1 k (.mk op n a [x]) v (fixN (expr_Eval_L1 k (.mk op n a [x]) v) (N + 1 + 1)) (0, 0, 0) = fixN (expr_Eval_L1 k (.mk op n a [x]) v) (N + 1 + 1) (ev v x, 0, 1) := by
      simp only [expr_Eval_L1, Ex.l, hl]
      show (k (x, v)).bind _ = _
      rw [hx]
      rfl
    rw [h1, fixN_succ]
    exact eval_last k (.mk op n a [x]) v _ (ev v x) 0 1 (by show ¬ (1 : Int) < (List.length (cutL [x] 0 (min (List.length [x] : Int) 2)) : Int); rw [hl]; simp)
  | x :: y :: r, hk =>
    have hx := hk x (by simp [Ex.l])
    have hy := hk y (by simp [Ex.l])
    have hm : min (List.length (x :: y :: r) : Int) 2 = 2 := by simp only [List.length_cons]; omega
    have hl : cutL (x :: y :: r) 0 2 = [x, y] := rfl
    have h1 : expr_Eval_L1 k (.mk op n a (x :: y :: r)) v (fixN (expr_Eval_L1 k (.mk op n a (x :: y :: r)) v) (N + 1 + 1)) (0, 0, 0) = fixN (expr_Eval_L1 k (.mk op n a (x :: y :: r)) v) (N + 1 + 1) (ev v x, 0, 1) := by
      show (bif decide ((0 : Int) < (List.length (cutL (x :: y :: r) 0 (min (List.length (x :: y :: r) : Int) 2)) : Int)) then (idx (cutL (x :: y :: r) 0 (min (List.length (x :: y :: r) : Int) 2)) 0).bind _ else _) = _
      rw [hm, hl]
      show (k (x, v)).bind _ = _
      rw [hx]
      rfl
    have h2 : expr_Eval_L1 k (.mk op n a (x :: y :: r)) v (fixN (expr_Eval_L1 k (.mk op n a (x :: y :: r)) v) (N + 1)) (ev v x, 0, 1) = fixN (expr_Eval_L1 k (.mk op n a (x :: y :: r)) v) (N + 1) (ev v x, ev v y, 2) := by
      show (bif decide ((1 : Int) < (List.length (cutL (x :: y :: r) 0 (min (List.length (x :: y :: r) : Int) 2)) : Int)) then (idx (cutL (x :: y :: r) 0 (min (List.length (x :: y :: r) : Int) 2)) 1).bind _ else _) = _
      rw [hm, hl]
      show (k (y, v)).bind _ = _
      rw [hy]
      rfl
    rw [h1, fixN_succ, h2, fixN_succ]
    exact eval_last k (.mk op n a (x :: y :: r)) v _ (ev v x) (ev v y) 2 (by show ¬ (2 : Int) < (List.length (cutL (x :: y :: r) 0 (min (List.length (x :: y :: r) : Int) 2)) : Int); rw [hm, hl]; simp)
theorem eval_some : ∀ (N : Nat) (e : Ex) (v : List Int), e.sz ≤ N → fixN (fun k (s : Ex × List Int) => expr_Eval_F k s.1 s.2) N (e, v) = some (ev v e) := by
  intro N
  induction N with
  | zero => intro e _ h; have := sz_pos e; omega
  | succ N ih =>
    intro e v h
    rw [fixN_succ]
    exact eval_F _ e v (fun x hx => ih x v (by have := sz_lt hx; omega))
theorem Eval_eq (e : Ex) (h : e.sz < 4611686018427387904) (v : List Int) : expr_Eval e v = some (ev v e) := eval_some FUEL e v (by show e.sz ≤ 2 ^ 64; omega)

/-! the document's types: by counts -/
def rtFin (op a len i b t : Int) : Int × Int × Int :=
  bif decide (op ≤ 6) && (i == len) then (1, 0, 0)
  else bif decide (7 ≤ op) && decide (op ≤ 12) && (i == len) || op == 13 || op == 14 then (2, 0, 0)
  else bif decide (15 ≤ op) && decide (op ≤ 19) && (b == len) then (2, 0, 0)
  else bif decide (15 ≤ op) && (b + t == len) then (3, 0, 0) else (0, 4, a)
mutual
def rt : Ex → Int × Int × Int
  | .mk op _ a l => rtA op a (l.length : Int) l 0 0 0
def rtA (op a len : Int) : List Ex → Int → Int → Int → Int × Int × Int
  | [], i, b, t => rtFin op a len i b t
  | x :: r, i, b, t => bif (rt x).2.1 != 0 then (0, (rt x).2.1, (rt x).2.2) else rtA op a len r (bif (rt x).1 == 1 then i + 1 else i) (bif (rt x).1 == 2 then b + 1 else b) (bif (rt x).1 == 3 then t + 1 else t)
end
theorem rt_eq (e : Ex) : rt e = rtA e.op e.at_ (e.l.length : Int) e.l 0 0 0 := by cases e; simp only [rt, Ex.op, Ex.at_, Ex.l]
theorem rtype_loop (k : Ex → Option (Int × Int × Int)) (e : Ex) (hk : ∀ x ∈ e.l, k x = some (rt x)) (hl : e.l.length < 1152921504606846976) :
    ∀ (r pre : List Ex), e.l = pre ++ r → ∀ (M : Nat) (i b t : Int), 0 ≤ i ∧ i ≤ pre.length → 0 ≤ b ∧ b ≤ pre.length → 0 ≤ t ∧ t ≤ pre.length → r.length < M →
      fixN (scrutinyref13_Type_L1 k e) M (i, b, t, (pre.length : Int)) = some (rtA e.op e.at_ (e.l.length : Int) r i b t)
  | [], pre, h, M, i, b, t, hi, hb, ht, hM => by
    obtain ⟨m, rfl⟩ : ∃ m, M = m + 1 := ⟨M - 1, by simp at hM; omega⟩
    rw [fixN_succ]
    have hlen : pre.length < 1152921504606846976 := by rw [h] at hl; simp at hl; omega
    have hw : IntKind.i64.wrap (b + t) = b + t := w64 (by omega)
    simp only [scrutinyref13_Type_L1, lt_f h, cond_false, letv_e, rtA, rtFin, hw]
    generalize (decide (e.op ≤ 6) && (i == (e.l.length : Int))) = c1
    generalize (decide (7 ≤ e.op) && decide (e.op ≤ 12) && (i == (e.l.length : Int)) || e.op == 13 || e.op == 14) = c2
    generalize (decide (15 ≤ e.op) && decide (e.op ≤ 19) && (b == (e.l.length : Int))) = c3
    generalize (decide (15 ≤ e.op) && (b + t == (e.l.length : Int))) = c4
    cases c1 <;> cases c2 <;> cases c3 <;> cases c4 <;> rfl
  | x :: r, pre, h, M, i, b, t, hi, hb, ht, hM => by
    obtain ⟨m, rfl⟩ : ∃ m, M = m + 1 := ⟨M - 1, by omega⟩
    rw [fixN_succ]
    have hx : k x = some (rt x) := hk x (by rw [h]; simp)
    have hlen : pre.length < 1152921504606846976 := by rw [h] at hl; simp at hl; omega
    have ih := fun i b t hi hb ht => rtype_loop k e hk hl r (pre ++ [x]) (by rw [h]; simp) m i b t hi hb ht (by simp at hM; omega)
    have hp : ((pre ++ [x]).length : Int) = ((pre.length + 1 : Nat) : Int) := by simp
    rw [hp] at ih
    have wi : IntKind.i64.wrap (i + 1) = i + 1 := w64 (by omega)
    have wb : IntKind.i64.wrap (b + 1) = b + 1 := w64 (by omega)
    have wt : IntKind.i64.wrap (t + 1) = t + 1 := w64 (by omega)
    simp only [scrutinyref13_Type_L1, scrutinyref13_Type_K2, scrutinyref13_Type_K3, lt_t h, cond_true, idx_mid h, bind_s, hx, letv_e, next_ix (show pre.length < 4611686018427387904 by omega), rtA, wi, wb, wt]
    cases (rt x).2.1 != 0
    · simp only [cond_false]
      cases (rt x).1 == 1 <;> cases (rt x).1 == 2 <;> cases (rt x).1 == 3 <;> simp only [cond_false, cond_true] <;> exact ih _ _ _ (by omega) (by omega) (by omega)
    · rfl
theorem rtype_some : ∀ (N : Nat) (e : Ex), e.sz ≤ N → e.sz < 1152921504606846976 → fixN (fun k s => scrutinyref13_Type_F k s) N e = some (rt e) := by
  intro N
  induction N with
  | zero => intro e h; have := sz_pos e; omega
  | succ N ih =>
    intro e h hb
    rw [fixN_succ]
    show fixN (scrutinyref13_Type_L1 _ e) FUEL (0, 0, 0, 0) = _
    have hl := len_lt e
    rw [rt_eq]
    exact rtype_loop (fixN (fun k s => scrutinyref13_Type_F k s) N) e (fun x hx => ih x (by have := sz_lt hx; omega) (by have := sz_lt hx; omega)) (by omega) e.l [] rfl FUEL 0 0 0 (by simp) (by simp) (by simp) (by show e.l.length < 2 ^ 64; omega)
theorem RType_eq (e : Ex) (h : e.sz < 1152921504606846976) : scrutinyref13_Type e = some (rt e) := rtype_some FUEL e (by show e.sz ≤ 2 ^ 64; omega) h
end Go.Proofs.YtmeombbmhpcacaaDoor
