/-
  The plain laws of trees: sizes, and what each function over a tree comes to. (own)
-/
import Derived.Test.YtmeombbmhpcacaaDoorModel
import Derived.Test.YtmeombbmhpcacaaDoorKFx
import Derived.KernelRfl
namespace Go.Proofs.YtmeombbmhpcacaaDoor

theorem shown_true : scrutinylaw13_shown = some true := by kernel_rfl

theorem sz_pos (e : Ex) : 1 ≤ e.sz := by rw [Ex.sz_l]; omega
theorem sz_mem {x : Ex} : ∀ {l : List Ex}, x ∈ l → x.sz ≤ szL l
  | y :: l, h => by
    simp only [szL]
    rcases List.mem_cons.1 h with rfl | h
    · omega
    · have := sz_mem h; omega
theorem szL_len : ∀ (l : List Ex), l.length ≤ szL l
  | [] => Nat.le_refl _
  | x :: l => by have := szL_len l; have := sz_pos x; simp only [szL, List.length_cons]; omega
theorem sz_lt {e x : Ex} (h : x ∈ e.l) : x.sz < e.sz := by have := sz_mem h; rw [Ex.sz_l e]; omega
theorem len_lt (e : Ex) : e.l.length < e.sz := by have := szL_len e.l; rw [Ex.sz_l e]; omega

theorem bind_s {α ρ : Type} (x : α) (k : α → Option ρ) : (some x).bind k = k x := rfl
theorem letv_e {α ρ : Type} (x : α) (k : α → Option ρ) : letv x k = k x := rfl
theorem callG_tt {α ρ : Type} (d : α) (m : Option α) (k : α → Option ρ) : callG true d m k = m.bind k := rfl
theorem callG_ff {α ρ : Type} (d : α) (m : Option α) (k : α → Option ρ) : callG false d m k = k d := rfl
theorem fuel_big {n : Nat} (h : n < 18446744073709551616) : ∃ m, FUEL = m + 1 ∧ n ≤ m := ⟨18446744073709551615, rfl, by omega⟩
theorem idx_mid {l pre r : List Ex} {x : Ex} (h : l = pre ++ x :: r) : idx l (pre.length : Int) = some x := by subst h; simp [idx]
theorem next_ix {n : Nat} (h : n < 4611686018427387904) : IntKind.i64.wrap ((n : Int) + 1) = ((n + 1 : Nat) : Int) := by rw [w64 (by omega)]; omega
theorem lt_t {l pre r : List Ex} {x : Ex} (h : l = pre ++ x :: r) : decide ((pre.length : Int) < (List.length l : Int)) = true := by subst h; simp; omega
theorem lt_f {l pre : List Ex} (h : l = pre ++ []) : decide ((pre.length : Int) < (List.length l : Int)) = false := by subst h; simp

/-! types -/
def tyFin (op a : Int) (i b t : Bool) : Int × Int × Int :=
  bif decide (op ≤ 6) && i then (1, 0, 0)
  else bif decide (6 < op) && decide (op ≤ 12) && i || op == 13 || op == 14 || decide (15 ≤ op) && decide (op ≤ 19) && b then (2, 0, 0)
  else bif decide (15 ≤ op) && t then (3, 0, 0) else (0, 4, a)
mutual
def ty : Ex → Int × Int × Int
  | .mk op _ a l => tyA op a l true true true
def tyA (op a : Int) : List Ex → Bool → Bool → Bool → Int × Int × Int
  | [], i, b, t => tyFin op a i b t
  | x :: r, i, b, t => bif (ty x).2.1 != 0 then (0, (ty x).2.1, (ty x).2.2) else tyA op a r (i && (ty x).1 == 1) (b && (ty x).1 == 2) (t && (ty x).1 != 1)
end
theorem ty_eq (e : Ex) : ty e = tyA e.op e.at_ e.l true true true := by cases e; simp only [ty, Ex.op, Ex.at_, Ex.l]

theorem type_loop (k : Ex → Option (Int × Int × Int)) (e : Ex) (hk : ∀ x ∈ e.l, k x = some (ty x)) (hl : e.l.length < 4611686018427387904) :
    ∀ (r pre : List Ex), e.l = pre ++ r → ∀ (M : Nat) (i b t : Bool), r.length < M → fixN (expr_Type_L1 k e) M (i, b, t, (pre.length : Int)) = some (tyA e.op e.at_ r i b t)
  | [], pre, h, M, i, b, t, hM => by
    obtain ⟨m, rfl⟩ : ∃ m, M = m + 1 := ⟨M - 1, by simp at hM; omega⟩
    rw [fixN_succ]
    simp only [expr_Type_L1, lt_f h, cond_false, letv_e, expr_Type_K2, tyA, tyFin]
    generalize decide (e.op ≤ 6) = c1
    generalize decide (6 < e.op) = c2
    generalize decide (e.op ≤ 12) = c3
    generalize (e.op == 13) = c4
    generalize (e.op == 14) = c5
    generalize decide (15 ≤ e.op) = c6
    generalize decide (e.op ≤ 19) = c7
    cases c1 <;> cases i <;> cases c2 <;> cases c3 <;> cases c4 <;> cases c5 <;> cases c6 <;> cases c7 <;> cases b <;> cases t <;> rfl
  | x :: r, pre, h, M, i, b, t, hM => by
    obtain ⟨m, rfl⟩ : ∃ m, M = m + 1 := ⟨M - 1, by omega⟩
    rw [fixN_succ]
    have hx : k x = some (ty x) := hk x (by rw [h]; simp)
    have hlen : pre.length < 4611686018427387904 := by rw [h] at hl; simp at hl; omega
    have ih := type_loop k e hk hl r (pre ++ [x]) (by rw [h]; simp) m (i && (ty x).1 == 1) (b && (ty x).1 == 2) (t && (ty x).1 != 1) (by simp at hM; omega)
    rw [show ((pre ++ [x]).length : Int) = ((pre.length + 1 : Nat) : Int) by simp] at ih
    simp only [expr_Type_L1, lt_t h, cond_true, idx_mid h, bind_s, hx, letv_e, next_ix hlen, tyA]
    cases (ty x).2.1 != 0
    · exact ih
    · rfl
theorem type_some : ∀ (N : Nat) (e : Ex), e.sz ≤ N → e.sz < 4611686018427387904 → fixN (fun k s => expr_Type_F k s) N e = some (ty e) := by
  intro N
  induction N with
  | zero => intro e h; have := sz_pos e; omega
  | succ N ih =>
    intro e h hb
    rw [fixN_succ]
    show fixN (expr_Type_L1 _ e) FUEL (true, true, true, 0) = _
    have hl := len_lt e
    have := type_loop (fixN (fun k s => expr_Type_F k s) N) e (fun x hx => ih x (by have := sz_lt hx; omega) (by have := sz_lt hx; omega)) (by omega) e.l [] rfl FUEL true true true (by show e.l.length < 2 ^ 64; omega)
    rw [ty_eq]
    exact this
theorem Type_eq (e : Ex) (h : e.sz < 4611686018427387904) : expr_Type e = some (ty e) := type_some FUEL e (by show e.sz ≤ 2 ^ 64; omega) h

theorem tyFin_one (op a : Int) (i b t : Bool) : (tyFin op a i b t).2.1 = 0 → (tyFin op a i b t).1 = 1 ∨ (tyFin op a i b t).1 = 2 ∨ (tyFin op a i b t).1 = 3 := by
  unfold tyFin
  cases decide (op ≤ 6) && i
  · cases decide (6 < op) && decide (op ≤ 12) && i || op == 13 || op == 14 || decide (15 ≤ op) && decide (op ≤ 19) && b
    · cases decide (15 ≤ op) && t
      · intro h; cases h
      · intro _; exact .inr (.inr rfl)
    · intro _; exact .inr (.inl rfl)
  · intro _; exact .inl rfl
theorem tyA_one (op a : Int) : ∀ (l : List Ex) (i b t : Bool), (tyA op a l i b t).2.1 = 0 → (tyA op a l i b t).1 = 1 ∨ (tyA op a l i b t).1 = 2 ∨ (tyA op a l i b t).1 = 3
  | [], i, b, t => tyFin_one op a i b t
  | x :: r, i, b, t => by
    simp only [tyA]
    cases h : (ty x).2.1 != 0
    · simp only [cond_false]; exact tyA_one op a r _ _ _
    · simp only [cond_true]
      intro h0
      rw [h0] at h; cases h
theorem ty_one (e : Ex) : (ty e).2.1 = 0 → (ty e).1 = 1 ∨ (ty e).1 = 2 ∨ (ty e).1 = 3 := by rw [ty_eq]; exact tyA_one _ _ _ _ _ _

/-! depth, parts, may: there is an answer -/
theorem deep_loop (k : Ex × Int → Option Int) (e : Ex) (most : Int) (hk : ∀ x ∈ e.l, ∀ m, ∃ d, k (x, m) = some d) (hl : e.l.length < 4611686018427387904) :
    ∀ (r pre : List Ex), e.l = pre ++ r → ∀ (M : Nat) (d : Int), r.length < M → ∃ v, fixN (scrutinyref13_Deep_L1 k e most) M (d, (pre.length : Int)) = some v
  | [], pre, h, M, d, hM => by
    obtain ⟨m, rfl⟩ : ∃ m, M = m + 1 := ⟨M - 1, by simp at hM; omega⟩
    rw [fixN_succ]
    simp only [scrutinyref13_Deep_L1, lt_f h, letv_e, Bool.false_and, cond_false]
    exact ⟨_, rfl⟩
  | x :: r, pre, h, M, d, hM => by
    obtain ⟨m, rfl⟩ : ∃ m, M = m + 1 := ⟨M - 1, by omega⟩
    rw [fixN_succ]
    obtain ⟨dx, hx⟩ := hk x (by rw [h]; simp) (IntKind.i64.wrap (most - 1))
    have hlen : pre.length < 4611686018427387904 := by rw [h] at hl; simp at hl; omega
    have ih := fun d => deep_loop k e most hk hl r (pre ++ [x]) (by rw [h]; simp) m d (by simp at hM; omega)
    rw [show ((pre ++ [x]).length : Int) = ((pre.length + 1 : Nat) : Int) by simp] at ih
    simp only [scrutinyref13_Deep_L1, lt_t h, letv_e, Bool.true_and]
    cases decide (1 < most)
    · simp only [cond_false]; exact ⟨_, rfl⟩
    · simp only [cond_true, idx_mid h, bind_s, hx, next_ix hlen]
      cases decide (d < IntKind.i64.wrap (1 + dx))
      · simp only [cond_false]; exact ih _
      · simp only [cond_true]; exact ih _
theorem deep_some : ∀ (N : Nat) (e : Ex) (most : Int), e.sz ≤ N → e.sz < 4611686018427387904 → ∃ d, fixN (fun k (s : Ex × Int) => scrutinyref13_Deep_F k s.1 s.2) N (e, most) = some d := by
  intro N
  induction N with
  | zero => intro e _ h; have := sz_pos e; omega
  | succ N ih =>
    intro e most h hb
    rw [fixN_succ]
    show ∃ d, fixN (scrutinyref13_Deep_L1 _ e most) FUEL (1, 0) = some d
    have hl := len_lt e
    exact deep_loop _ e most (fun x hx m => ih x m (by have := sz_lt hx; omega) (by have := sz_lt hx; omega)) (by omega) e.l [] rfl FUEL 1 (by show e.l.length < 2 ^ 64; omega)
theorem many_loop (k : Ex × Int → Option Int) (e : Ex) (most : Int) (hk : ∀ x ∈ e.l, ∀ m, ∃ d, k (x, m) = some d) (hl : e.l.length < 4611686018427387904) :
    ∀ (r pre : List Ex), e.l = pre ++ r → ∀ (M : Nat) (d : Int), r.length < M → ∃ v, fixN (scrutinyref13_Many_L1 k e most) M (d, (pre.length : Int)) = some v
  | [], pre, h, M, d, hM => by
    obtain ⟨m, rfl⟩ : ∃ m, M = m + 1 := ⟨M - 1, by simp at hM; omega⟩
    rw [fixN_succ]
    simp only [scrutinyref13_Many_L1, lt_f h, letv_e, Bool.false_and, cond_false]
    exact ⟨_, rfl⟩
  | x :: r, pre, h, M, d, hM => by
    obtain ⟨m, rfl⟩ : ∃ m, M = m + 1 := ⟨M - 1, by omega⟩
    rw [fixN_succ]
    obtain ⟨dx, hx⟩ := hk x (by rw [h]; simp) most
    have hlen : pre.length < 4611686018427387904 := by rw [h] at hl; simp at hl; omega
    have ih := fun d => many_loop k e most hk hl r (pre ++ [x]) (by rw [h]; simp) m d (by simp at hM; omega)
    rw [show ((pre ++ [x]).length : Int) = ((pre.length + 1 : Nat) : Int) by simp] at ih
    simp only [scrutinyref13_Many_L1, lt_t h, letv_e, Bool.true_and]
    cases decide (d < most)
    · simp only [cond_false]; exact ⟨_, rfl⟩
    · simp only [cond_true, idx_mid h, bind_s, hx, next_ix hlen]; exact ih _
theorem many_some : ∀ (N : Nat) (e : Ex) (most : Int), e.sz ≤ N → e.sz < 4611686018427387904 → ∃ d, fixN (fun k (s : Ex × Int) => scrutinyref13_Many_F k s.1 s.2) N (e, most) = some d := by
  intro N
  induction N with
  | zero => intro e _ h; have := sz_pos e; omega
  | succ N ih =>
    intro e most h hb
    rw [fixN_succ]
    show ∃ d, fixN (scrutinyref13_Many_L1 _ e most) FUEL (1, 0) = some d
    have hl := len_lt e
    exact many_loop _ e most (fun x hx m => ih x m (by have := sz_lt hx; omega) (by have := sz_lt hx; omega)) (by omega) e.l [] rfl FUEL 1 (by show e.l.length < 2 ^ 64; omega)
theorem Few_some (e : Ex) (h : e.sz < 4611686018427387904) : ∃ b, scrutinyref13_Few e = some b := by
  obtain ⟨d, hd⟩ := deep_some FUEL e 45 (by show e.sz ≤ 2 ^ 64; omega) h
  obtain ⟨m, hm⟩ := many_some FUEL e 300 (by show e.sz ≤ 2 ^ 64; omega) h
  refine ⟨decide (d < 45) && decide (m < 300), ?_⟩
  unfold scrutinyref13_Few scrutinyref13_Deep scrutinyref13_Many
  rw [hd, hm]
  rfl

/-! may a tree be read -/
def wantOf (op : Int) : Int := bif op == 1 || op == 2 || op == 13 || op == 14 then 0 else bif op == 6 || op == 15 || op == 20 || op == 21 || op == 22 then 1 else 2
def mayH (op n len want vars : Int) : Bool :=
  !(decide (op < 1) || decide (24 < op) || len != want) && !((op == 1) && (decide (n < 0) || decide (1073741824 < n)) || (op == 2) && (decide (n < 0) || decide (vars ≤ n)) || decide (2 < op) && n != 0)
mutual
def mayE (vars : Int) : Ex → Bool
  | .mk op n _ l => mayH op n (l.length : Int) (wantOf op) vars && mayL vars l
def mayL (vars : Int) : List Ex → Bool
  | [] => true
  | x :: r => mayE vars x && mayL vars r
end
theorem mayE_eq (vars : Int) (e : Ex) : mayE vars e = (mayH e.op e.n (e.l.length : Int) (wantOf e.op) vars && mayL vars e.l) := by cases e; simp only [mayE, Ex.op, Ex.n, Ex.l]
theorem may_loop (k : Ex × Int → Option Bool) (e : Ex) (vars : Int) (hk : ∀ x ∈ e.l, k (x, vars) = some (mayE vars x)) (hl : e.l.length < 4611686018427387904) :
    ∀ (r pre : List Ex), e.l = pre ++ r → ∀ (M : Nat), r.length < M → fixN (scrutinyref13_May_L2 k e vars (e.l.length : Int)) M (pre.length : Int) = some (mayL vars r)
  | [], pre, h, M, hM => by
    obtain ⟨m, rfl⟩ : ∃ m, M = m + 1 := ⟨M - 1, by simp at hM; omega⟩
    rw [fixN_succ]
    simp only [scrutinyref13_May_L2, lt_f h, cond_false, mayL]
  | x :: r, pre, h, M, hM => by
    obtain ⟨m, rfl⟩ : ∃ m, M = m + 1 := ⟨M - 1, by omega⟩
    rw [fixN_succ]
    have hx := hk x (by rw [h]; simp)
    have hlen : pre.length < 4611686018427387904 := by rw [h] at hl; simp at hl; omega
    have ih := may_loop k e vars hk hl r (pre ++ [x]) (by rw [h]; simp) m (by simp at hM; omega)
    rw [show ((pre ++ [x]).length : Int) = ((pre.length + 1 : Nat) : Int) by simp] at ih
    simp only [scrutinyref13_May_L2, lt_t h, cond_true, idx_mid h, bind_s, hx, next_ix hlen, mayL]
    cases mayE vars x
    · rfl
    · simp only [Bool.not_true, cond_false, Bool.true_and]; exact ih
theorem may_K1 (k : Ex × Int → Option Bool) (e : Ex) (vars want : Int) (hk : ∀ x ∈ e.l, k (x, vars) = some (mayE vars x)) (hl : e.l.length < 4611686018427387904) :
    scrutinyref13_May_K1 k e vars want = some (mayH e.op e.n (e.l.length : Int) want vars && mayL vars e.l) := by
  have loop : ((e.l.length : Int) != want) = false → fixN (scrutinyref13_May_L2 k e vars want) FUEL 0 = some (mayL vars e.l) := fun hw => by
    have hw : (e.l.length : Int) = want := by simpa using hw
    rw [← hw]
    exact may_loop k e vars hk hl e.l [] rfl FUEL (by show e.l.length < 2 ^ 64; omega)
  unfold scrutinyref13_May_K1 mayH
  simp only [letv_e]
  generalize decide (e.op < 1) = c1
  generalize decide (24 < e.op) = c2
  generalize ((e.l.length : Int) != want) = c3 at *
  generalize ((e.op == 1) && (decide (e.n < 0) || decide (1073741824 < e.n)) || (e.op == 2) && (decide (e.n < 0) || decide (vars ≤ e.n)) || decide (2 < e.op) && e.n != 0) = c4
  cases c1 <;> cases c2 <;> cases c3 <;> cases c4 <;> first | exact loop rfl | rfl
theorem may_F (k : Ex × Int → Option Bool) (e : Ex) (vars : Int) : scrutinyref13_May_F k e vars = scrutinyref13_May_K1 k e vars (wantOf e.op) := by
  unfold scrutinyref13_May_F scrutinyref13_May_K3 scrutinyref13_May_K4 wantOf
  generalize (e.op == 1) = c1
  generalize (e.op == 2) = c2
  generalize (e.op == 13) = c3
  generalize (e.op == 14) = c4
  generalize (e.op == 6) = c5
  generalize (e.op == 15) = c6
  generalize (e.op == 20) = c7
  generalize (e.op == 21) = c8
  generalize (e.op == 22) = c9
  cases c1
  · cases c2
    · cases c3
      · cases c4
        · cases c5
          · cases c6
            · cases c7
              · cases c8
                · cases c9 <;> rfl
                · rfl
              · rfl
            · rfl
          · rfl
        · rfl
      · rfl
    · rfl
  · rfl
theorem may_some : ∀ (N : Nat) (e : Ex) (vars : Int), e.sz ≤ N → e.sz < 4611686018427387904 → fixN (fun k (s : Ex × Int) => scrutinyref13_May_F k s.1 s.2) N (e, vars) = some (mayE vars e) := by
  intro N
  induction N with
  | zero => intro e _ h; have := sz_pos e; omega
  | succ N ih =>
    intro e vars h hb
    rw [fixN_succ]
    show scrutinyref13_May_F _ e vars = _
    have hl := len_lt e
    rw [may_F, may_K1 _ e vars _ (fun x hx => ih x vars (by have := sz_lt hx; omega) (by have := sz_lt hx; omega)) (by omega), mayE_eq]
theorem May_eq (e : Ex) (h : e.sz < 4611686018427387904) (vars : Int) : scrutinyref13_May e vars = some (mayE vars e) := may_some FUEL e vars (by show e.sz ≤ 2 ^ 64; omega) h
end Go.Proofs.YtmeombbmhpcacaaDoor
