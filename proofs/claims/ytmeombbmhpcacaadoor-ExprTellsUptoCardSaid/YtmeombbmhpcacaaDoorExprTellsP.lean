/-
  The plain law: TELLS: what trees come to, and the law itself. (own)
-/
import Derived.Test.YtmeombbmhpcacaaDoorExprLawsP
import Derived.Test.YtmeombbmhpcacaaDoorExprTells2
namespace Go.Proofs.YtmeombbmhpcacaaDoor

theorem rtruth_eq (b : Bool) : scrutinyref13_truth b = some (tr b) := by cases b <;> rfl
theorem reval_K2 (op n a' : Int) (l : List Ex) (v : List Int) (a b : Int) (hab : 15 ≤ op → (a = 0 ∨ a = 1) ∧ (b = 0 ∨ b = 1)) : scrutinyref13_Eval_K2 (.mk op n a' l) v a b = some (evF op n v a b) := by
  have hc : (op = 1 ∨ op = 2 ∨ op = 3 ∨ op = 4 ∨ op = 5 ∨ op = 6 ∨ op = 7 ∨ op = 8 ∨ op = 9 ∨ op = 10 ∨ op = 11 ∨ op = 12 ∨ op = 13 ∨ op = 15 ∨ op = 16 ∨ op = 17 ∨ op = 18 ∨ op = 19) ∨ (op < 1 ∨ op = 14 ∨ 19 < op) := by omega
  rcases hc with hc | hc
  · rcases hc with rfl | rfl | rfl | rfl | rfl | rfl | rfl | rfl | rfl | rfl | rfl | rfl | rfl | rfl | rfl | rfl | rfl | rfl
    · rfl
    · show (bif (decide (0 ≤ n) && decide (n < (List.length v : Int))) then (idx v n).bind (fun z => some z) else some 0) = some (bif decide (n < 0) || decide ((List.length v : Int) ≤ n) then 0 else v.getD n.toNat 0)
      by_cases h0 : 0 ≤ n
      · by_cases h1 : n < (List.length v : Int)
        · rw [decide_eq_true h0, decide_eq_true h1, decide_eq_false (by omega), decide_eq_false (by omega)]
          have : idx v n = some (v.getD n.toNat 0) := by
            unfold idx
            rw [if_pos h0, List.getElem?_eq_getElem (by omega)]
            simp [List.getD, List.getElem?_eq_getElem (show n.toNat < v.length by omega)]
          rw [this]; rfl
        · rw [decide_eq_true h0, decide_eq_false h1, decide_eq_false (by omega), decide_eq_true (by omega)]; rfl
      · rw [decide_eq_false h0, decide_eq_true (show n < 0 by omega)]; rfl
    · rfl
    · rfl
    · rfl
    · rfl
    · show (scrutinyref13_truth (a == b)).bind (fun z => some z) = some (tr ((a == b) != false))
      cases (a == b) <;> rfl
    · show (scrutinyref13_truth (!(a == b))).bind (fun z => some z) = some (tr ((a == b) != true))
      cases (a == b) <;> rfl
    · show (scrutinyref13_truth (decide (a < b))).bind (fun z => some z) = some (tr (decide (a < b) != false))
      cases decide (a < b) <;> rfl
    · show (scrutinyref13_truth (decide (a ≤ b))).bind (fun z => some z) = some (tr (decide (a ≤ b) != false))
      cases decide (a ≤ b) <;> rfl
    · show (scrutinyref13_truth (decide (b < a))).bind (fun z => some z) = some (tr (decide (a ≤ b) != true))
      by_cases h : a ≤ b
      · rw [decide_eq_true h, decide_eq_false (by omega)]; rfl
      · rw [decide_eq_false h, decide_eq_true (by omega)]; rfl
    · show (scrutinyref13_truth (decide (b ≤ a))).bind (fun z => some z) = some (tr (decide (a < b) != true))
      by_cases h : a < b
      · rw [decide_eq_true h, decide_eq_false (by omega)]; rfl
      · rw [decide_eq_false h, decide_eq_true (by omega)]; rfl
    · rfl
    · obtain ⟨ha, hb⟩ := hab (by omega)
      rcases ha with rfl | rfl <;> rfl
    · obtain ⟨ha, hb⟩ := hab (by omega)
      rcases ha with rfl | rfl <;> rcases hb with rfl | rfl <;> rfl
    · obtain ⟨ha, hb⟩ := hab (by omega)
      rcases ha with rfl | rfl <;> rcases hb with rfl | rfl <;> rfl
    · obtain ⟨ha, hb⟩ := hab (by omega)
      rcases ha with rfl | rfl <;> rcases hb with rfl | rfl <;> rfl
    · show (scrutinyref13_truth (a == b)).bind (fun z => some z) = some (tr ((a == b) != false))
      cases (a == b) <;> rfl
  · have b1 : (op == 1) = false := beq_eq_false_iff_ne.2 (by omega)
    have b2 : (op == 2) = false := beq_eq_false_iff_ne.2 (by omega)
    have b3 : (op == 3) = false := beq_eq_false_iff_ne.2 (by omega)
    have b4 : (op == 4) = false := beq_eq_false_iff_ne.2 (by omega)
    have b5 : (op == 5) = false := beq_eq_false_iff_ne.2 (by omega)
    have b6 : (op == 6) = false := beq_eq_false_iff_ne.2 (by omega)
    have b7 : (op == 7) = false := beq_eq_false_iff_ne.2 (by omega)
    have b8 : (op == 8) = false := beq_eq_false_iff_ne.2 (by omega)
    have b9 : (op == 9) = false := beq_eq_false_iff_ne.2 (by omega)
    have b10 : (op == 10) = false := beq_eq_false_iff_ne.2 (by omega)
    have b11 : (op == 11) = false := beq_eq_false_iff_ne.2 (by omega)
    have b12 : (op == 12) = false := beq_eq_false_iff_ne.2 (by omega)
    have b13 : (op == 13) = false := beq_eq_false_iff_ne.2 (by omega)
    have b15 : (op == 15) = false := beq_eq_false_iff_ne.2 (by omega)
    have b16 : (op == 16) = false := beq_eq_false_iff_ne.2 (by omega)
    have b17 : (op == 17) = false := beq_eq_false_iff_ne.2 (by omega)
    have b18 : (op == 18) = false := beq_eq_false_iff_ne.2 (by omega)
    have b19 : (op == 19) = false := beq_eq_false_iff_ne.2 (by omega)
    simp only [scrutinyref13_Eval_K2, Ex.op, evF, b1, b2, b3, b4, b5, b6, b7, b8, b9, b10, b11, b12, b13, b15, b16, b17, b18, b19, cond_false]
theorem reval_F (k : Ex × List Int → Option Int) (e : Ex) (v : List Int) (hk : ∀ x ∈ e.l, k (x, v) = some (ev v x)) (hab : 15 ≤ e.op → (ev0 v e.l = 0 ∨ ev0 v e.l = 1) ∧ (ev1 v e.l = 0 ∨ ev1 v e.l = 1)) :
    scrutinyref13_Eval_F k e v = some (ev v e) := by
  obtain ⟨op, n, a', l⟩ := e
  rw [ev_eq]
  have key := reval_K2 op n a' l v (ev0 v l) (ev1 v l) hab
  rw [show evF (Ex.mk op n a' l).op (Ex.mk op n a' l).n v (ev0 v (Ex.mk op n a' l).l) (ev1 v (Ex.mk op n a' l).l) = evF op n v (ev0 v l) (ev1 v l) from rfl, ← key]
  match l, hk with
  | [], _ => simp only [ev0, ev1]; rfl
  | [x], hk =>
    have hx := hk x (by simp [Ex.l])
    simp only [ev0, ev1]
    show (k (x, v)).bind _ = _
    rw [hx]; rfl
  | x :: y :: r, hk =>
    have hx := hk x (by simp [Ex.l])
    have hy := hk y (by simp [Ex.l])
    simp only [ev0, ev1]
    have d0 : decide ((0 : Int) < (List.length (x :: y :: r) : Int)) = true := decide_eq_true (by simp only [List.length_cons]; omega)
    have d1 : decide ((1 : Int) < (List.length (x :: y :: r) : Int)) = true := decide_eq_true (by simp only [List.length_cons]; omega)
    show (bif decide ((0 : Int) < (List.length (x :: y :: r) : Int)) then _ else _) = _
    rw [d0]
    show (k (x, v)).bind _ = _
    rw [hx]
    show (bif decide ((1 : Int) < (List.length (x :: y :: r) : Int)) then _ else _) = _
    rw [d1]
    show (k (y, v)).bind _ = _
    rw [hy]; rfl

theorem rtA_low (op a len : Int) (h12 : op ≤ 12) : ∀ (l : List Ex) (i b t : Int), i + l.length < len → (rtA op a len l i b t).1 = 0
  | [], i, b, t, hb => by
    simp only [rtA, rtFin]
    have c5 : (i == len) = false := beq_eq_false_iff_ne.2 (by simp at hb; omega)
    have c3 : (op == 13) = false := beq_eq_false_iff_ne.2 (by omega)
    have c4 : (op == 14) = false := beq_eq_false_iff_ne.2 (by omega)
    have c6 : decide (15 ≤ op) = false := decide_eq_false (by omega)
    rw [c3, c4, c5, c6]
    simp only [Bool.and_false, Bool.or_false, Bool.false_and, cond_false]
  | x :: r, i, b, t, hb => by
    simp only [rtA]
    simp only [List.length_cons] at hb
    cases ((rt x).2.1 != 0)
    · refine rtA_low op a len h12 r _ _ _ ?_
      cases (rt x).1 == 1
      · simp only [cond_false]; omega
      · simp only [cond_true]; omega
    · rfl
theorem rtA_ints (op a len : Int) (h12 : op ≤ 12) : ∀ (l : List Ex) (i b t : Int), i + l.length ≤ len → (rtA op a len l i b t).1 ≠ 0 → ∀ x ∈ l, (rt x).1 = 1
  | [], _, _, _, _, _, x, hx => by cases hx
  | y :: r, i, b, t, hb, h, x, hx => by
    simp only [rtA] at h
    simp only [List.length_cons] at hb
    cases c : ((rt y).2.1 != 0)
    · rw [c] at h
      simp only [cond_false] at h
      cases c2 : ((rt y).1 == 1)
      · rw [c2] at h
        exact absurd (rtA_low op a len h12 r _ _ _ (by simp only [cond_false]; omega)) h
      · rw [c2] at h
        rcases List.mem_cons.1 hx with rfl | hx
        · simpa using c2
        · exact rtA_ints op a len h12 r _ _ _ (by simp only [cond_true]; omega) h x hx
    · rw [c] at h; exact absurd rfl h
theorem rtA_one (op a len : Int) : ∀ (l : List Ex) (i b t : Int), (rtA op a len l i b t).1 = 1 → op ≤ 6
  | [], i, b, t, h => by
    simp only [rtA, rtFin] at h
    cases c1 : (decide (op ≤ 6) && (i == len))
    · rw [c1] at h
      simp only [cond_false] at h
      cases c2 : (decide (7 ≤ op) && decide (op ≤ 12) && (i == len) || op == 13 || op == 14)
      · rw [c2] at h
        simp only [cond_false] at h
        cases c3 : (decide (15 ≤ op) && decide (op ≤ 19) && (b == len))
        · rw [c3] at h
          simp only [cond_false] at h
          cases c4 : (decide (15 ≤ op) && (b + t == len))
          · rw [c4] at h; simp at h
          · rw [c4] at h; simp at h
        · rw [c3] at h; simp at h
      · rw [c2] at h; simp at h
    · simp only [Bool.and_eq_true, decide_eq_true_eq] at c1; exact c1.1
  | x :: r, i, b, t, h => by
    simp only [rtA] at h
    cases c : ((rt x).2.1 != 0)
    · rw [c] at h; exact rtA_one op a len r _ _ _ h
    · rw [c] at h; simp at h
theorem child_types {e : Ex} (hm : mayE 3 e = true) (h : (rt e).1 = 1 ∨ (rt e).1 = 2) : ∀ x ∈ e.l, (rt x).1 = 1 ∨ (rt x).1 = 2 := by
  intro x hx
  obtain ⟨_, hw, _⟩ := may_facts hm
  rw [rt_eq] at h
  by_cases h12 : e.op ≤ 12
  · exact .inl (rtA_ints e.op e.at_ (e.l.length : Int) h12 e.l 0 0 0 (by omega) (by rcases h with h | h <;> rw [h] <;> decide) x hx)
  · have h2 : (rtA e.op e.at_ (e.l.length : Int) e.l 0 0 0).1 = 2 := by
      rcases h with h | h
      · have := rtA_one _ _ _ _ _ _ _ h; omega
      · exact h
    have h719 := rtA_two _ _ _ _ _ _ _ h2
    by_cases h15 : 15 ≤ e.op
    · exact .inr (rtA_all _ _ _ h15 h719.2 _ _ _ _ (by omega) h2 x hx).1
    · have hop : e.op = 13 ∨ e.op = 14 := by omega
      have hw0 : wantOf e.op = 0 := by rcases hop with h | h <;> rw [h] <;> rfl
      rw [hw0] at hw
      have : e.l = [] := List.eq_nil_of_length_eq_zero (by omega)
      rw [this] at hx; cases hx
theorem reval_some (v : List Int) : ∀ (N : Nat) (e : Ex), e.sz ≤ N → mayE 3 e = true → ((rt e).1 = 1 ∨ (rt e).1 = 2) → fixN (fun k (s : Ex × List Int) => scrutinyref13_Eval_F k s.1 s.2) N (e, v) = some (ev v e) := by
  intro N
  induction N with
  | zero => intro e h; have := sz_pos e; omega
  | succ N ih =>
    intro e h hm ht
    rw [fixN_succ]
    refine reval_F _ e v (fun x hx => ih x (by have := sz_lt hx; omega) ((may_facts hm).2.2.2.2 x hx) (child_types hm ht x hx)) (fun h15 => ev01 v (fun x hx => ?_))
    rw [rt_eq] at ht
    have h2 : (rtA e.op e.at_ (e.l.length : Int) e.l 0 0 0).1 = 2 := by
      rcases ht with h | h
      · have := rtA_one _ _ _ _ _ _ _ h; omega
      · exact h
    exact bool01 v x.sz x (Nat.le_refl _) (rtA_all _ _ _ h15 (rtA_two _ _ _ _ _ _ _ h2).2 _ _ _ _ (by omega) h2 x hx).1
theorem REval_eq (v : List Int) (e : Ex) (h : e.sz < 1152921504606846) (hm : mayE 3 e = true) (ht : (rt e).1 = 1 ∨ (rt e).1 = 2) : scrutinyref13_Eval e v = some (ev v e) := reval_some v FUEL e (by show e.sz ≤ 2 ^ 64; omega) hm ht

theorem tells_true (e o : Ex) (v : List Int) (name : Str) (he : e.sz < 1152921504606846) (ho : o.sz < 1152921504606846) (_hn : name.length ≤ 9223372036854775807) :
    scrutinylaw13_ExprTells (e, o, v, name) = some true := by
  obtain ⟨f1, h1⟩ := Few_some e (by omega)
  obtain ⟨f2, h2⟩ := Few_some o (by omega)
  obtain ⟨sz, hz⟩ := RSize_some e (by omega)
  have hsz : expr_Size e = some sz := hz
  have hsame : expr_Same e o = some (same e o) := by rw [Same_ref]; exact RSame_eq e o (by omega)
  have hty : expr_Type e = some (rt e) := by rw [Type_eq e (by omega), types_same e.sz e (Nat.le_refl _)]
  have hnm : scrutinylaw13_names = some [[97], [98], [99]] := rfl
  have hok : NamesOk [[97], [98], [99]] := ⟨rfl, by decide⟩
  unfold scrutinylaw13_ExprTells
  simp only [shown_true, bind_s, h1, h2, letv_e, callG_v, Key_eq, RKey_eq, hsame, RSame_eq e o (by omega), hsz, hz, May_eq e (by omega), hty, RType_eq e (by omega), hnm]
  cases f1
  · rfl
  cases f2
  · rfl
  cases decide (10 < (List.length v : Int))
  case true => rfl
  cases decide (100 < (List.length name : Int))
  case true => rfl
  cases hm : mayE 3 e
  · simp
  simp only [bne_self_eq_false, Bool.not_true, Bool.not_false, Bool.false_or, Bool.or_self, cond_false, cond_true, Show_eq hok e he hm, RShow_eq hok e he hm, Eval_eq e (by omega), callG_v, Bool.true_and]
  cases hb : ((rt e).1 != 1 && (rt e).1 != 2)
  · have ht : (rt e).1 = 1 ∨ (rt e).1 = 2 := by
      simp only [Bool.and_eq_false_imp, bne_iff_ne, bne_eq_false_iff_eq] at hb
      by_cases h : (rt e).1 = 1
      · exact .inl h
      · exact .inr (hb h)
    simp only [REval_eq v e he hm ht, callG_v]
    simp
  · simp [callG]
end Go.Proofs.YtmeombbmhpcacaaDoor
