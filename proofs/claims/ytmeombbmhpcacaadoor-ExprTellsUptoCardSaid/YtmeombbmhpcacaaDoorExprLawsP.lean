/- The plain law: LAWS. (own) -/
import Derived.Test.YtmeombbmhpcacaaDoorExprEval
namespace Go.Proofs.YtmeombbmhpcacaaDoor

theorem callG_v {α ρ : Type} (g : Bool) (d v : α) (k : α → Option ρ) : callG g d (some v) k = k (bif g then v else d) := by cases g <;> rfl

theorem rtA_two (op a len : Int) : ∀ (l : List Ex) (i b t : Int), (rtA op a len l i b t).1 = 2 → 7 ≤ op ∧ op ≤ 19
  | [], i, b, t, h => by
    simp only [rtA, rtFin] at h
    cases c1 : (decide (op ≤ 6) && (i == len))
    · rw [c1] at h
      simp only [cond_false] at h
      cases c2 : (decide (7 ≤ op) && decide (op ≤ 12) && (i == len) || op == 13 || op == 14)
      · rw [c2] at h
        simp only [cond_false] at h
        cases c3 : (decide (15 ≤ op) && decide (op ≤ 19) && (b == len))
        · rw [c3] at h
          simp only [cond_false] at h
          cases c4 : (decide (15 ≤ op) && (b + t == len))
          · rw [c4] at h; simp at h
          · rw [c4] at h; simp at h
        · simp only [Bool.and_eq_true, decide_eq_true_eq] at c3; omega
      · simp only [Bool.or_eq_true, Bool.and_eq_true, decide_eq_true_eq, beq_iff_eq] at c2; omega
    · rw [c1] at h; simp at h
  | x :: r, i, b, t, h => by
    simp only [rtA] at h
    cases c : ((rt x).2.1 != 0)
    · rw [c] at h; exact rtA_two op a len r _ _ _ h
    · rw [c] at h; simp at h
theorem rtA_less (op a len : Int) (h15 : 15 ≤ op) (h19 : op ≤ 19) : ∀ (l : List Ex) (i b t : Int), b + l.length < len → (rtA op a len l i b t).1 ≠ 2
  | [], i, b, t, hb, h => by
    simp only [rtA, rtFin] at h
    have c1 : decide (op ≤ 6) = false := decide_eq_false (by omega)
    have c2 : decide (op ≤ 12) = false := decide_eq_false (by omega)
    have c3 : (op == 13) = false := beq_eq_false_iff_ne.2 (by omega)
    have c4 : (op == 14) = false := beq_eq_false_iff_ne.2 (by omega)
    have c5 : (b == len) = false := beq_eq_false_iff_ne.2 (by simp at hb; omega)
    rw [c1, c2, c3, c4, c5] at h
    simp only [Bool.false_and, Bool.and_false, Bool.or_false, cond_false] at h
    cases c6 : (decide (15 ≤ op) && (b + t == len))
    · rw [c6] at h; simp at h
    · rw [c6] at h; simp at h
  | x :: r, i, b, t, hb, h => by
    simp only [rtA] at h
    simp only [List.length_cons] at hb
    cases c : ((rt x).2.1 != 0)
    · rw [c] at h
      refine rtA_less op a len h15 h19 r _ _ _ ?_ h
      cases (rt x).1 == 2
      · simp only [cond_false]; omega
      · simp only [cond_true]; omega
    · rw [c] at h; simp at h
theorem rtA_all (op a len : Int) (h15 : 15 ≤ op) (h19 : op ≤ 19) : ∀ (l : List Ex) (i b t : Int), b + l.length ≤ len → (rtA op a len l i b t).1 = 2 → ∀ x ∈ l, (rt x).1 = 2 ∧ (rt x).2.1 = 0
  | [], _, _, _, _, _, x, hx => by cases hx
  | y :: r, i, b, t, hb, h, x, hx => by
    simp only [rtA] at h
    simp only [List.length_cons] at hb
    cases c : ((rt y).2.1 != 0)
    · rw [c] at h
      simp only [cond_false] at h
      cases c2 : ((rt y).1 == 2)
      · rw [c2] at h
        exact absurd h (rtA_less op a len h15 h19 r _ _ _ (by simp only [cond_false]; omega))
      · rw [c2] at h
        rcases List.mem_cons.1 hx with rfl | hx
        · exact ⟨by simpa using c2, by simpa using c⟩
        · exact rtA_all op a len h15 h19 r _ _ _ (by simp only [cond_true]; omega) h x hx
    · rw [c] at h; simp at h

theorem tr01 (b : Bool) : tr b = 0 ∨ tr b = 1 := by cases b; exact .inl rfl; exact .inr rfl
theorem ev01 (v : List Int) {l : List Ex} (h : ∀ x ∈ l, ev v x = 0 ∨ ev v x = 1) : (ev0 v l = 0 ∨ ev0 v l = 1) ∧ (ev1 v l = 0 ∨ ev1 v l = 1) := by
  match l, h with
  | [], _ => exact ⟨.inl (by simp only [ev0]), .inl (by simp only [ev1])⟩
  | [x], h => exact ⟨by simp only [ev0]; exact h x (by simp), .inl (by simp only [ev1, ev0])⟩
  | x :: y :: r, h => exact ⟨by simp only [ev0]; exact h x (by simp), by simp only [ev1, ev0]; exact h y (by simp)⟩
theorem evF01 (op n : Int) (v : List Int) (a b : Int) (h7 : 7 ≤ op) (h19 : op ≤ 19) (hab : 15 ≤ op → (a = 0 ∨ a = 1) ∧ (b = 0 ∨ b = 1)) : evF op n v a b = 0 ∨ evF op n v a b = 1 := by
  have : op = 7 ∨ op = 8 ∨ op = 9 ∨ op = 10 ∨ op = 11 ∨ op = 12 ∨ op = 13 ∨ op = 14 ∨ op = 15 ∨ op = 16 ∨ op = 17 ∨ op = 18 ∨ op = 19 := by omega
  rcases this with rfl | rfl | rfl | rfl | rfl | rfl | rfl | rfl | rfl | rfl | rfl | rfl | rfl
  · exact tr01 _
  · exact tr01 _
  · exact tr01 _
  · exact tr01 _
  · exact tr01 _
  · exact tr01 _
  · exact .inr rfl
  · exact .inl rfl
  · obtain ⟨ha, _⟩ := hab (by omega)
    rcases ha with rfl | rfl
    · exact .inr rfl
    · exact .inl rfl
  · obtain ⟨ha, hb⟩ := hab (by omega)
    rcases ha with rfl | rfl <;> rcases hb with rfl | rfl
    · exact .inl rfl
    · exact .inl rfl
    · exact .inl rfl
    · exact .inr rfl
  · obtain ⟨ha, hb⟩ := hab (by omega)
    rcases ha with rfl | rfl <;> rcases hb with rfl | rfl
    · exact .inl rfl
    · exact .inr rfl
    · exact .inr rfl
    · exact .inr rfl
  · obtain ⟨ha, hb⟩ := hab (by omega)
    rcases ha with rfl | rfl <;> rcases hb with rfl | rfl
    · exact .inr rfl
    · exact .inr rfl
    · exact .inl rfl
    · exact .inr rfl
  · exact tr01 _
theorem bool01 (v : List Int) : ∀ (N : Nat) (e : Ex), e.sz ≤ N → (rt e).1 = 2 → ev v e = 0 ∨ ev v e = 1 := by
  intro N
  induction N with
  | zero => intro e h; have := sz_pos e; omega
  | succ N ih =>
    intro e h h2
    rw [rt_eq] at h2
    obtain ⟨h7, h19⟩ := rtA_two _ _ _ _ _ _ _ h2
    rw [ev_eq]
    refine evF01 _ _ _ _ _ h7 h19 (fun h15 => ev01 v (fun x hx => ?_))
    have := rtA_all _ _ _ h15 h19 _ _ _ _ (by omega) h2 x hx
    exact ih x (by have := sz_lt hx; omega) this.1

theorem of_eq (e : Ex) (y : Int) (h : e.sz < 1152921504606846976) : scrutinylaw13_of e y = some (mayE 3 e && (rt e).2.1 == 0 && (rt e).1 == y) := by
  unfold scrutinylaw13_of
  rw [RType_eq e h, bind_s, May_eq e (by omega), bind_s]
  rfl
theorem c1_eq (op : Int) (l r : Ex) (v : List Int) (hl : l.sz < 1152921504606846976) (hr : r.sz < 1152921504606846976) : scrutinylaw13_ExprLaws_c1 op l r v = some (evF op 0 v (ev v l) (ev v r)) := by
  unfold scrutinylaw13_ExprLaws_c1
  rw [Eval_eq _ (by simp only [Ex.sz, szL]; omega), bind_s]
  simp only [ev, ev0, ev1]
theorem c2_eq (e : Ex) (v : List Int) (h : e.sz < 1152921504606846976) : scrutinylaw13_ExprLaws_c2 e v = some (evF 15 0 v (ev v e) 0) := by
  unfold scrutinylaw13_ExprLaws_c2
  rw [Eval_eq _ (by simp only [Ex.sz, szL]; omega), bind_s]
  simp only [ev, ev0, ev1]
theorem neg_eq (e : Ex) (v : List Int) (h : e.sz < 1152921504606846976) : expr_Eval (Ex.mk 6 0 0 [e]) v = some (evF 6 0 v (ev v e) 0) := by
  rw [Eval_eq _ (by simp only [Ex.sz, szL]; omega)]
  simp only [ev, ev0, ev1]

theorem laws_true (a b p q : Ex) (v : List Int) (ha : a.sz < 1152921504606846976) (hb : b.sz < 1152921504606846976) (hp : p.sz < 1152921504606846976) (hq : q.sz < 1152921504606846976) :
    scrutinylaw13_ExprLaws (a, b, p, q, v) = some true := by
  obtain ⟨f1, h1⟩ := Few_some a (by omega)
  obtain ⟨f2, h2⟩ := Few_some b (by omega)
  obtain ⟨f3, h3⟩ := Few_some p (by omega)
  obtain ⟨f4, h4⟩ := Few_some q (by omega)
  unfold scrutinylaw13_ExprLaws
  simp only [shown_true, bind_s, h1, h2, h3, h4, letv_e, callG_v, of_eq _ _ ha, of_eq _ _ hb, of_eq _ _ hp, of_eq _ _ hq, Eval_eq a (by omega), Eval_eq b (by omega), Eval_eq p (by omega), Eval_eq q (by omega),
    c1_eq _ a b v ha hb, c1_eq _ b a v hb ha, c1_eq _ p q v hp hq, c2_eq p v hp, neg_eq a v ha]
  cases f1
  · rfl
  cases f2
  · rfl
  cases f3
  · rfl
  cases f4
  · rfl
  cases decide (10 < (List.length v : Int))
  case true => rfl
  cases hoa : (mayE 3 a && (rt a).2.1 == 0 && (rt a).1 == 1)
  · rfl
  cases hob : (mayE 3 b && (rt b).2.1 == 0 && (rt b).1 == 1)
  · rfl
  cases hop : (mayE 3 p && (rt p).2.1 == 0 && (rt p).1 == 2)
  · rfl
  cases hoq : (mayE 3 q && (rt q).2.1 == 0 && (rt q).1 == 2)
  · rfl
  simp only [Bool.and_eq_true, beq_iff_eq] at hop hoq
  have hm := bool01 v p.sz p (Nat.le_refl _) hop.2
  have hn := bool01 v q.sz q (Nat.le_refl _) hoq.2
  generalize ev v p = m at hm ⊢
  generalize ev v q = n at hn ⊢
  generalize ev v a = x
  generalize ev v b = y
  have e3 : evF 3 0 v x y = IntKind.i64.wrap (x + y) := rfl
  have e4 : evF 4 0 v x y = IntKind.i64.wrap (x - y) := rfl
  have e5 : evF 5 0 v x y = IntKind.i64.wrap (x * y) := rfl
  have e6 : evF 6 0 v x 0 = IntKind.i64.wrap (0 - x) := rfl
  have e9 : evF 9 0 v x y = tr (decide (x < y) != false) := rfl
  have e12 : evF 12 0 v x y = tr (decide (x < y) != true) := rfl
  have e11 : evF 11 0 v x y = tr (decide (x ≤ y) != true) := rfl
  have e10 : evF 10 0 v x y = tr (decide (x ≤ y) != false) := rfl
  have e7 : evF 7 0 v x y = tr ((x == y) != false) := rfl
  have e8 : evF 8 0 v x y = tr ((x == y) != true) := rfl
  have e11' : evF 11 0 v y x = tr (decide (y ≤ x) != true) := rfl
  have eyx : decide (y ≤ x) = !decide (x < y) := by
    by_cases h : x < y
    · rw [decide_eq_true h, decide_eq_false (by omega)]; rfl
    · rw [decide_eq_false h, decide_eq_true (by omega)]; rfl
  rw [e3, e4, e5, e6, e9, e12, e11, e10, e7, e8, e11', eyx]
  generalize IntKind.i64.wrap (x + y) = s1
  generalize IntKind.i64.wrap (x - y) = s2
  generalize IntKind.i64.wrap (x * y) = s3
  generalize IntKind.i64.wrap (0 - x) = s4
  generalize decide (x < y) = p1
  generalize decide (x ≤ y) = p2
  generalize (x == y) = p3
  simp only [beq_self_eq_true, cond_true, Bool.true_and, Bool.not_true, Bool.or_false, Bool.false_or]
  rcases hm with rfl | rfl <;> rcases hn with rfl | rfl <;> cases p1 <;> cases p2 <;> cases p3 <;> rfl
end Go.Proofs.YtmeombbmhpcacaaDoor
