/-
  Own pure proofs: LexJoins and LexComments answer true.
-/
import Derived.Test.YtiambejbilkgmaaLexPure4
namespace Go.Proofs.Ytiambejbilkgmaa
namespace Lx

theorem Tokens_lex {s : Str} (h : s.length ≤ 65536) : lex_Tokens s = some (res (lex s)) := by rw [Tokens_eq, tokens_lex h]
theorem lex_len {s : Str} {l : List Tok} (h : lex s = .ok l) : 1 ≤ l.length ∧ l.length ≤ s.length + 1 := by
  constructor
  · have := lex_ok_ne _ _ h
    cases l with
    | nil => exact absurd rfl this
    | cons x l => simp
  · exact lexS_len _ _ _ _ h
/-- an error is told within the text -/
theorem lex_err_at : ∀ (s : Str) (e p : Int), lex s = .error (e, p) → 0 ≤ p ∧ p < (s.length : Int) ∧ (e = 2 ∨ e = 9) := by
  intro s
  refine lex_ind (P := fun s => ∀ (e p : Int), lex s = .error (e, p) → 0 ≤ p ∧ p < (s.length : Int) ∧ (e = 2 ∨ e = 9)) ?_ ?_ ?_ ?_ s
  · intro e p h; rw [lex_nil] at h; cases h
  · intro c s k hst ih e p h
    rw [lex_skip hst] at h
    cases hl : lex ((c :: s).drop k) with
    | ok l' => rw [hl] at h; cases h
    | error x =>
      rw [hl] at h; simp only [shE, Except.error.injEq, Prod.mk.injEq] at h
      obtain ⟨rfl, rfl⟩ := h
      have := ih x.1 x.2 (by rw [hl])
      obtain ⟨hk1, hk2⟩ := step_skip hst
      simp only [List.length_drop] at this
      omega
  · intro c s e' hst e p h
    rw [lex_err hst] at h
    simp only [Except.error.injEq, Prod.mk.injEq] at h
    obtain ⟨rfl, rfl⟩ := h
    refine ⟨by omega, by simp, ?_⟩
    simp only [step] at hst
    repeat' (split at hst)
    all_goals (cases hst)
    all_goals simp
  · intro c s k t n hst ih e p h
    rw [lex_tok hst] at h
    cases hl : lex ((c :: s).drop t.length) with
    | ok l' => rw [hl] at h; cases h
    | error x =>
      rw [hl] at h; simp only [shE, consE, Except.error.injEq, Prod.mk.injEq] at h
      obtain ⟨rfl, rfl⟩ := h
      have := ih x.1 x.2 (by rw [hl])
      obtain ⟨_, _, h1, h2⟩ := step_tok hst
      have hk2 := h2.length_le
      simp only [List.length_drop] at this
      omega

theorem eqT34_iff (x y : Tok) : eqT34 x.1 x.2.1 x.2.2.1 x.2.2.2 y.1 y.2.1 y.2.2.1 y.2.2.2 = true ↔ x = y := by
  obtain ⟨a, b, c, d⟩ := x
  obtain ⟨a', b', c', d'⟩ := y
  simp [eqT34, and_assoc]

theorem place_bound : ∀ (s : Str) (l : List Tok), lex s = .ok l → ∀ x ∈ l, 0 ≤ x.2.2.2 ∧ x.2.2.2 ≤ (s.length : Int) := by
  intro s
  refine lex_ind (P := fun s => ∀ (l : List Tok), lex s = .ok l → ∀ x ∈ l, 0 ≤ x.2.2.2 ∧ x.2.2.2 ≤ (s.length : Int)) ?_ ?_ ?_ ?_ s
  · intro l h; rw [lex_nil] at h; cases h; simp
  · intro c s k hst ih l h x hx
    rw [lex_skip hst] at h
    obtain ⟨hk1, hk2⟩ := step_skip hst
    cases hl : lex ((c :: s).drop k) with
    | ok l' =>
      rw [hl] at h; simp only [shE, Except.ok.injEq] at h
      subst h
      obtain ⟨y, hy, rfl⟩ := List.mem_map.1 hx
      have := ih l' hl y hy
      simp only [List.length_drop] at this
      simp only [shT]; omega
    | error e => rw [hl] at h; cases h
  · intro c s e hst l h; rw [lex_err hst] at h; cases h
  · intro c s k t n hst ih l h x hx
    rw [lex_tok hst] at h
    obtain ⟨_, _, h1, h2⟩ := step_tok hst
    have hk2 := h2.length_le
    cases hl : lex ((c :: s).drop t.length) with
    | ok l' =>
      rw [hl] at h; simp only [shE, consE, Except.ok.injEq] at h
      subst h
      rcases List.mem_cons.1 hx with rfl | hx
      · simp; omega
      · obtain ⟨y, hy, rfl⟩ := List.mem_map.1 hx
        have := ih l' hl y hy
        simp only [List.length_drop] at this
        simp only [shT]; omega
    | error e => rw [hl] at h; cases h

theorem Joins_loop (a : Str) (la lb : List Tok) (hal : a.length ≤ 1000) (ha : 1 ≤ la.length) (hla : la.length ≤ 1001) (hlb : lb.length ≤ 1001) (hp : ∀ x ∈ lb, 0 ≤ x.2.2.2 ∧ x.2.2.2 ≤ 1000) :
    fixN (scrutinylaw12_LexJoins_L1 a true (la, 0, 0) (lb, 0, 0) (la.dropLast ++ lb.map (shT (a.length + 1)), 0, 0)) FUEL 0 = some true := by
  have hlen : (la.dropLast ++ lb.map (shT (a.length + 1))).length = la.length - 1 + lb.length := by simp
  refine fixN_up (N := FUEL) (fun k => (k : Int)) (la.length - 1 + lb.length) (some true) ?_ ?_ 0 (by omega) (by rw [FUEL_val]; omega)
  · intro again k hk
    unfold scrutinylaw12_LexJoins_L1
    simp only [hlen]
    rw [dec_t (by omega), cond_true, w64 (by omega)]
    by_cases h1 : k < la.length - 1
    · rw [dec_t (by omega), cond_true, idx_lt (by omega), some_bind']
      unfold scrutinylaw12_LexJoins_K2
      simp only []
      rw [idx_lt (by rw [hlen]; exact hk), some_bind']
      have e1 : (la.dropLast ++ lb.map (shT (a.length + 1)))[k]'(by rw [hlen]; exact hk) = la[k] := by
        rw [List.getElem_append_left (by simp; omega)]; simp
      rw [e1, eqT34_self]
      simp only [Bool.not_true, cond_false]
      rw [w64 (by omega)]; rfl
    · rw [dec_f (by omega), cond_false, w64 (x := (k : Int) - _) (by omega), w64 (by omega)]
      have e0 : (k : Int) - (la.length : Int) + 1 = ((k - (la.length - 1) : Nat) : Int) := by omega
      rw [e0, idx_lt (by omega), some_bind']
      have hpk := hp _ (List.getElem_mem (h := (show k - (la.length - 1) < lb.length by omega)))
      unfold scrutinylaw12_LexJoins_K2
      simp only []
      rw [idx_lt (by rw [hlen]; exact hk), some_bind', w64 (x := _ + (a.length : Int)) (by omega), w64 (by omega)]
      have e1 : (la.dropLast ++ lb.map (shT (a.length + 1)))[k]'(by rw [hlen]; exact hk) = shT (a.length + 1) (lb[k - (la.length - 1)]'(by omega)) := by
        rw [List.getElem_append_right (by simp; omega)]; simp
      rw [e1]
      have e2 : (lb[k - (la.length - 1)]'(by omega)).2.2.2 + (a.length : Int) + 1 = (shT (a.length + 1) (lb[k - (la.length - 1)]'(by omega))).2.2.2 := by
        simp only [shT]; omega
      rw [e2]
      simp only [shT, eqT34_self, Bool.not_true, cond_false]
      rw [w64 (by omega)]; rfl
  · intro again
    unfold scrutinylaw12_LexJoins_L1
    simp only [hlen]
    rw [dec_f (by omega), cond_false]

theorem LexJoins_true (a b : Str) (_ : a.length ≤ 9223372036854775807) (_ : b.length ≤ 9223372036854775807) : scrutinylaw12_LexJoins a b = some true := by
  unfold scrutinylaw12_LexJoins
  rw [shown_true, some_bind']
  simp only [letv_eq]
  by_cases ha : 1000 < a.length
  · rw [dec_t (by omega), Bool.true_or, cond_true]
  by_cases hb : 1000 < b.length
  · rw [dec_t (p := 1000 < (b.length : Int)) (by omega), Bool.or_true, cond_true]
  rw [dec_f (by omega), dec_f (by omega), Bool.or_false, cond_false, Tokens_lex (by omega), some_bind', Tokens_lex (by omega), some_bind', catB_true (by simp; omega), chk_true, catB_true (by simp; omega), chk_true]
  have e0 : (a ++ [10]) ++ b = a ++ 10 :: b := by simp
  rw [e0, Tokens_lex (by simp; omega), some_bind', lex_join]
  cases hla : lex a with
  | error ea =>
    obtain ⟨e, p⟩ := ea
    have h1 := lex_err_at _ _ _ hla
    have he : (e != 0) = true := by rcases h1.2.2 with h | h <;> subst h <;> rfl
    simp [res, joinE, he]
  | ok la =>
    have h1 := lex_len hla
    cases hlb : lex b with
    | error eb =>
      obtain ⟨e, p⟩ := eb
      have h2 := lex_err_at _ _ _ hlb
      have he : (e != 0) = true := by rcases h2.2.2 with h | h <;> subst h <;> rfl
      simp only [res, joinE, shE, he, bne_self_eq_false, cond_false, cond_true]
      rw [w64 (x := (a.length : Int) + 1) (by omega), w64 (by omega)]
      have : (p + ((a.length + 1 : Nat) : Int) == (a.length : Int) + 1 + p) = true := by simp; omega
      rw [this]
      simp
    | ok lb =>
      have h2 := lex_len hlb
      simp only [res, joinE, shE, bne_self_eq_false, cond_false]
      have hl1 : ¬ ((la.length : Int) < 1) := by omega
      simp only [hl1, decide_false]
      have hlen : (la.dropLast ++ lb.map (shT (a.length + 1))).length = la.length - 1 + lb.length := by simp
      rw [hlen, w64 (x := (la.length : Int) - 1) (by omega), w64 (by omega)]
      have : (((la.length - 1 + lb.length : Nat) : Int) != (la.length : Int) - 1 + (lb.length : Int)) = false := by
        simp; omega
      rw [this]
      simp only [Bool.or_self, cond_false]
      exact Joins_loop a la lb (by omega) h1.1 (by omega) (by omega) (fun x hx => by
        have := place_bound b lb hlb x hx; omega)

/-! comments -/
theorem lf_step (s : Str) : lex (10 :: s) = shE 1 (lex s) := by
  rw [lex_skip (show step ((10 : UInt8) :: s) = .skip 1 from rfl)]; rfl
theorem comment_takeWhile {c : Str} (hc : c.all notLf = true) (r : Str) : ((35 : UInt8) :: (c ++ 10 :: r)).takeWhile notLf = 35 :: c := by
  rw [List.takeWhile_cons, if_pos (by decide), takeWhile_sep (by decide), takeWhile_self hc]
theorem lex_comment {c : Str} (hc : c.all notLf = true) (r : Str) : lex (35 :: (c ++ 10 :: r)) = shE (c.length + 2) (lex r) := by
  have hst : step ((35 : UInt8) :: (c ++ 10 :: r)) = .skip (c.length + 1) := by
    have h1 : isBlank 35 = false := by decide
    simp only [step, h1, Bool.false_eq_true, if_false]
    rw [comment_takeWhile hc]; rfl
  rw [lex_skip hst]
  have : ((35 : UInt8) :: (c ++ 10 :: r)).drop (c.length + 1) = 10 :: r := by simp
  rw [this, lf_step, shE_shE]
  congr 1; omega
theorem lex_comment_end {c : Str} (hc : c.all notLf = true) : lex (35 :: c) = .ok [(4, [], 0, ((c.length + 1 : Nat) : Int))] := by
  have hst : step ((35 : UInt8) :: c) = .skip (c.length + 1) := by
    have h1 : isBlank 35 = false := by decide
    simp only [step, h1, Bool.false_eq_true, if_false]
    rw [List.takeWhile_cons, if_pos (by decide), takeWhile_self hc]; rfl
  rw [lex_skip hst]
  have : ((35 : UInt8) :: c).drop (c.length + 1) = [] := by simp
  rw [this, lex_nil]
  simp [shE, shT]
/-- the last token is the end of the text -/
theorem lex_last : ∀ (s : Str) (l : List Tok), lex s = .ok l → l.getLast? = some (4, [], 0, (s.length : Int)) := by
  intro s
  refine lex_ind (P := fun s => ∀ (l : List Tok), lex s = .ok l → l.getLast? = some (4, [], 0, (s.length : Int))) ?_ ?_ ?_ ?_ s
  · intro l h; rw [lex_nil] at h; cases h; rfl
  · intro c s k hst ih l h
    rw [lex_skip hst] at h
    obtain ⟨hk1, hk2⟩ := step_skip hst
    cases hl : lex ((c :: s).drop k) with
    | ok l' =>
      rw [hl] at h; simp only [shE, Except.ok.injEq] at h
      subst h
      rw [List.getLast?_map, ih l' hl]
      simp only [Option.map_some, shT, List.length_drop]
      congr 4
      omega
    | error e => rw [hl] at h; cases h
  · intro c s e hst l h; rw [lex_err hst] at h; cases h
  · intro c s k t n hst ih l h
    rw [lex_tok hst] at h
    obtain ⟨_, _, h1, h2⟩ := step_tok hst
    have hk2 := h2.length_le
    cases hl : lex ((c :: s).drop t.length) with
    | ok l' =>
      rw [hl] at h; simp only [shE, consE, Except.ok.injEq] at h
      subst h
      rw [List.getLast?_cons, List.getLast?_map, ih l' hl]
      simp only [Option.map_some, shT, List.length_drop, Option.getD_some]
      congr 4
      omega
    | error e => rw [hl] at h; cases h

theorem Comments_loop (c : Str) (l : List Tok) (l3 : List Tok) (hc : c.length ≤ 500) (hl : l.length ≤ 501) (hp : ∀ x ∈ l, 0 ≤ x.2.2.2 ∧ x.2.2.2 ≤ 500)
    (h3 : l3.length = l.length) (h4 : ∀ k (h : k < l.length), l3[k]'(by omega) = if k = l.length - 1 then shT (c.length + 2) l[k] else l[k]) :
    fixN (scrutinylaw12_LexComments_L2 c true (l, 0, 0) (l.map (shT (c.length + 2)), 0, 0) (l3, 0, 0)) FUEL 0 = some true := by
  refine fixN_up (N := FUEL) (fun k => (k : Int)) l.length (some true) ?_ ?_ 0 (by omega) (by rw [FUEL_val]; omega)
  · intro again k hk
    unfold scrutinylaw12_LexComments_L2
    simp only []
    have hpk := hp _ (List.getElem_mem hk)
    rw [dec_t (by omega), cond_true, idx_lt hk, some_bind', some_bind', w64 (x := (l.length : Int) - 1) (by omega)]
    rw [w64 (x := (c.length : Int) + 2) (by omega), w64 (x := _ + ((c.length : Int) + 2)) (by omega)]
    have e2 : l[k].2.2.2 + ((c.length : Int) + 2) = l[k].2.2.2 + ((c.length + 2 : Nat) : Int) := by omega
    by_cases hlast : k = l.length - 1
    · have : ((k : Int) == (l.length : Int) - 1) = true := by simp; omega
      rw [this, cond_true]
      unfold scrutinylaw12_LexComments_K3
      simp only [letv_eq]
      rw [idx_lt (by simpa using hk), some_bind', w64 (x := (c.length : Int) + 2) (by omega), w64 (x := _ + ((c.length : Int) + 2)) (by omega), e2]
      simp only [List.getElem_map, shT, eqT34_self, Bool.not_true, Bool.not_false, callG_true']
      rw [idx_lt (by omega), some_bind', h4 k hk, if_pos hlast]
      simp only [shT, eqT34_self, Bool.not_true, Bool.or_self, cond_false]
      rw [w64 (by omega)]; rfl
    · have : ((k : Int) == (l.length : Int) - 1) = false := by simp; omega
      rw [this, cond_false]
      unfold scrutinylaw12_LexComments_K3
      simp only [letv_eq]
      rw [idx_lt (by simpa using hk), some_bind', w64 (x := (c.length : Int) + 2) (by omega), w64 (x := _ + ((c.length : Int) + 2)) (by omega), e2]
      simp only [List.getElem_map, shT, eqT34_self, Bool.not_true, Bool.not_false, callG_true']
      rw [idx_lt (by omega), some_bind', h4 k hk, if_neg hlast]
      simp only [eqT34_self, Bool.not_true, Bool.or_self, cond_false]
      rw [w64 (by omega)]; rfl
  · intro again
    unfold scrutinylaw12_LexComments_L2
    simp only []
    rw [dec_f (by omega), cond_false]

theorem Comments_first (text comment : Str) (_r : Option Bool) (hcl : comment.length ≤ 500)
    (hend : ∀ again, comment.all notLf = true → scrutinylaw12_LexComments_L1 text comment true again ((comment.length : Nat) : Int) = some true) :
    fixN (scrutinylaw12_LexComments_L1 text comment true) FUEL 0 = some true := by
  have key : ∀ N k, k ≤ comment.length → comment.length - k < N → (∀ i (h : i < comment.length), i < k → notLf comment[i] = true) →
      fixN (scrutinylaw12_LexComments_L1 text comment true) N ((k : Nat) : Int) = some true := by
    intro N
    induction N with
    | zero => intro k _ h; omega
    | succ N ih =>
      intro k hk hN hp
      rw [fixN_succ]
      by_cases hlt : k < comment.length
      · generalize hag : fixN (scrutinylaw12_LexComments_L1 text comment true) N = again at ih ⊢
        unfold scrutinylaw12_LexComments_L1
        rw [dec_t (by omega), cond_true, inB_true (by omega) (by omega), chk_true, byteAt_nat _ _ hlt]
        cases hpk : notLf comment[k]
        · have : ((comment[k].toNat : Int) == 10) = true := by
            rw [show ((10 : Int) = ((10 : UInt8).toNat : Int)) from rfl, u8beq]
            simpa [notLf] using hpk
          rw [this, cond_true]
        · have : ((comment[k].toNat : Int) == 10) = false := by
            rw [show ((10 : Int) = ((10 : UInt8).toNat : Int)) from rfl, u8beq]
            simpa [notLf] using hpk
          rw [this, cond_false, w64 (by omega)]
          exact ih (k + 1) (by omega) (by omega) (fun i h hi => by
            rcases Nat.lt_or_ge i k with h' | h'
            · exact hp i h h'
            · have : i = k := by omega
              subst this; exact hpk)
      · have : k = comment.length := by omega
        subst this
        exact hend _ (by
          rw [List.all_eq_true]; intro c hc
          obtain ⟨i, hi, rfl⟩ := List.mem_iff_getElem.1 hc
          exact hp i hi hi)
  exact key FUEL 0 (by omega) (by rw [FUEL_val]; omega) (fun i _ h => by omega)

theorem LexComments_true (a c : Str) (_ : a.length ≤ 9223372036854775807) (_ : c.length ≤ 9223372036854775807) : scrutinylaw12_LexComments a c = some true := by
  unfold scrutinylaw12_LexComments
  rw [shown_true, some_bind']
  simp only [letv_eq]
  by_cases ha : 500 < a.length
  · rw [dec_t (by omega), Bool.true_or, cond_true]
  by_cases hcl : 500 < c.length
  · rw [dec_t (p := 500 < (c.length : Int)) (by omega), Bool.or_true, cond_true]
  rw [dec_f (by omega), dec_f (by omega), Bool.or_false, cond_false]
  refine Comments_first a c (some true) (by omega) ?_
  intro again hc
  unfold scrutinylaw12_LexComments_L1
  rw [dec_f (by omega), cond_false, Tokens_lex (by omega), some_bind']
  rw [catB_true (by simp; omega), chk_true, catB_true (by simp; omega), chk_true, catB_true (by simp; omega), chk_true]
  rw [Tokens_lex (by simp; omega), some_bind']
  rw [catB_true (by simp; omega), chk_true, catB_true (by simp; omega), chk_true]
  rw [Tokens_lex (by simp; omega), some_bind']
  have e1 : (([35] ++ c) ++ [10]) ++ a = (35 : UInt8) :: (c ++ 10 :: a) := by simp
  have e2 : (a ++ [10, 35]) ++ c = a ++ 10 :: (35 :: c) := by simp
  rw [e1, e2, lex_comment hc, lex_join, lex_comment_end hc]
  cases hla : lex a with
  | error ea =>
    obtain ⟨e, p⟩ := ea
    have h1 := lex_err_at _ _ _ hla
    have he : (e != 0) = true := by rcases h1.2.2 with h | h <;> subst h <;> rfl
    simp only [res, joinE, shE, he, cond_true, letv_eq]
    rw [w64 (x := (c.length : Int) + 2) (by omega), w64 (by omega)]
    have : (p + ((c.length + 2 : Nat) : Int) == p + ((c.length : Int) + 2)) = true := by simp
    rw [this]
    simp
  | ok la =>
    have h1 := lex_len hla
    have h2 := lex_last _ _ hla
    simp only [res, joinE, shE, bne_self_eq_false, cond_false, letv_eq, Bool.or_self]
    have hlen : (la.dropLast ++ [(4, [], 0, ((c.length + 1 : Nat) : Int))].map (shT (a.length + 1))).length = la.length := by simp; omega
    rw [hlen]
    simp only [List.length_map, bne_self_eq_false, Bool.or_self, cond_false]
    refine Comments_loop c la _ (by omega) (by omega) (fun x hx => by
      have := place_bound a la hla x hx; omega) hlen ?_
    intro k hk
    by_cases hlast : k = la.length - 1
    · rw [if_pos hlast, List.getElem_append_right (by simp; omega)]
      have : la[k] = (4, [], 0, (a.length : Int)) := by
        rw [List.getLast?_eq_getElem?] at h2
        subst hlast
        rw [List.getElem?_eq_getElem hk] at h2
        exact Option.some.inj h2
      rw [this]
      simp only [List.length_dropLast, List.map_cons, List.map_nil]
      subst hlast
      simp only [Nat.sub_self, List.getElem_cons_zero, shT, Prod.mk.injEq, true_and]
      omega
    · rw [if_neg hlast, List.getElem_append_left (by simp; omega)]
      simp
end Lx
end Go.Proofs.Ytiambejbilkgmaa
