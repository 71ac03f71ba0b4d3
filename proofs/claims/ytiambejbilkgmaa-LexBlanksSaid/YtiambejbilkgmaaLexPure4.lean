/-
  Own pure proofs: laws of 'lexS': fuel, shifts, what stands behind a text, what a token's text is.
-/
import Derived.Test.YtiambejbilkgmaaLexTells
namespace Go.Proofs.Ytiambejbilkgmaa
namespace Lx

abbrev Res := Except (Int × Int) (List Tok)
def shT (k : Nat) (x : Tok) : Tok := (x.1, x.2.1, x.2.2.1, x.2.2.2 + (k : Int))
def shE (k : Nat) : Res → Res
  | .ok l => .ok (l.map (shT k))
  | .error e => .error (e.1, e.2 + (k : Int))
def consE (x : Tok) : Res → Res
  | .ok l => .ok (x :: l)
  | .error e => .error e

theorem step_skip {c : UInt8} {s : Str} {k : Nat} (h : step (c :: s) = .skip k) : 1 ≤ k ∧ k ≤ (c :: s).length := by
  cases hb : isBlank c
  · cases hc : (c == 35)
    · simp only [step, hb, hc, Bool.false_eq_true, if_false] at h
      repeat (split at h <;> try (cases h))
    · simp only [step, hb, hc, Bool.false_eq_true, if_false, if_true, Step.skip.injEq] at h
      subst h
      have : c = 35 := by simpa using hc
      subst this
      exact ⟨takeWhile_pos (by decide), takeWhile_len _ _⟩
  · simp only [step, hb, if_true, Step.skip.injEq] at h
    subst h; simp
theorem step_tok {c : UInt8} {s : Str} {k : Int} {t : Str} {n : Int} (h : step (c :: s) = .tok k t n) : isBlank c = false ∧ (c == 35) = false ∧ 1 ≤ t.length ∧ t <+: (c :: s) := by
  cases hb : isBlank c
  · cases hc : (c == 35)
    · obtain ⟨h1, h2⟩ := step_take hb hc h; exact ⟨rfl, rfl, h1, h2⟩
    · simp only [step, hb, hc, Bool.false_eq_true, if_false, if_true] at h; cases h
  · simp only [step, hb, if_true] at h; cases h

theorem lexS_fuel : ∀ (f f' at_ : Nat) (s : Str), s.length < f → s.length < f' → lexS f at_ s = lexS f' at_ s
  | 0, _, _, _, h, _ => by omega
  | _, 0, _, _, _, h => by omega
  | f + 1, f' + 1, at_, [], _, _ => rfl
  | f + 1, f' + 1, at_, c :: s, h, h' => by
    simp only [lexS]
    cases hst : step (c :: s) with
    | skip k =>
      obtain ⟨h1, h2⟩ := step_skip hst
      simp only []
      exact lexS_fuel f f' _ _ (by simp at *; omega) (by simp at *; omega)
    | err e => rfl
    | tok k t n =>
      obtain ⟨_, _, h1, h2⟩ := step_tok hst
      simp only []
      rw [lexS_fuel f f' _ ((c :: s).drop t.length) (by simp at *; omega) (by simp at *; omega)]
theorem lexS_shift : ∀ (f at_ k : Nat) (s : Str), lexS f (at_ + k) s = shE k (lexS f at_ s)
  | 0, _, _, _ => rfl
  | f + 1, at_, k, [] => by simp [lexS, shE, shT]
  | f + 1, at_, k, c :: s => by
    simp only [lexS]
    cases hst : step (c :: s) with
    | skip j =>
      simp only []
      rw [show at_ + k + j = (at_ + j) + k from by omega]
      exact lexS_shift f _ k _
    | err e => simp [shE]
    | tok j t n =>
      simp only []
      rw [show at_ + k + t.length = (at_ + t.length) + k from by omega, lexS_shift f (at_ + t.length) k]
      cases lexS f (at_ + t.length) ((c :: s).drop t.length) <;> simp [shE, shT]

def lex (s : Str) : Res := lexS (s.length + 1) 0 s
theorem lexS_lex (f at_ : Nat) (s : Str) (h : s.length < f) : lexS f at_ s = shE at_ (lex s) := by
  have := lexS_shift f 0 at_ s
  rw [Nat.zero_add] at this
  rw [this, lex, lexS_fuel f (s.length + 1) 0 s h (by omega)]
theorem tokens_lex {s : Str} (h : s.length ≤ 65536) : tokens s = res (lex s) := by
  unfold tokens lex; rw [if_neg (by omega)]
theorem lex_nil : lex [] = .ok [(4, [], 0, 0)] := rfl
theorem lex_skip {c : UInt8} {s : Str} {k : Nat} (h : step (c :: s) = .skip k) : lex (c :: s) = shE k (lex ((c :: s).drop k)) := by
  obtain ⟨h1, h2⟩ := step_skip h
  conv => lhs; unfold lex
  simp only [lexS, h]
  rw [Nat.zero_add]
  exact lexS_lex _ _ _ (by simp at *; omega)
theorem lex_err {c : UInt8} {s : Str} {e : Int} (h : step (c :: s) = .err e) : lex (c :: s) = .error (e, 0) := by
  unfold lex
  simp only [lexS, h]; rfl
theorem lex_tok {c : UInt8} {s : Str} {k : Int} {t : Str} {n : Int} (h : step (c :: s) = .tok k t n) : lex (c :: s) = consE (k, t, n, 0) (shE t.length (lex ((c :: s).drop t.length))) := by
  obtain ⟨_, _, h1, h2⟩ := step_tok h
  conv => lhs; unfold lex
  simp only [lexS, h]
  rw [Nat.zero_add, lexS_lex _ t.length _ (by simp at *; omega)]
  cases shE t.length (lex ((c :: s).drop t.length)) <;> rfl

/-- by the length -/
theorem lex_ind {P : Str → Prop} (h0 : P [])
    (hs : ∀ c s k, step (c :: s) = .skip k → P ((c :: s).drop k) → P (c :: s))
    (he : ∀ c s e, step (c :: s) = .err e → P (c :: s))
    (ht : ∀ c s k t n, step (c :: s) = .tok k t n → P ((c :: s).drop t.length) → P (c :: s)) : ∀ s, P s := by
  have key : ∀ (m : Nat) (s : Str), s.length < m → P s := by
    intro m
    induction m with
    | zero => intro s h; omega
    | succ m ih =>
      intro s h
      cases s with
      | nil => exact h0
      | cons c s =>
        cases hst : step (c :: s) with
        | skip k =>
          obtain ⟨h1, h2⟩ := step_skip hst
          exact hs c s k hst (ih _ (by simp at *; omega))
        | err e => exact he c s e hst
        | tok k t n =>
          obtain ⟨_, _, h1, h2⟩ := step_tok hst
          exact ht c s k t n hst (ih _ (by simp at *; omega))
  exact fun s => key _ s (Nat.lt_succ_self _)

/-! what stands behind -/
theorem takeWhile_sep {p : UInt8 → Bool} {b : UInt8} {r : Str} (hb : p b = false) : ∀ s : Str, (s ++ b :: r).takeWhile p = s.takeWhile p
  | [] => by simp [hb]
  | c :: s => by
    simp only [List.cons_append, List.takeWhile_cons]
    rw [takeWhile_sep hb s]
theorem prefix_sep {b : UInt8} {r : Str} : ∀ (g s : Str), b ∉ g → g.isPrefixOf (s ++ b :: r) = g.isPrefixOf s
  | [], s, _ => by simp [List.isPrefixOf]
  | x :: g, [], h => by
    have : (x == b) = false := by
      simp only [List.mem_cons, not_or] at h
      simpa using fun e => h.1 e.symm
    simp [List.isPrefixOf, this]
  | x :: g, c :: s, h => by
    simp only [List.cons_append, List.isPrefixOf]
    rw [prefix_sep g s (fun hm => h (List.mem_cons_of_mem _ hm))]
def isSep (b : UInt8) : Bool := isBlank b || b == 35
theorem sep_cases {b : UInt8} (h : isSep b = true) : b = 32 ∨ b = 9 ∨ b = 10 ∨ b = 13 ∨ b = 35 := by
  simp only [isSep, isBlank, Bool.or_eq_true, beq_iff_eq] at h
  rcases h with (((h | h) | h) | h) | h <;> simp [h]
theorem sep_sign {b : UInt8} (h : isSep b = true) : ∀ g ∈ signs, b ∉ g := by
  rcases sep_cases h with rfl | rfl | rfl | rfl | rfl <;> decide
theorem sep_either {b : UInt8} (h : isSep b = true) : isEither b = false ∧ isDigit b = false := by
  rcases sep_cases h with rfl | rfl | rfl | rfl | rfl <;> decide
theorem find_congr {α : Type} {p q : α → Bool} : ∀ {l : List α}, (∀ x ∈ l, p x = q x) → l.find? p = l.find? q
  | [], _ => rfl
  | x :: l, h => by
    have h1 := h x (by simp)
    have h2 := find_congr (l := l) (fun y hy => h y (List.mem_cons_of_mem _ hy))
    simp only [List.find?_cons, h1, h2]
theorem signOf_sep {b : UInt8} {r : Str} (h : isSep b = true) (s : Str) : signOf (s ++ b :: r) = signOf s := by
  unfold signOf
  rw [find_congr (fun g hg => prefix_sep g s (sep_sign h g hg))]
theorem step_sep {b : UInt8} {r : Str} (h : isSep b = true) (c : UInt8) (s : Str) (hc : (c == 35) = false ∨ b = 10) : step ((c :: s) ++ b :: r) = step (c :: s) := by
  obtain ⟨h1, h2⟩ := sep_either h
  have e1 : ((c :: s) ++ b :: r).takeWhile isEither = (c :: s).takeWhile isEither := takeWhile_sep h1 _
  have e2 : ((c :: s) ++ b :: r).takeWhile isDigit = (c :: s).takeWhile isDigit := takeWhile_sep h2 _
  have e3 : signOf ((c :: s) ++ b :: r) = signOf (c :: s) := signOf_sep h _
  simp only [List.cons_append] at e1 e2 e3
  show step (c :: (s ++ b :: r)) = _
  simp only [step]
  rw [e1, e2, e3]
  rcases hc with hc | rfl
  · rw [hc]; simp only [Bool.false_eq_true, if_false]
  · have e4 : ((c :: s) ++ (10 : UInt8) :: r).takeWhile notLf = (c :: s).takeWhile notLf := takeWhile_sep (by decide) _
    simp only [List.cons_append] at e4
    rw [e4]
theorem takeWhile_self {p : UInt8 → Bool} : ∀ {t : Str}, t.all p = true → t.takeWhile p = t
  | [], _ => rfl
  | c :: t, h => by
    simp only [List.all_cons, Bool.and_eq_true] at h
    rw [List.takeWhile_cons, if_pos h.1, takeWhile_self h.2]
theorem signs_self : ∀ g ∈ signs, signOf g = g ∧ ∃ c s, g = c :: s ∧ isBlank c = false ∧ (c == 35) = false ∧ isLetter c = false ∧ isDigit c = false := by
  intro g hg
  have h1 : ∀ g ∈ signs, signOf g = g ∧ (match g with | [] => false | c :: _ => !isBlank c && !(c == 35) && !isLetter c && !isDigit c) = true := by decide
  obtain ⟨h1, h2⟩ := h1 g hg
  refine ⟨h1, ?_⟩
  cases g with
  | nil => cases h2
  | cons c s =>
    simp only [Bool.and_eq_true, Bool.not_eq_true'] at h2
    exact ⟨c, s, rfl, h2.1.1.1, h2.1.1.2, h2.1.2, h2.2⟩
/-- a token's text alone is that token; what comes of a step -/
theorem step_self {c : UInt8} {s : Str} {k : Int} {t : Str} {n : Int} (h : step (c :: s) = .tok k t n) : step t = .tok k t n ∧ (∃ s', t = c :: s') ∧ (k = 1 ∨ k = 2 ∨ k = 3) ∧ (k ≠ 2 → n = 0) := by
  obtain ⟨hb, hc, ht1, ht2⟩ := step_tok h
  have hcs : ∃ s', t = c :: s' := by
    cases t with
    | nil => simp at ht1
    | cons d t =>
      obtain ⟨u, hu⟩ := ht2
      simp only [List.cons_append, List.cons.injEq] at hu
      exact ⟨t, by rw [hu.1]⟩
  obtain ⟨s', rfl⟩ := hcs
  simp only [step, hb, hc, Bool.false_eq_true, if_false] at h ⊢
  cases hlet : isLetter c
  · simp only [hlet, Bool.false_eq_true, if_false] at h ⊢
    cases hdig : isDigit c
    · simp only [hdig, Bool.false_eq_true, if_false] at h ⊢
      cases hsg : (signOf (c :: s) == [])
      · simp only [hsg, Bool.false_eq_true, if_false, Step.tok.injEq] at h
        obtain ⟨rfl, h2, rfl⟩ := h
        obtain ⟨hm, _, _⟩ := signOf_mem hsg
        rw [h2] at hm
        rw [(signs_self _ hm).1]
        exact ⟨rfl, ⟨s', rfl⟩, .inr (.inr rfl), fun _ => rfl⟩
      · simp [hsg] at h
    · simp only [hdig, if_true] at h ⊢
      split at h
      · cases h
      · rename_i hbig
        simp only [Step.tok.injEq] at h
        obtain ⟨rfl, h2, rfl⟩ := h
        have hall := takeWhile_all isDigit (c :: s)
        rw [h2] at hall hbig
        rw [takeWhile_self hall, h2, if_neg hbig]
        exact ⟨rfl, ⟨s', rfl⟩, .inr (.inl rfl), fun h => absurd rfl h⟩
  · simp only [hlet, if_true] at h ⊢
    split at h
    · cases h
    · rename_i h32
      simp only [Step.tok.injEq] at h
      obtain ⟨rfl, h2, rfl⟩ := h
      have hall := takeWhile_all isEither (c :: s)
      rw [h2] at hall h32
      rw [takeWhile_self hall, if_neg h32]
      exact ⟨rfl, ⟨s', rfl⟩, .inl rfl, fun _ => rfl⟩

/-! two texts with a line feed between them -/
def joinE (m : Nat) (rb : Res) : Res → Res
  | .ok l => match shE m rb with
    | .ok lb => .ok (l.dropLast ++ lb)
    | .error e => .error e
  | .error e => .error e

theorem lex_ok_ne : ∀ (s : Str) (l : List Tok), lex s = .ok l → l ≠ [] := by
  intro s
  refine lex_ind (P := fun s => ∀ (l : List Tok), lex s = .ok l → l ≠ []) ?_ ?_ ?_ ?_ s
  · intro l h; rw [lex_nil] at h; cases h; simp
  · intro c s k hst ih l h
    rw [lex_skip hst] at h
    cases hl : lex ((c :: s).drop k) with
    | ok l' => rw [hl] at h; simp only [shE, Except.ok.injEq] at h; have := ih l' hl; subst h; simpa using this
    | error e => rw [hl] at h; cases h
  · intro c s e hst l h; rw [lex_err hst] at h; cases h
  · intro c s k t n hst ih l h
    rw [lex_tok hst] at h
    cases hl : lex ((c :: s).drop t.length) with
    | ok l' => rw [hl] at h; simp only [shE, consE, Except.ok.injEq] at h; subst h; simp
    | error e => rw [hl] at h; cases h
theorem shT_shT (j k : Nat) (x : Tok) : shT j (shT k x) = shT (k + j) x := by
  simp only [shT, Prod.mk.injEq, true_and]; omega
theorem shE_shE (j k : Nat) (r : Res) : shE j (shE k r) = shE (k + j) r := by
  cases r with
  | ok l => simp only [shE, List.map_map, Except.ok.injEq]; exact List.map_congr_left (fun x _ => shT_shT j k x)
  | error e => simp only [shE, Except.error.injEq, Prod.mk.injEq, true_and]; omega
theorem shE_zero (r : Res) : shE 0 r = r := by
  cases r with
  | ok l =>
    have : shT 0 = id := by funext x; simp [shT]
    simp [shE, this]
  | error e => simp [shE]
theorem join_sh (m k : Nat) (rb ra : Res) : joinE (m + k) rb (shE k ra) = shE k (joinE m rb ra) := by
  cases ra with
  | ok l =>
    cases rb with
    | ok lb =>
      simp only [shE, joinE, List.map_append, List.map_dropLast, List.map_map, Except.ok.injEq]
      congr 1
      exact List.map_congr_left (fun x _ => (shT_shT k m x).symm)
    | error e => simp only [shE, joinE, Except.error.injEq, Prod.mk.injEq, true_and]; omega
  | error e => simp [shE, joinE]
theorem lex_join (b : Str) : ∀ a, lex (a ++ 10 :: b) = joinE (a.length + 1) (lex b) (lex a) := by
  refine lex_ind ?_ ?_ ?_ ?_
  · have hst : step ((10 : UInt8) :: b) = .skip 1 := rfl
    show lex (10 :: b) = _
    rw [lex_skip hst, lex_nil]
    simp only [List.drop_succ_cons, List.drop_zero, List.length_nil, Nat.zero_add, joinE]
    cases shE 1 (lex b) <;> simp
  · intro c s k hst ih
    have h2 : step ((c :: s) ++ (10 : UInt8) :: b) = .skip k := by rw [step_sep (by decide) c s (.inr rfl)]; exact hst
    obtain ⟨hk1, hk2⟩ := step_skip hst
    have e1 := lex_skip (c := c) (s := s ++ 10 :: b) h2
    have e2 : (c :: (s ++ 10 :: b)).drop k = (c :: s).drop k ++ 10 :: b := by
      rw [← List.cons_append, List.drop_append_of_le_length hk2]
    rw [e2, ih] at e1
    rw [List.cons_append, e1, lex_skip hst, ← join_sh]
    congr 1
    simp only [List.length_drop]
    simp at hk2 ⊢; omega
  · intro c s e hst
    have h2 : step ((c :: s) ++ (10 : UInt8) :: b) = .err e := by rw [step_sep (by decide) c s (.inr rfl)]; exact hst
    have e1 := lex_err (c := c) (s := s ++ 10 :: b) h2
    rw [List.cons_append, e1, lex_err hst]; rfl
  · intro c s k t n hst ih
    have h2 : step ((c :: s) ++ (10 : UInt8) :: b) = .tok k t n := by rw [step_sep (by decide) c s (.inr rfl)]; exact hst
    obtain ⟨_, _, ht1, ht2⟩ := step_tok hst
    have hk2 := ht2.length_le
    have e1 := lex_tok (c := c) (s := s ++ 10 :: b) h2
    have e2 : (c :: (s ++ 10 :: b)).drop t.length = (c :: s).drop t.length ++ 10 :: b := by
      rw [← List.cons_append, List.drop_append_of_le_length hk2]
    rw [e2, ih, ← join_sh] at e1
    rw [List.cons_append, e1, lex_tok hst]
    have e3 : ((c :: s).drop t.length).length + 1 + t.length = (c :: s).length + 1 := by
      simp only [List.length_drop]; simp at hk2 ⊢; omega
    rw [e3]
    cases hl : lex ((c :: s).drop t.length) with
    | ok l' =>
      have := lex_ok_ne _ _ hl
      cases lex b with
      | ok lb =>
        simp only [shE, consE, joinE]
        rw [List.dropLast_cons_of_ne_nil (by simpa using this)]
        rfl
      | error e => rfl
    | error e => rfl
end Lx
end Go.Proofs.Ytiambejbilkgmaa
