/-
  Tokens of what is shown: the text of a tree has the tokens of that tree. (own)
-/
import Derived.Test.YtmeombbmhpcacaaDoorExprShown2
namespace Go.Proofs.YtmeombbmhpcacaaDoor
namespace Lx

abbrev Tk := Int × Str × Int
def strip (t : Tok) : Tk := (t.1, t.2.1, t.2.2.1)
theorem strip_sh (k : Nat) (t : Tok) : strip (shT k t) = strip t := rfl
def lexes (s : Str) (k : List Tk) : Prop := ∃ l, lex s = .ok l ∧ l.map strip = k
theorem lexes_nil : lexes [] [(4, [], 0)] := ⟨_, lex_nil, rfl⟩
theorem strip_map (k : Nat) (l : List Tok) : (l.map (shT k)).map strip = l.map strip := by
  rw [List.map_map]; rfl
theorem lexes_cons {s t : Str} {k : List Tk} {a n : Int} {m : Nat} {x : Str} (h : lexes s k) (he : lex t = consE (a, x, n, 0) (shE m (lex s))) : lexes t ((a, x, n) :: k) := by
  obtain ⟨l, h1, h2⟩ := h
  rw [h1] at he
  exact ⟨_, he, by show _ :: _ = _; rw [strip_map, h2]; rfl⟩
theorem lexes_blank {s : Str} {k : List Tk} (h : lexes s k) : lexes (32 :: s) k := by
  obtain ⟨l, h1, h2⟩ := h
  refine ⟨l.map (shT 1), by rw [lex_blank, h1]; rfl, by rw [strip_map, h2]⟩
theorem lexes_open {s : Str} {k : List Tk} (h : lexes s k) : lexes (40 :: s) ((3, [40], 0) :: k) := lexes_cons h (lex_open s)
theorem lexes_close {s : Str} {k : List Tk} (h : lexes s k) : lexes (41 :: s) ((3, [41], 0) :: k) := lexes_cons h (lex_close s)
theorem lexes_op {op : Int} (h1 : 3 ≤ op) (h2 : op ≤ 24) {r : Str} {k : List Tk} (h : lexes (32 :: r) k) : lexes (txt op ++ 32 :: r) ((kd op, txt op, 0) :: k) := lexes_cons h (lex_op h1 h2 r)

/-- what may stand behind a part -/
def stops (r : Str) : Prop := r = [] ∨ ∃ c s, r = c :: s ∧ (c = 32 ∨ c = 41)
theorem takeWhile_stop {p : UInt8 → Bool} (h32 : p 32 = false) (h41 : p 41 = false) {r : Str} (hr : stops r) {t : Str} (ht : t.all p = true) : (t ++ r).takeWhile p = t := by
  rcases hr with rfl | ⟨c, s, rfl, hc⟩
  · rw [List.append_nil, takeWhile_self ht]
  · rw [takeWhile_sep (by rcases hc with rfl | rfl <;> assumption), takeWhile_self ht]
theorem lexes_word {t r : Str} {k : List Tk} (h : lexes r k) (hr : stops r) (ht : t.all isEither = true) (h0 : ∃ c s, t = c :: s ∧ isLetter c = true) (hl : t.length ≤ 32) : lexes (t ++ r) ((1, t, 0) :: k) := by
  refine lexes_cons h (lex_tok' ?_)
  obtain ⟨c, s, rfl, hc⟩ := h0
  have hw := takeWhile_stop (p := isEither) rfl rfl hr ht
  have hb : isBlank c = false := by
    cases hb : isBlank c
    · rfl
    · rw [blank_letter hb] at hc; cases hc
  have h35 : (c == 35) = false := by
    cases h35 : (c == 35)
    · rfl
    · rw [beq_iff_eq.1 h35] at hc; cases hc
  rw [List.cons_append] at hw ⊢
  simp only [step, hb, h35, hc, Bool.false_eq_true, if_false, if_true, hw]
  rw [if_neg (by omega)]
theorem lexes_num {n : Int} (h0 : 0 ≤ n) (h1 : n ≤ 1073741824) {r : Str} {k : List Tk} (h : lexes r k) (hr : stops r) : lexes (Lib.itoa n ++ r) ((2, Lib.itoa n, n) :: k) := by
  refine lexes_cons h (lex_tok' ?_)
  obtain ⟨m, rfl⟩ : ∃ m : Nat, n = m := ⟨n.toNat, by omega⟩
  obtain ⟨d1, d2, d3⟩ := num_dec m m (Nat.le_refl _)
  have hi : Lib.itoa (m : Int) = Lib.decDigits m := by unfold Lib.itoa; rw [if_neg (by omega)]; rfl
  rw [hi]
  obtain ⟨c, s, hcs⟩ : ∃ c s, Lib.decDigits m = c :: s := by
    cases hd : Lib.decDigits m with
    | nil => exact absurd hd d3
    | cons c s => exact ⟨c, s, rfl⟩
  rw [hcs] at d1 d2 ⊢
  have hw := takeWhile_stop (p := isDigit) rfl rfl hr d2
  have hc : isDigit c = true := by simp only [List.all_cons, Bool.and_eq_true] at d2; exact d2.1
  have hb : isBlank c = false := by
    cases hb : isBlank c
    · rfl
    · rw [blank_digit hb] at hc; cases hc
  have h35 : (c == 35) = false := by
    cases h35 : (c == 35)
    · rfl
    · rw [beq_iff_eq.1 h35] at hc; cases hc
  have hl : isLetter c = false := by
    cases hl : isLetter c
    · rfl
    · rw [letter_digit hl] at hc; cases hc
  rw [List.cons_append] at hw ⊢
  simp only [step, hb, h35, hc, hl, Bool.false_eq_true, if_false, if_true, hw, d1]
  rw [if_neg (by simp only [big, decide_eq_true_eq]; omega)]

/-- a name that may be shown: letters, not long -/
def nameB (s : Str) : Bool := s.all isEither && decide (s.length ≤ 32) && (match s with | [] => false | c :: _ => isLetter c) && !keysL.contains s
def NamesGood (names : List Str) : Prop := names.length = 3 ∧ names.all nameB = true
theorem NamesGood.ok {names : List Str} (h : NamesGood names) : NamesOk names := by
  refine ⟨h.1, fun s hs => ?_⟩
  have := List.all_eq_true.1 h.2 s hs
  simp only [nameB, Bool.and_eq_true, decide_eq_true_eq] at this
  exact this.1.1.2

/-! the tokens of a tree -/
mutual
def tk (names : List Str) : Ex → List Tk
  | .mk op n _ l => bif op == 1 then [(2, Lib.itoa n, n)] else bif op == 2 then [(1, names.getD n.toNat [], 0)] else tkL names op l
def tkL (names : List Str) (op : Int) : List Ex → List Tk
  | [] => [(kd op, txt op, 0)]
  | x :: r => tkR names op (tk names x) r
def tkR (names : List Str) (op : Int) (s : List Tk) : List Ex → List Tk
  | [] => (3, [40], 0) :: (kd op, txt op, 0) :: s ++ [(3, [41], 0)]
  | y :: _ => (3, [40], 0) :: s ++ (kd op, txt op, 0) :: tk names y ++ [(3, [41], 0)]
end
theorem tk_eq (names : List Str) (e : Ex) : tk names e = bif e.op == 1 then [(2, Lib.itoa e.n, e.n)] else bif e.op == 2 then [(1, names.getD e.n.toNat [], 0)] else tkL names e.op e.l := by cases e; simp only [tk, Ex.op, Ex.n, Ex.l]

theorem want_zero {e : Ex} (hm : mayE 3 e = true) (h1 : (e.op == 1) = false) (h2 : (e.op == 2) = false) (hl : e.l = []) : e.op = 13 ∨ e.op = 14 := by
  obtain ⟨⟨o1, o2⟩, hw, _⟩ := may_facts hm
  rw [hl] at hw
  simp only [beq_eq_false_iff_ne] at h1 h2
  unfold wantOf at hw
  cases c1 : (e.op == 1 || e.op == 2 || e.op == 13 || e.op == 14)
  · rw [c1] at hw
    cases c2 : (e.op == 6 || e.op == 15 || e.op == 20 || e.op == 21 || e.op == 22)
    · rw [c2] at hw; cases hw
    · rw [c2] at hw; cases hw
  · simp only [Bool.or_eq_true, beq_iff_eq] at c1
    omega
theorem lexes_tree {names : List Str} (hn : NamesGood names) : ∀ (N : Nat) (e : Ex), e.sz ≤ N → mayE 3 e = true → ∀ (r : Str) (k : List Tk), lexes r k → stops r → lexes (sh names e ++ r) (tk names e ++ k) := by
  intro N
  induction N with
  | zero => intro e h; have := sz_pos e; omega
  | succ N ih =>
    intro e h hm r k hk hr
    obtain ⟨⟨o1, o2⟩, hw, h1, h2, h3⟩ := may_facts hm
    rw [sh_eq, tk_eq]
    cases c1 : (e.op == 1)
    · cases c2 : (e.op == 2)
      · simp only [cond_false]
        have o3 : 3 ≤ e.op := by simp only [beq_eq_false_iff_ne] at c1 c2; omega
        match hl : e.l with
        | [] =>
          simp only [shL, tkL]
          rcases want_zero hm c1 c2 hl with h | h
          · rw [h]; exact lexes_word hk hr rfl ⟨_, _, rfl, rfl⟩ (by decide)
          · rw [h]; exact lexes_word hk hr rfl ⟨_, _, rfl, rfl⟩ (by decide)
        | [x] =>
          have hx : x ∈ e.l := by rw [hl]; simp
          have ix := ih x (by have := sz_lt hx; omega) (h3 x hx) (41 :: r) _ (lexes_close hk) (.inr ⟨_, _, rfl, .inr rfl⟩)
          have := lexes_open (lexes_op o3 o2 (lexes_blank ix))
          simp only [shL, shR, tkL, tkR]
          simpa using this
        | x :: y :: t =>
          have hx : x ∈ e.l := by rw [hl]; simp
          have hy : y ∈ e.l := by rw [hl]; simp
          have iy := ih y (by have := sz_lt hy; omega) (h3 y hy) (41 :: r) _ (lexes_close hk) (.inr ⟨_, _, rfl, .inr rfl⟩)
          have ix := ih x (by have := sz_lt hx; omega) (h3 x hx) (32 :: (txt e.op ++ 32 :: (sh names y ++ 41 :: r))) _ (lexes_blank (lexes_op o3 o2 (lexes_blank iy))) (.inr ⟨_, _, rfl, .inl rfl⟩)
          have := lexes_open ix
          simp only [shL, shR, tkL, tkR]
          simpa using this
      · simp only [cond_false, cond_true]
        have hb := h2 (beq_iff_eq.1 c2)
        have hlt : e.n.toNat < names.length := by rw [hn.1]; omega
        have hg : names.getD e.n.toNat [] ∈ names := by
          rw [show names.getD e.n.toNat [] = names[e.n.toNat] by simp [List.getD, List.getElem?_eq_getElem hlt]]
          exact List.getElem_mem hlt
        have := List.all_eq_true.1 hn.2 _ hg
        simp only [nameB, Bool.and_eq_true, decide_eq_true_eq] at this
        refine lexes_word hk hr this.1.1.1 ?_ this.1.1.2
        have h4 := this.1.2
        cases hs : names.getD e.n.toNat [] with
        | nil => rw [hs] at h4; cases h4
        | cons c s => rw [hs] at h4; exact ⟨c, s, rfl, h4⟩
    · simp only [cond_true]
      have hb := h1 (beq_iff_eq.1 c1)
      exact lexes_num hb.1 hb.2 hk hr
/-- the document's tokens of what is shown -/
theorem shown_toks {names : List Str} (hn : NamesGood names) {e : Ex} (hm : mayE 3 e = true) (hs : (sh names e).length ≤ 65536) : ∃ l, scrutinyref12_Tokens (sh names e) = some (l, 0, 0) ∧ l.map strip = tk names e ++ [(4, [], 0)] := by
  obtain ⟨l, h1, h2⟩ := lexes_tree hn e.sz e (Nat.le_refl _) hm [] _ lexes_nil (.inl rfl)
  rw [List.append_nil] at h1
  exact ⟨l, by rw [refTokens_eq, tokens_lex hs, h1]; rfl, h2⟩
end Lx
end Go.Proofs.YtmeombbmhpcacaaDoor
