/-
  Tokens of a text in brackets. (own)
-/
import Derived.Test.YtmeombbmhpcacaaDoorExprBrk1
namespace Go.Proofs.YtmeombbmhpcacaaDoor
namespace Lx

theorem prefix_stop {r : Str} : ∀ (g s : Str), 41 ∉ g → g.isPrefixOf (s ++ 41 :: r) = g.isPrefixOf s := fun g s h => prefix_sep g s h
theorem signOf_stop {r : Str} (c : UInt8) (s : Str) : signOf ((c :: s) ++ 41 :: r) = signOf (c :: s) := by
  have : ∀ g ∈ signs, g.isPrefixOf ((c :: s) ++ 41 :: r) = g.isPrefixOf (c :: s) := by
    intro g hg
    by_cases h : (41 : UInt8) ∈ g
    · have : g = [41] := by
        have hall : ∀ g ∈ signs, 41 ∈ g → g = [41] := by decide
        exact hall g hg h
      subst this
      simp [List.isPrefixOf]
    · exact prefix_sep g _ h
  have := find_congr this
  unfold signOf
  rw [this]
theorem step_stop {b : UInt8} {r : Str} (hb : b = 32 ∨ b = 41) (c : UInt8) (s : Str) (hc : (c == 35) = false) : step ((c :: s) ++ b :: r) = step (c :: s) := by
  rcases hb with rfl | rfl
  · exact step_sep rfl c s (.inl hc)
  · have he : ((c :: s) ++ 41 :: r).takeWhile isEither = (c :: s).takeWhile isEither := takeWhile_sep rfl _
    have hd : ((c :: s) ++ 41 :: r).takeWhile isDigit = (c :: s).takeWhile isDigit := takeWhile_sep rfl _
    have hs := signOf_stop (r := r) c s
    rw [List.cons_append] at he hd hs ⊢
    simp only [step, hc, he, hd, hs, Bool.false_eq_true, if_false]
/-- a text without comments, and a blank or a closing bracket behind it: its tokens, and those of what stands there -/
theorem lexes_front {b : UInt8} {r : Str} {k : List Tk} (hb : b = 32 ∨ b = 41) (hk : lexes (b :: r) k) : ∀ (N : Nat) (a : Str), a.length ≤ N → (∀ c ∈ a, c ≠ 35) → ∀ l, lex a = .ok l → ∃ u e, l = u ++ [e] ∧ e.1 = 4 ∧ lexes (a ++ b :: r) (u.map strip ++ k) := by
  intro N
  induction N with
  | zero =>
    intro a ha _ l hl
    obtain rfl : a = [] := List.eq_nil_of_length_eq_zero (by omega)
    rw [lex_nil] at hl
    cases hl
    exact ⟨[], _, rfl, rfl, hk⟩
  | succ N ih =>
    intro a ha hc l hl
    cases a with
    | nil =>
      rw [lex_nil] at hl
      cases hl
      exact ⟨[], _, rfl, rfl, hk⟩
    | cons c s =>
      have h35 : (c == 35) = false := by simpa using hc c (by simp)
      have hst := step_stop (r := r) hb c s h35
      cases hs : step (c :: s) with
      | err e => rw [lex_err hs] at hl; cases hl
      | skip n =>
        obtain ⟨n1, n2⟩ := step_skip hs
        rw [lex_skip hs] at hl
        rw [hs] at hst
        cases hx : lex ((c :: s).drop n) with
        | error e => rw [hx] at hl; cases hl
        | ok l' =>
          rw [hx] at hl
          cases hl
          obtain ⟨u, e, rfl, he, l2, h1, h2⟩ := ih ((c :: s).drop n) (by simp at *; omega) (fun d hd => hc d (List.mem_of_mem_drop hd)) l' hx
          refine ⟨u.map (shT n), shT n e, by simp, he, ?_⟩
          have h3 : lex ((c :: s) ++ b :: r) = shE n (lex (((c :: s) ++ b :: r).drop n)) := lex_skip hst
          rw [List.drop_append_of_le_length n2, h1] at h3
          exact ⟨_, h3, by rw [strip_map, strip_map, h2]⟩
      | tok q t n =>
        obtain ⟨_, _, t1, t2⟩ := step_tok hs
        rw [lex_tok hs] at hl
        rw [hs] at hst
        cases hx : lex ((c :: s).drop t.length) with
        | error e => rw [hx] at hl; cases hl
        | ok l' =>
          rw [hx] at hl
          cases hl
          obtain ⟨u, e, rfl, he, l2, h1, h2⟩ := ih ((c :: s).drop t.length) (by simp at *; omega) (fun d hd => hc d (List.mem_of_mem_drop hd)) l' hx
          refine ⟨(q, t, n, 0) :: u.map (shT t.length), shT t.length e, by simp, he, ?_⟩
          have h3 : lex ((c :: s) ++ b :: r) = consE (q, t, n, 0) (shE t.length (lex (((c :: s) ++ b :: r).drop t.length))) := lex_tok hst
          rw [List.drop_append_of_le_length t2.length_le, h1] at h3
          refine ⟨_, h3, ?_⟩
          show strip (q, t, n, 0) :: (l2.map (shT t.length)).map strip = _
          rw [strip_map, h2, List.map_cons, strip_map]; rfl
/-- a sign or key word with an opening bracket behind it -/
theorem lexes_open_op {op : Int} (hop : op ∈ ([19, 18, 17, 16, 23, 24, 7, 9, 3, 5] : List Int)) {r : Str} {k : List Tk} (h : lexes (40 :: r) k) : lexes (txt op ++ 40 :: r) ((kd op, txt op, 0) :: k) := by
  refine lexes_cons h (lex_tok' ?_)
  simp only [List.mem_cons, List.not_mem_nil, or_false] at hop
  rcases hop with rfl | rfl | rfl | rfl | rfl | rfl | rfl | rfl | rfl | rfl <;> rfl
end Lx
end Go.Proofs.YtmeombbmhpcacaaDoor
