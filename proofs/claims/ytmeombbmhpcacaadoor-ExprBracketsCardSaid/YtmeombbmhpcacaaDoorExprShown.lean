/-
  Tokens of what is shown: under way. (own)
-/
import Derived.Test.YtmeombbmhpcacaaDoorExprLex
import Derived.Test.YtmeombbmhpcacaaDoorExprTells2
namespace Go.Proofs.YtmeombbmhpcacaaDoor
namespace Lx

def kd (op : Int) : Int := bif decide (20 ≤ op) || op == 13 || op == 14 then 1 else 3
theorem step_txt {op : Int} (h1 : 3 ≤ op) (h2 : op ≤ 24) : step (txt op) = .tok (kd op) (txt op) 0 := by
  have : op = 3 ∨ op = 4 ∨ op = 5 ∨ op = 6 ∨ op = 7 ∨ op = 8 ∨ op = 9 ∨ op = 10 ∨ op = 11 ∨ op = 12 ∨ op = 13 ∨ op = 14 ∨ op = 15 ∨ op = 16 ∨ op = 17 ∨ op = 18 ∨ op = 19 ∨ op = 20 ∨ op = 21 ∨ op = 22 ∨ op = 23 ∨ op = 24 := by omega
  rcases this with rfl | rfl | rfl | rfl | rfl | rfl | rfl | rfl | rfl | rfl | rfl | rfl | rfl | rfl | rfl | rfl | rfl | rfl | rfl | rfl | rfl | rfl <;> rfl
theorem lex_tok' {t rest : Str} {k n : Int} (h : step (t ++ rest) = .tok k t n) : lex (t ++ rest) = consE (k, t, n, 0) (shE t.length (lex rest)) := by
  cases ht : t ++ rest with
  | nil => rw [ht] at h; cases h
  | cons c s =>
    rw [ht] at h
    rw [lex_tok h, ← ht, List.drop_left]
theorem lex_blank (s : Str) : lex (32 :: s) = shE 1 (lex s) := lex_skip (c := 32) (s := s) (k := 1) rfl
theorem lex_open (s : Str) : lex (40 :: s) = consE (3, [40], 0, 0) (shE 1 (lex s)) := lex_tok' (t := [40]) (rest := s) rfl
theorem lex_close (s : Str) : lex (41 :: s) = consE (3, [41], 0, 0) (shE 1 (lex s)) := lex_tok' (t := [41]) (rest := s) rfl
theorem lex_op {op : Int} (h1 : 3 ≤ op) (h2 : op ≤ 24) (r : Str) : lex (txt op ++ 32 :: r) = consE (kd op, txt op, 0, 0) (shE (txt op).length (lex (32 :: r))) := by
  refine lex_tok' ?_
  have hs := step_txt h1 h2
  cases ht : txt op with
  | nil => rw [ht] at hs; cases hs
  | cons c s =>
    have hc : (c == 35) = false := by
      rw [ht] at hs
      exact (step_tok hs).2.1
    rw [← ht, ← hs, ht]
    exact step_sep (by rfl) c s (.inl hc)
end Lx
end Go.Proofs.YtmeombbmhpcacaaDoor
