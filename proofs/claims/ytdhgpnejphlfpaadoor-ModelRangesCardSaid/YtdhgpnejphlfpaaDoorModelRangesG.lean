/-
  Own texts for the statement ModelRanges, cut down to what it needs: MoTok, MoShown, MoRange, MoRange2, KFr. (cut and joined by a program)
-/
import Derived.Test.YtdhgpnejphlfpaaDoorModelRangesA
import Derived.Test.YtdhgpnejphlfpaaDoorModelRangesB
import Derived.Test.YtdhgpnejphlfpaaDoorModelRangesC
import Derived.Test.YtdhgpnejphlfpaaDoorModelRangesD
import Derived.Test.YtdhgpnejphlfpaaDoorModelRangesE
import Derived.Test.YtdhgpnejphlfpaaDoorModelRangesF
import Derived.Lib.LaidTab
import Derived.Below
import Derived.WalkKit
import Derived.ProofKit
namespace Go.Proofs.YtdhgpnejphlfpaaDoor
theorem catB_le {m l : Str} (h : m.length + l.length ≤ 9223372036854775807) : catB m l = true := Nat.ble_eq_true_of_le h
theorem nDigits_le : ∀ (k u : Nat), u < 10 ^ (k + 1) → Lib.nDigits u ≤ k + 1
 | 0, u, h => by rw [Lib.nDigits_small (by simpa using h)]; omega
 | k + 1, u, h => by
  by_cases hu : u < 10
  ·rw [Lib.nDigits_small hu]; omega
  ·rw [Lib.nDigits_big hu]
   have := nDigits_le k (u / 10) (by rw [Nat.div_lt_iff_lt_mul (by omega), ← Nat.pow_succ]; exact h)
   omega
theorem itoa_len {n : Int} (h0 : 0 ≤ n) (h1 : n ≤ 1073741824) : (Lib.itoa n).length ≤ 10 := by
 unfold Lib.itoa
 rw [if_neg (by omega), Lib.decDigits_length]
 exact nDigits_le 9 n.toNat (by omega)
theorem digits_some : ∀ (N : Nat) (n : Nat), n ≤ N → n < 4611686018427387904 → fixN (fun k (s : Int) => scrutinyref13_digits_F k s) (N + 1) (n : Int) = some (Lib.decDigits n) := by
 intro N
 induction N with
 | zero =>
  intro n h _
  obtain rfl : n = 0 := by omega
  rw [Lib.decDigits, dif_pos (by omega)]
  rfl
 | succ N ih =>
  intro n h hb
  rw [fixN_succ]
  show scrutinyref13_digits_F _ (n : Int) = _
  generalize fixN (fun k (s : Int) => scrutinyref13_digits_F k s) (N + 1) = k at ih ⊢
  unfold scrutinyref13_digits_F
  by_cases hn : n < 10
  ·rw [Lib.decDigits, dif_pos hn, decide_eq_true (by omega)]
   have : n = 0 ∨ n = 1 ∨ n = 2 ∨ n = 3 ∨ n = 4 ∨ n = 5 ∨ n = 6 ∨ n = 7 ∨ n = 8 ∨ n = 9 := by omega
   rcases this with rfl | rfl | rfl | rfl | rfl | rfl | rfl | rfl | rfl | rfl <;> rfl
  ·rw [decide_eq_false (by omega)]
   have e1 : Int.tdiv (n : Int) 10 = ((n / 10 : Nat) : Int) := by
    rw [Int.tdiv_eq_ediv_of_nonneg (by omega)]; omega
   have e2 : Int.tmod (n : Int) 10 = ((n % 10 : Nat) : Int) := by
    rw [Int.tmod_eq_emod_of_nonneg (by omega)]; omega
   have i1 := ih (n / 10) (by omega) (by omega)
   have i2 := ih (n % 10) (by omega) (by omega)
   have d2 : Lib.decDigits (n % 10) = [UInt8.ofNat (48 + n % 10)] := by rw [Lib.decDigits, dif_pos (by omega)]
   have hlen : (Lib.decDigits (n / 10)).length ≤ 19 := by
    rw [Lib.decDigits_length]; exact nDigits_le 18 _ (by omega)
   simp only [cond_false, e1, e2, w64 (show -9223372036854775808 ≤ ((n / 10 : Nat) : Int) ∧ ((n / 10 : Nat) : Int) ≤ 9223372036854775807 by omega), i1, i2, bind_s, d2]
   rw [catB_le (by simp only [List.length_cons, List.length_nil]; omega)]
   conv => rhs; rw [Lib.decDigits, dif_neg hn]
   rfl
theorem digits_eq {n : Int} (h0 : 0 ≤ n) (h1 : n ≤ 1073741824) : scrutinyref13_digits n = some (Lib.itoa n) := by
 obtain ⟨m, rfl⟩ : ∃ m : Nat, n = m := ⟨n.toNat, by omega⟩
 have := digits_some 18446744073709551615 m (by omega) (by omega)
 unfold scrutinyref13_digits
 rw [show FUEL = 18446744073709551615 + 1 from rfl, this]
 unfold Lib.itoa
 rw [if_neg (by omega)]
 rfl
namespace Lx
theorem lex_tok' {t rest : Str} {k n : Int} (h : step (t ++ rest) = .tok k t n) : lex (t ++ rest) = consE (k, t, n, 0) (shE t.length (lex rest)) := by
 cases ht : t ++ rest with
 | nil => rw [ht] at h; cases h
 | cons c s =>
  rw [ht] at h
  rw [lex_tok h, ← ht, List.drop_left]
theorem lex_blank (s : Str) : lex (32 :: s) = shE 1 (lex s) := lex_skip (c := 32) (s := s) (k := 1) rfl
theorem dig_of (d : Nat) (h : d < 10) : dig (UInt8.ofNat (48 + d)) = d ∧ isDigit (UInt8.ofNat (48 + d)) = true := by
 have : d = 0 ∨ d = 1 ∨ d = 2 ∨ d = 3 ∨ d = 4 ∨ d = 5 ∨ d = 6 ∨ d = 7 ∨ d = 8 ∨ d = 9 := by omega
 rcases this with rfl | rfl | rfl | rfl | rfl | rfl | rfl | rfl | rfl | rfl <;> exact ⟨rfl, rfl⟩
theorem num_dec : ∀ (N n : Nat), n ≤ N → numFrom 0 (Lib.decDigits n) = n ∧ (Lib.decDigits n).all isDigit = true ∧ Lib.decDigits n ≠ [] := by
 intro N
 induction N with
 | zero =>
  intro n h
  obtain rfl : n = 0 := by omega
  rw [Lib.decDigits, dif_pos (by omega)]
  exact ⟨rfl, rfl, by simp⟩
 | succ N ih =>
  intro n h
  rw [Lib.decDigits]
  split
  ·rename_i hn
   obtain ⟨h1, h2⟩ := dig_of n hn
   refine ⟨?_, by simp only [List.all_cons, h2, List.all_nil, Bool.and_self], by simp⟩
   show 10 * 0 + dig (UInt8.ofNat (48 + n)) = n
   rw [h1]; omega
  ·rename_i hn
   obtain ⟨h1, h2⟩ := dig_of (n % 10) (by omega)
   obtain ⟨i1, i2, _⟩ := ih (n / 10) (by omega)
   refine ⟨?_, by simp only [List.all_append, i2, List.all_cons, h2, List.all_nil, Bool.and_self], by simp⟩
   unfold numFrom at *
   rw [List.foldl_append, i1]
   show 10 * ((n / 10 : Nat) : Int) + dig (UInt8.ofNat (48 + n % 10)) = n
   rw [h1]; omega
abbrev Tk := Int × Str × Int
def strip (t : Tok) : Tk := (t.1, t.2.1, t.2.2.1)
def lexes (s : Str) (k : List Tk) : Prop := ∃ l, lex s = .ok l ∧ l.map strip = k
theorem lexes_nil : lexes [] [(4, [], 0)] := ⟨_, lex_nil, rfl⟩
theorem strip_map (k : Nat) (l : List Tok) : (l.map (shT k)).map strip = l.map strip := by
 rw [List.map_map]; rfl
theorem lexes_cons {s t : Str} {k : List Tk} {a n : Int} {m : Nat} {x : Str} (h : lexes s k) (he : lex t = consE (a, x, n, 0) (shE m (lex s))) : lexes t ((a, x, n) :: k) := by
 obtain ⟨l, h1, h2⟩ := h
 rw [h1] at he
 exact ⟨_, he, by show _ :: _ = _; rw [strip_map, h2]; rfl⟩
theorem lexes_blank {s : Str} {k : List Tk} (h : lexes s k) : lexes (32 :: s) k := by
 obtain ⟨l, h1, h2⟩ := h
 refine ⟨l.map (shT 1), by rw [lex_blank, h1]; rfl, by rw [strip_map, h2]⟩
def stops (r : Str) : Prop := r = [] ∨ ∃ c s, r = c :: s ∧ (c = 32 ∨ c = 41)
theorem takeWhile_stop {p : UInt8 → Bool} (h32 : p 32 = false) (h41 : p 41 = false) {r : Str} (hr : stops r) {t : Str} (ht : t.all p = true) : (t ++ r).takeWhile p = t := by
 rcases hr with rfl | ⟨c, s, rfl, hc⟩
 ·rw [List.append_nil, takeWhile_self ht]
 ·rw [takeWhile_sep (by rcases hc with rfl | rfl <;> assumption), takeWhile_self ht]
theorem lexes_num {n : Int} (h0 : 0 ≤ n) (h1 : n ≤ 1073741824) {r : Str} {k : List Tk} (h : lexes r k) (hr : stops r) : lexes (Lib.itoa n ++ r) ((2, Lib.itoa n, n) :: k) := by
 refine lexes_cons h (lex_tok' ?_)
 obtain ⟨m, rfl⟩ : ∃ m : Nat, n = m := ⟨n.toNat, by omega⟩
 obtain ⟨d1, d2, d3⟩ := num_dec m m (Nat.le_refl _)
 have hi : Lib.itoa (m : Int) = Lib.decDigits m := by unfold Lib.itoa; rw [if_neg (by omega)]; rfl
 rw [hi]
 obtain ⟨c, s, hcs⟩ : ∃ c s, Lib.decDigits m = c :: s := by
  cases hd : Lib.decDigits m with
  | nil => exact absurd hd d3
  | cons c s => exact ⟨c, s, rfl⟩
 rw [hcs] at d1 d2 ⊢
 have hw := takeWhile_stop (p := isDigit) rfl rfl hr d2
 have hc : isDigit c = true := by simp only [List.all_cons, Bool.and_eq_true] at d2; exact d2.1
 have hb : isBlank c = false := by
  cases hb : isBlank c
  ·rfl
  ·rw [blank_digit hb] at hc; cases hc
 have h35 : (c == 35) = false := by
  cases h35 : (c == 35)
  ·rfl
  ·rw [beq_iff_eq.1 h35] at hc; cases hc
 have hl : isLetter c = false := by
  cases hl : isLetter c
  ·rfl
  ·rw [letter_digit hl] at hc; cases hc
 rw [List.cons_append] at hw ⊢
 simp only [step, hb, h35, hc, hl, Bool.false_eq_true, if_false, if_true, hw, d1]
 rw [if_neg (by simp only [big, decide_eq_true_eq]; omega)]
end Lx
end Go.Proofs.YtdhgpnejphlfpaaDoor
namespace Go.Proofs.YtdhgpnejphlfpaaDoor
namespace Mo
theorem shown_true : scrutinylaw14_shown = some true := by
 show _ = _
 kernel_rfl
end Mo
end Go.Proofs.YtdhgpnejphlfpaaDoor
namespace Go.Proofs.YtdhgpnejphlfpaaDoor
namespace Mo
open Pa Sy
open Lx (strip lexes stops Tk)
def J30 (n : Int) : Prop := -1073741824 ≤ n ∧ n ≤ 1073741824
theorem itoa_neg {n : Int} (h : n < 0) : Lib.itoa n = 45 :: Lib.itoa (-n) := by
 unfold Lib.itoa
 rw [if_pos h, if_neg (by omega)]
 have : n.natAbs = (-n).toNat := by omega
 rw [this]
theorem itoa_len2 {n : Int} (h : J30 n) : (Lib.itoa n).length ≤ 11 := by
 by_cases h0 : n < 0
 ·rw [itoa_neg h0, List.length_cons]
  have := itoa_len (n := -n) (by have := h.1; omega) (by have := h.1; omega)
  omega
 ·have := itoa_len (n := n) (by omega) h.2
  omega
theorem Show_num {n : Int} (h0 : 0 ≤ n) (h1 : n ≤ 1073741824) : scrutinyref13_Show (Ex.mk 1 n 0 []) [] = some (Lib.itoa n) := by
 obtain ⟨m, hm⟩ := fuel2
 unfold scrutinyref13_Show
 rw [hm, fixN_succ]
 show scrutinyref13_Show_F _ (Ex.mk 1 n 0 []) [] = _
 unfold scrutinyref13_Show_F
 rw [show ((Ex.mk 1 n 0 []).op == 1) = true from rfl, cond_true, show (Ex.mk 1 n 0 []).n = n from rfl, digits_eq h0 h1]
 rfl
theorem show_neg (k : Int → Option Str) {n : Int} (h : n < 0) : scrutinylaw14_show_F k n = (k (IntKind.i64.wrap (0 - n))).bind fun r4 => chk (catB [45] r4) <| some ([45] ++ r4) := by
 unfold scrutinylaw14_show_F
 rw [decide_eq_true h]; rfl
theorem show_eq {n : Int} (h : J30 n) : scrutinylaw14_show n = some (Lib.itoa n) := by
 obtain ⟨m, hm⟩ := fuel2
 unfold scrutinylaw14_show
 have pos : ∀ (k : Int → Option Str) (z : Int), 0 ≤ z → z ≤ 1073741824 → scrutinylaw14_show_F k z = some (Lib.itoa z) := fun k z h0 h1 => by
  unfold scrutinylaw14_show_F
  rw [decide_eq_false (by omega), cond_false, Show_num h0 h1]
  rfl
 rw [hm, fixN_succ]
 by_cases h0 : n < 0
 ·show scrutinylaw14_show_F _ n = _
  have h1 := h.1
  rw [show_neg _ h0, w64 (by omega), fixN_succ, show (0 : Int) - n = -n by omega]
  rw [pos _ (-n) (by omega) (by omega), bind_s]
  have := itoa_len (n := -n) (by omega) (by omega)
  rw [Sy.chk_t (catB_le (by simp; omega)), itoa_neg h0]
  rfl
 ·exact pos _ n (by omega) h.2
/-! tokens -/
def numK (n : Int) : List Tk := if n < 0 then [(3, [45], 0), (2, Lib.itoa (-n), -n)] else [(2, Lib.itoa n, n)]
def lexes0 (s : Str) (k : List Tk) : Prop := ∃ l, Lx.lex s = .ok l ∧ l.map strip = k ∧ headP l = 0
theorem lexes0.le {s : Str} {k : List Tk} (h : lexes0 s k) : lexes s k := by
 obtain ⟨l, h1, h2, _⟩ := h
 exact ⟨l, h1, h2⟩
theorem lexes0_cons {s t : Str} {k : List Tk} {a n : Int} {m : Nat} {x : Str} (h : lexes s k) (he : Lx.lex t = Lx.consE (a, x, n, 0) (Lx.shE m (Lx.lex s))) : lexes0 t ((a, x, n) :: k) := by
 obtain ⟨l, h1, h2⟩ := h
 rw [h1] at he
 exact ⟨_, he, by show _ :: _ = _; rw [Lx.strip_map, h2]; rfl, rfl⟩
theorem step_num {n : Int} (h0 : 0 ≤ n) (h1 : n ≤ 1073741824) {r : Str} (_hr : stops r) : ∃ c s, Lib.itoa n ++ r = c :: s ∧ Lx.isDigit c = true := by
 obtain ⟨m, rfl⟩ : ∃ m : Nat, n = m := ⟨n.toNat, by omega⟩
 obtain ⟨_, d2, d3⟩ := Lx.num_dec m m (Nat.le_refl _)
 have hi : Lib.itoa (m : Int) = Lib.decDigits m := by unfold Lib.itoa; rw [if_neg (by omega)]; rfl
 rw [hi]
 cases hd : Lib.decDigits m with
 | nil => exact absurd hd d3
 | cons c s =>
  rw [hd] at d2
  simp only [List.all_cons, Bool.and_eq_true] at d2
  exact ⟨c, s ++ r, rfl, d2.1⟩
theorem step_minus {c : UInt8} {s : Str} (hc : Lx.isDigit c = true) : Lx.step ([45] ++ (c :: s)) = .tok 3 [45] 0 := by
 have h62 : (62 == c) = false := by
  cases h : (62 == c)
  ·rfl
  ·rw [← beq_iff_eq.1 h] at hc; cases hc
 show Lx.step (45 :: c :: s) = _
 have hs : Lx.signOf (45 :: c :: s) = [45] := by
  unfold Lx.signOf Lx.signs
  simp [List.find?, List.isPrefixOf, h62]
 simp only [Lx.step, show Lx.isBlank 45 = false from rfl, show ((45 : UInt8) == 35) = false from rfl, show Lx.isLetter 45 = false from rfl, show Lx.isDigit 45 = false from rfl, Bool.false_eq_true, if_false, hs]
 rfl
theorem lexes_int {n : Int} (h : J30 n) {r : Str} {k : List Tk} (hr : lexes r k) (hs : stops r) : lexes0 (Lib.itoa n ++ r) (numK n ++ k) := by
 have num : ∀ z, 0 ≤ z → z ≤ 1073741824 → lexes0 (Lib.itoa z ++ r) ((2, Lib.itoa z, z) :: k) := fun z h0 h1 => by
  obtain ⟨l, e1, e2⟩ := Lx.lexes_num h0 h1 hr hs
  obtain ⟨c, s, e3, hc⟩ := step_num h0 h1 hs
  refine ⟨l, e1, e2, ?_⟩
  rw [e3] at e1
  cases hst : Lx.step (c :: s) with
  | skip j =>
   obtain ⟨t, r2, rfl⟩ : ∃ t r2, l = t :: r2 := by cases l with | nil => cases e2 | cons t r2 => exact ⟨t, r2, rfl⟩
   exfalso
   have hb : Lx.isBlank c = false := by
    cases hb : Lx.isBlank c
    ·rfl
    ·rw [Lx.blank_digit hb] at hc; cases hc
   have h35 : (c == 35) = false := by
    cases h35 : (c == 35)
    ·rfl
    ·rw [beq_iff_eq.1 h35] at hc; cases hc
   simp only [Lx.step, hb, h35, Bool.false_eq_true, if_false] at hst
   repeat (split at hst <;> try (cases hst))
  | err e =>
   have : Lx.lex (c :: s) = .error (e, 0) := by
    unfold Lx.lex
    simp only [Lx.lexS, hst]; rfl
   rw [this] at e1; cases e1
  | tok a t z =>
   rw [Lx.lex_tok hst] at e1
   cases hx : Lx.shE t.length (Lx.lex ((c :: s).drop t.length)) with
   | error e => rw [hx] at e1; cases e1
   | ok l2 =>
    rw [hx] at e1
    cases e1
    rfl
 unfold numK
 by_cases h0 : n < 0
 ·rw [if_pos h0, itoa_neg h0]
  have h1 := h.1
  have hn := num (-n) (by omega) (by omega)
  obtain ⟨c, s, e3, hc⟩ := step_num (n := -n) (by omega) (by omega) hs
  refine lexes0_cons (m := 1) hn.le ?_
  show Lx.lex ([45] ++ (Lib.itoa (-n) ++ r)) = _
  have hst : Lx.step ([45] ++ (Lib.itoa (-n) ++ r)) = .tok 3 [45] 0 := by rw [e3]; exact step_minus hc
  exact Lx.lex_tok' hst
 ·rw [if_neg h0]
  exact num n (by omega) h.2
theorem sNum_k {n : Int} (h : J30 n) {l : List Tok} {k : List Tk} (hl : l.map strip = numK n ++ k) : ∃ r, sNum l = .ok (n, r) ∧ r.map strip = k := by
 unfold numK at hl
 by_cases h0 : n < 0
 ·rw [if_pos h0] at hl
  match l, hl with
  | [], hl => cases hl
  | [a], hl => simp at hl
  | a :: b :: r, hl =>
   simp only [List.map_cons, List.cons_append, List.nil_append, List.cons.injEq] at hl
   obtain ⟨ha, hb, hr⟩ := hl
   have a1 : a.1 = 3 := congrArg (·.1) ha
   have a2 : a.2.1 = [45] := congrArg (·.2.1) ha
   have b1 : b.1 = 2 := congrArg (·.1) hb
   have b3 : b.2.2.1 = -n := congrArg (·.2.2) hb
   refine ⟨r, ?_, hr⟩
   have hH : isH 3 [45] (a :: b :: r) = true := by
    show isT 3 [45] a = true
    unfold isT
    rw [a1, a2]; rfl
   unfold sNum
   rw [hH, cond_true]
   show sNum1 true (b :: r) = _
   have h1 := h.1
   simp only [sNum1, b1, b3, show ((2 : Int) != 2) = false from rfl, cond_false, cond_true, w64 (show -9223372036854775808 ≤ 0 - -n ∧ 0 - -n ≤ 9223372036854775807 by omega)]
   rw [show (0 : Int) - -n = n by omega]
 ·rw [if_neg h0] at hl
  match l, hl with
  | [], hl => cases hl
  | b :: r, hl =>
   simp only [List.map_cons, List.cons_append, List.nil_append, List.cons.injEq] at hl
   obtain ⟨hb, hr⟩ := hl
   have b1 : b.1 = 2 := congrArg (·.1) hb
   have b3 : b.2.2.1 = n := congrArg (·.2.2) hb
   refine ⟨r, ?_, hr⟩
   have hH : isH 3 [45] (b :: r) = false := by
    show isT 3 [45] b = false
    unfold isT
    rw [b1]; rfl
   unfold sNum
   rw [hH, cond_false]
   simp only [sNum1, b1, b3, show ((2 : Int) != 2) = false from rfl, cond_false]
/-! the whole -/
def textR (L H F : Int) : Str := [118, 97, 114, 32, 32, 120, 32] ++ (Lib.itoa L ++ 32 :: (Lib.itoa H ++ 32 :: (Lib.itoa F ++ 32 :: [59])))
theorem stops32 (r : Str) : stops (32 :: r) := .inr ⟨32, r, rfl, .inl rfl⟩
theorem lex_R {L H F : Int} (hL : J30 L) (hH : J30 H) (hF : J30 F) : ∃ a b r, Lx.lex (textR L H F) = .ok (a :: b :: r) ∧ strip a = (1, [118, 97, 114], 0) ∧ strip b = (1, [120], 0) ∧ r.map strip = numK L ++ (numK H ++ (numK F ++ [(3, [59], 0), (4, [], 0)])) ∧ headP r = 7 := by
 have h0 : lexes [59] [(3, [59], 0), (4, [], 0)] := Lx.lexes_cons (m := 1) Lx.lexes_nil rfl
 have h1 := lexes_int hF (Lx.lexes_blank h0) (stops32 _)
 have h2 := lexes_int hH (Lx.lexes_blank h1.le) (stops32 _)
 obtain ⟨l, e1, e2, e3⟩ := lexes_int hL (Lx.lexes_blank h2.le) (stops32 _)
 have e2' : l.map strip = numK L ++ (numK H ++ (numK F ++ [(3, [59], 0), (4, [], 0)])) := e2
 generalize hT : Lib.itoa L ++ 32 :: (Lib.itoa H ++ 32 :: (Lib.itoa F ++ 32 :: [59])) = T at e1
 have f1 : Lx.lex (32 :: T) = .ok (l.map (Lx.shT 1)) := by rw [Lx.lex_blank, e1]; rfl
 have f2 : Lx.lex (120 :: 32 :: T) = Lx.consE (1, [120], 0, 0) (Lx.shE 1 (Lx.lex (32 :: T))) := Lx.lex_tok' (t := [120]) (rest := 32 :: T) rfl
 rw [f1] at f2
 have f3 : Lx.lex (32 :: 32 :: 120 :: 32 :: T) = Lx.shE 1 (Lx.shE 1 (Lx.lex (120 :: 32 :: T))) := by rw [Lx.lex_blank, Lx.lex_blank]
 rw [f2] at f3
 have f4 : Lx.lex ([118, 97, 114] ++ (32 :: 32 :: 120 :: 32 :: T)) = Lx.consE (1, [118, 97, 114], 0, 0) (Lx.shE 3 (Lx.lex (32 :: 32 :: 120 :: 32 :: T))) := Lx.lex_tok' rfl
 rw [f3] at f4
 have f5 : textR L H F = [118, 97, 114] ++ (32 :: 32 :: 120 :: 32 :: T) := by unfold textR; rw [hT]; rfl
 rw [f5, f4]
 refine ⟨_, _, _, rfl, rfl, rfl, ?_, ?_⟩
 ·simp only [Lx.strip_map]; exact e2'
 ·cases l with
  | nil =>
   unfold numK at e2'
   split at e2' <;> cases e2'
  | cons t r =>
   have : t.2.2.2 = 0 := e3
   simp only [headP, List.map_cons, Lx.shT, this]
   rfl
def okR (L H F : Int) : Bool := rightB L H && decide (L ≤ F) && decide (F ≤ H)
theorem sys_R {L H F : Int} (hL : J30 L) (hH : J30 H) (hF : J30 F) : sysT (textR L H F) = bif okR L H F then .ok ([[120]], [(L, H)], [F], [], []) else .error (5, 7) := by
 have l1 := itoa_len2 hL
 have l2 := itoa_len2 hH
 have l3 := itoa_len2 hF
 have hlen : (textR L H F).length ≤ 65536 := by unfold textR; simp; omega
 obtain ⟨a, b, r, e1, ha, hb, hr, h7⟩ := lex_R hL hH hF
 unfold sysT
 rw [if_neg (by omega), e1]
 obtain ⟨r1, n1, k1⟩ := sNum_k hL hr
 obtain ⟨r2, n2, k2⟩ := sNum_k hH k1
 obtain ⟨r3, n3, k3⟩ := sNum_k hF k2
 have a1 : a.1 = 1 := congrArg (·.1) ha
 have a2 : a.2.1 = [118, 97, 114] := congrArg (·.2.1) ha
 have b1 : b.1 = 1 := congrArg (·.1) hb
 have b2 : b.2.1 = [120] := congrArg (·.2.1) hb
 match r3, k3 with
 | [c, d], k3 =>
  simp only [List.map_cons, List.map_nil, List.cons.injEq] at k3
  obtain ⟨hc, hd, _⟩ := k3
  have c1 : c.1 = 3 := congrArg (·.1) hc
  have c2 : c.2.1 = [59] := congrArg (·.2.1) hc
  have d1 : d.1 = 4 := congrArg (·.1) hd
  have hN : sName (decide (16 ≤ ((([] : List Str).length : Nat) : Int))) [] [] (b :: r) = .ok ([120], r) := by
   simp only [sName, b1, b2]
   rfl
  have hS : sSign [59] [c, d] = .ok [d] := by
   simp only [sSign, isT, c1, c2]
   rfl
  have hV : sVar ([], [], [], [], []) (b :: r) = bif okR L H F then .ok (([[120]], [(L, H)], [F], [], []), [d]) else .error (5, 7) := by
   unfold sVar
   simp only
   rw [hN]
   simp only
   rw [n1]
   simp only
   rw [n2]
   simp only
   rw [n3]
   simp only
   rw [hS]
   simp only
   rw [h7, dec_not F L, dec_not H F]
   unfold okR
   cases rightB L H <;> cases decide (L ≤ F) <;> cases decide (F ≤ H) <;> rfl
  show sItems (r.length + 1 + 1 + 1) ([], [], [], [], []) (a :: b :: r) = _
  unfold sItems
  simp only [a1, isT, a2]
  rw [hV]
  cases okR L H F
  ·rfl
  ·simp only [cond_true]
   show sItems (r.length + 1 + 1) ([[120]], [(L, H)], [F], [], []) [d] = _
   unfold sItems
   simp only [d1]
   rfl
 | [], k3 => cases k3
 | [_], k3 => simp at k3
 | _ :: _ :: _ :: _, k3 => simp at k3
theorem rright_m (lo hi : Int) : scrutinyref02_Right [(lo, hi)] = some (rightB lo hi) := by
 obtain ⟨m, hm⟩ := fuel2
 unfold scrutinyref02_Right
 simp only [letv_e]
 rw [show (decide ((List.length ([(lo, hi)] : List (Int × Int)) : Int) < 1) || decide ((17 : Int) < (List.length ([(lo, hi)] : List (Int × Int)) : Int))) = false from rfl, cond_false, hm, fixN_succ]
 simp only [scrutinyref02_Right_L1, letv_e]
 rw [show decide ((0 : Int) < (List.length ([(lo, hi)] : List (Int × Int)) : Int)) = true from rfl, cond_true]
 simp only [show idx ([(lo, hi)] : List (Int × Int)) 0 = some (lo, hi) from rfl, bind_s, callG_v]
 rw [show IntKind.i64.wrap (0 + 1) = (1 : Int) from rfl, fixN_succ]
 simp only [scrutinyref02_Right_L1, letv_e]
 rw [show decide ((1 : Int) < (List.length ([(lo, hi)] : List (Int × Int)) : Int)) = false from rfl, cond_false]
 unfold rightB
 cases decide (hi < lo)
 ·simp only [Bool.not_false, cond_true, Bool.false_or]
  cases decide (lo < -1073741824)
  ·simp only [Bool.not_false, cond_true, Bool.false_or]
   cases decide (1073741824 < hi)
   ·simp only [Bool.not_false, cond_true, Bool.false_or]
    cases decide (65535 < IntKind.i64.wrap (hi - lo)) <;> rfl
   ·rfl
  ·rfl
 ·rfl
end Mo
end Go.Proofs.YtdhgpnejphlfpaaDoor
namespace Go.Proofs.YtdhgpnejphlfpaaDoor
namespace Mo
open Pa Sy
theorem half {n : Int} (h : -2147483648 ≤ n ∧ n ≤ 2147483647) : -1073741824 ≤ Int.tdiv n 2 ∧ Int.tdiv n 2 ≤ 1073741824 := by
 by_cases h0 : 0 ≤ n
 ·rw [Int.tdiv_eq_ediv_of_nonneg h0]; omega
 ·have e : Int.tdiv n 2 = -(Int.tdiv (-n) 2) := by rw [Int.neg_tdiv, Int.neg_neg]
  rw [e, Int.tdiv_eq_ediv_of_nonneg (by omega)]; omega
theorem halfW {n : Int} (h : -2147483648 ≤ n ∧ n ≤ 2147483647) : IntKind.i64.wrap (Int.tdiv (IntKind.i64.wrap n) 2) = Int.tdiv n 2 := by
 have := half h
 rw [w64 (show -9223372036854775808 ≤ n ∧ n ≤ 9223372036854775807 by omega), w64 (by omega)]
theorem modelRanges_true (lo hi first : Int) (h1 : -2147483648 ≤ lo ∧ lo ≤ 2147483647) (h2 : -2147483648 ≤ hi ∧ hi ≤ 2147483647) (h3 : -2147483648 ≤ first ∧ first ≤ 2147483647) : scrutinylaw14_ModelRanges lo hi first = some true := by
 unfold scrutinylaw14_ModelRanges
 rw [halfW h1, halfW h2, halfW h3]
 have j1 : J30 (Int.tdiv lo 2) := half h1
 have j2 : J30 (Int.tdiv hi 2) := half h2
 have j3 : J30 (Int.tdiv first 2) := half h3
 generalize Int.tdiv lo 2 = L at j1 ⊢
 generalize Int.tdiv hi 2 = H at j2 ⊢
 generalize Int.tdiv first 2 = F at j3 ⊢
 have l1 := itoa_len2 j1
 have l2 := itoa_len2 j2
 have l3 := itoa_len2 j3
 rw [shown_true, bind_s, show_eq j1, bind_s, Sy.chk_t (catB_le (by simp; omega)), Sy.chk_t (catB_le (by simp; omega)), show_eq j2, bind_s, Sy.chk_t (catB_le (by simp; omega)), Sy.chk_t (catB_le (by simp; omega)), show_eq j3, bind_s, Sy.chk_t (catB_le (by simp; omega)), Sy.chk_t (catB_le (by simp; omega))]
 have ht : (((((([118, 97, 114, 32, 32, 120, 32] ++ Lib.itoa L) ++ [32]) ++ Lib.itoa H) ++ [32]) ++ Lib.itoa F) ++ [32, 59] : Str) = textR L H F := by
  unfold textR
  simp [List.append_assoc]
 rw [ht, Parse_m, sys_R j1 j2 j3, bind_s, rright_m, bind_s]
 simp only [letv_e]
 rw [show (rightB L H && decide (L ≤ F) && decide (F ≤ H)) = okR L H F from rfl]
 cases okR L H F
 ·rfl
 ·simp only [cond_true, Bool.not_true, cond_false, outS]
  have he : eqT44 L H L H = true := by unfold eqT44; simp
  have hf : (F == F) = true := by simp
  simp only [show ((0 : Int) == 0) = true from rfl, show ((List.length ([[120]] : List Str) : Int) == 1) = true from rfl, Bool.and_self, callG_tt, show idx ([[120]] : List Str) 0 = some [120] from rfl, show idx ([(L, H)] : List (Int × Int)) 0 = some (L, H) from rfl, show idx ([F] : List Int) 0 = some F from rfl, bind_s, show (([120] : Str) == [120]) = true from rfl, he, hf]
end Mo
end Go.Proofs.YtdhgpnejphlfpaaDoor
namespace Go.Proofs.YtdhgpnejphlfpaaDoor
open Go.Lib Go.ChangeAt Go.ChangeShapes Go.WideShapes Go.RowKit
theorem laid_at {P : Program} {w : World} : ∀ (l : List (String × DataW Unit)) (ps : List MemPlace), DataW.LaidVars P w l ps → ∀ (i : Nat) (n : String) (d : DataW Unit), l[i]? = some (n, d) →
  ∃ g t cs fuel p, P.globalNamed n = some g ∧ (P.globals[g]?).map (·.type) = some t ∧ w.var? P n = some cs ∧ DataW.trod (fun _ => ()) P w 0 (fun _ => true) false fuel t cs.toList = some (d, p)
 | [], _, _, i, n, d, h => by simp at h
 | (n0, d0) :: l, ps, h, i, n, d, hi => by
  obtain ⟨g, t, cs, fuel, p, q, h1, h2, h3, h4, h5, _⟩ := h
  cases i with
  | zero =>
   simp only [List.getElem?_cons_zero, Option.some.injEq, Prod.mk.injEq] at hi
   obtain ⟨rfl, rfl⟩ := hi
   exact ⟨g, t, cs, fuel, p, h1, h2, h3, h4⟩
  | succ i => exact laid_at l q h5 i n d (by simpa using hi)
theorem cells_of_strs {H : Type} {enc : TypeId × Value → H} {P : Program} {w : World} {base : Nat} {sp : Nat → Bool} {held : Bool} {fuel : Nat} {t e : TypeId} {n : Nat} {cs : List Value} {zs : List Str} {p : List MemPlace}
  (ht : P.underlying t = some (.array n e)) (he : P.underlying e = some .string) (hce : P.cellsOf e = 1) (hct : P.cellsOf t = n)
  (h : DataW.trod enc P w base sp held fuel t cs = some (.agg (zs.map fun z => .lit (.string z)), p)) : cs = zs.map S := by
 cases fuel with
 | zero => simp [DataW.trod] at h
 | succ fuel =>
  simp only [DataW.trod, ht, hce, hct, Nat.mul_one] at h
  split at h
  ·rename_i hl
   obtain ⟨xs, hm, hx⟩ := Option.map_eq_some_iff.1 h
   have hxs : xs.map (·.1) = zs.map fun z => (DataW.lit (.string z) : DataW H) := by
    have := congrArg Prod.fst hx
    simpa using this
   have hxl : xs.length = n := by simpa using mapM_length hm
   have hzl : zs.length = n := by
    have := congrArg List.length hxs
    simp at this
    omega
   apply List.ext_getElem?
   intro i
   by_cases hi : i < n
   ·obtain ⟨b, hb, hf⟩ := mapM_at hm i i (by simp [hi])
    obtain ⟨z, hc, rfl, _⟩ := DataW.trod_string he hf
    have h1 : cs[i]? = some (.string z) := by
     have := congrArg (·[0]?) hc
     simpa [List.getElem?_take, List.getElem?_drop] using this
    have h2 : (xs.map (·.1))[i]? = some (DataW.lit (.string z.data.toList) : DataW H) := by simp [hb]
    rw [hxs] at h2
    simp only [List.getElem?_map, Option.map_eq_some_iff, DataW.lit.injEq, Lit.string.injEq] at h2
    obtain ⟨z', hz', hz2⟩ := h2
    subst hz2
    simp [h1, hz', S]
   ·rw [List.getElem?_eq_none (by omega), List.getElem?_eq_none (by simp; omega)]
  ·cases h
theorem laidMet_of {P : Program} {laid : List (String × DataW Unit)} {w : World} (hf : (laid.filter fun x => x.2.handleName?.isSome) = []) (h : laidMetH P laid w) : laidMet P laid w := by
 unfold laidMetH at h
 rw [hf] at h
 exact h
theorem gl_strs {P : Program} {laid : List (String × DataW Unit)} {w : World} {Γ : Ctx} (h : laidMet P laid w) (i : Nat) {n : String} {zs : List Str} {g : Nat} {t e : TypeId} {k : Nat}
  (hi : laid[i]? = some (n, .agg (zs.map fun z => .lit (.string z)))) (hg : P.globalNamed n = some g) (hty : (P.globals[g]?).map (·.type) = some t)
  (ht : P.underlying t = some (.array k e)) (he : P.underlying e = some .string) (hce : P.cellsOf e = 1) (hct : P.cellsOf t = k) (hM : ¬ Γ.M g) : (gl g (zs.map S)).P Γ.M w := by
 obtain ⟨ps, hl, _⟩ := h
 obtain ⟨g', t', cs, fuel, p, hg', ht', hv, hd⟩ := laid_at _ _ hl i n _ hi
 obtain rfl := Option.some.inj (hg.symm.trans hg')
 obtain rfl := Option.some.inj (hty.symm.trans ht')
 have e1 := cells_of_strs ht he hce hct hd
 refine ⟨hM, ?_⟩
 unfold World.var? at hv
 rw [hg] at hv
 simp only [Option.bind_some] at hv
 split at hv
 ·rename_i c ty fr hb
  obtain rfl := Option.some.inj hv
  exact ⟨ty, fr, by rw [hb, ← e1]⟩
 ·cases hv
theorem gl_ints {P : Program} {laid : List (String × DataW Unit)} {w : World} {Γ : Ctx} (h : laidMet P laid w) (i : Nat) {n : String} {kd : IntKind} {zs : List Int} {g : Nat} {t e : TypeId} {k : Nat}
  (hi : laid[i]? = some (n, tabData kd zs)) (hg : P.globalNamed n = some g) (hty : (P.globals[g]?).map (·.type) = some t)
  (ht : P.underlying t = some (.array k e)) (he : P.underlying e = some (.int kd)) (hce : P.cellsOf e = 1) (hct : P.cellsOf t = k) (hM : ¬ Γ.M g) : (gl g (zs.map (Value.int kd))).P Γ.M w := by
 obtain ⟨ps, hl, _⟩ := h
 obtain ⟨g', t', cs, fuel, p, hg', ht', hv, hd⟩ := laid_at _ _ hl i n _ hi
 obtain rfl := Option.some.inj (hg.symm.trans hg')
 obtain rfl := Option.some.inj (hty.symm.trans ht')
 have e1 := cells_of_tab ht he hce hct hd
 refine ⟨hM, ?_⟩
 unfold World.var? at hv
 rw [hg] at hv
 simp only [Option.bind_some] at hv
 split at hv
 ·rename_i c ty fr hb
  obtain rfl := Option.some.inj hv
  exact ⟨ty, fr, by rw [hb, ← e1]⟩
 ·cases hv
/-! the row at the start: nothing is owned -/
def NoM (Γ : Ctx) : Prop := ∀ b, ¬ Γ.M b
theorem noM_nil : NoM [] := fun b h => by obtain ⟨it, h, _⟩ := h; cases h
theorem noM_cons {it : Item} {Γ : Ctx} (hp : it.own = []) (h : NoM Γ) : NoM (it :: Γ) := fun b hb => by
 rcases Ctx.M_cons.1 hb with h1 | h1
 ·rw [hp] at h1; cases h1
 ·exact h b h1
theorem sat_start (w : World) : Sat [kept w (fun _ => False)] w := Sat.nil.add rfl ⟨SameEnv.refl w, Nat.le_refl _, fun b _ _ => ⟨noM_nil b, rfl⟩⟩
theorem noM_start (w : World) : NoM [kept w (fun _ => False)] := noM_cons rfl noM_nil
theorem below_end {w w' : World} {Γ : Ctx} {i : Nat} (h : Sat Γ w') (hi : Γ[i]? = some (kept w (fun _ => False))) : Below w.heap.size w w' := by
 obtain ⟨h1, h2, h3⟩ := h.kept hi
 exact ⟨h1.os, h1.tape, h1.output, h2, fun k hk => (h3 k hk (fun h => h)).2⟩
end Go.Proofs.YtdhgpnejphlfpaaDoor
