/-
  The plain laws of trees: what is shown: program and document agree. (own)
-/
import Derived.Test.YtmeombbmhpcacaaDoorExprTells1
namespace Go.Proofs.YtmeombbmhpcacaaDoor

theorem catB_le {m l : Str} (h : m.length + l.length ≤ 9223372036854775807) : catB m l = true := Nat.ble_eq_true_of_le h
theorem nDigits_le : ∀ (k u : Nat), u < 10 ^ (k + 1) → Lib.nDigits u ≤ k + 1
  | 0, u, h => by rw [Lib.nDigits_small (by simpa using h)]; omega
  | k + 1, u, h => by
    by_cases hu : u < 10
    · rw [Lib.nDigits_small hu]; omega
    · rw [Lib.nDigits_big hu]
      have := nDigits_le k (u / 10) (by rw [Nat.div_lt_iff_lt_mul (by omega), ← Nat.pow_succ]; exact h)
      omega
theorem itoa_len {n : Int} (h0 : 0 ≤ n) (h1 : n ≤ 1073741824) : (Lib.itoa n).length ≤ 10 := by
  unfold Lib.itoa
  rw [if_neg (by omega), Lib.decDigits_length]
  exact nDigits_le 9 n.toNat (by omega)

/-- the document's digits -/
theorem digits_some : ∀ (N : Nat) (n : Nat), n ≤ N → n < 4611686018427387904 → fixN (fun k (s : Int) => scrutinyref13_digits_F k s) (N + 1) (n : Int) = some (Lib.decDigits n) := by
  intro N
  induction N with
  | zero =>
    intro n h _
    obtain rfl : n = 0 := by omega
    rw [Lib.decDigits, dif_pos (by omega)]
    rfl
  | succ N ih =>
    intro n h hb
    rw [fixN_succ]
    show scrutinyref13_digits_F _ (n : Int) = _
    generalize fixN (fun k (s : Int) => scrutinyref13_digits_F k s) (N + 1) = k at ih ⊢
    unfold scrutinyref13_digits_F
    by_cases hn : n < 10
    · rw [Lib.decDigits, dif_pos hn, decide_eq_true (by omega)]
      have : n = 0 ∨ n = 1 ∨ n = 2 ∨ n = 3 ∨ n = 4 ∨ n = 5 ∨ n = 6 ∨ n = 7 ∨ n = 8 ∨ n = 9 := by omega
      rcases this with rfl | rfl | rfl | rfl | rfl | rfl | rfl | rfl | rfl | rfl <;> rfl
    · rw [decide_eq_false (by omega)]
      have e1 : Int.tdiv (n : Int) 10 = ((n / 10 : Nat) : Int) := by
        rw [Int.tdiv_eq_ediv_of_nonneg (by omega)]; omega
      have e2 : Int.tmod (n : Int) 10 = ((n % 10 : Nat) : Int) := by
        rw [Int.tmod_eq_emod_of_nonneg (by omega)]; omega
      have i1 := ih (n / 10) (by omega) (by omega)
      have i2 := ih (n % 10) (by omega) (by omega)
      have d2 : Lib.decDigits (n % 10) = [UInt8.ofNat (48 + n % 10)] := by rw [Lib.decDigits, dif_pos (by omega)]
      have hlen : (Lib.decDigits (n / 10)).length ≤ 19 := by
        rw [Lib.decDigits_length]; exact nDigits_le 18 _ (by omega)
      simp only [cond_false, e1, e2, w64 (show -9223372036854775808 ≤ ((n / 10 : Nat) : Int) ∧ ((n / 10 : Nat) : Int) ≤ 9223372036854775807 by omega), i1, i2, bind_s, d2]
      rw [catB_le (by simp only [List.length_cons, List.length_nil]; omega)]
      conv => rhs; rw [Lib.decDigits, dif_neg hn]
      rfl
theorem digits_eq {n : Int} (h0 : 0 ≤ n) (h1 : n ≤ 1073741824) : scrutinyref13_digits n = some (Lib.itoa n) := by
  obtain ⟨m, rfl⟩ : ∃ m : Nat, n = m := ⟨n.toNat, by omega⟩
  have := digits_some 18446744073709551615 m (by omega) (by omega)
  unfold scrutinyref13_digits
  rw [show FUEL = 18446744073709551615 + 1 from rfl, this]
  unfold Lib.itoa
  rw [if_neg (by omega)]
  rfl

def txt (op : Int) : Str := textsL.getD op.toNat []
mutual
def sh (names : List Str) : Ex → Str
  | .mk op n _ l => bif op == 1 then Lib.itoa n else bif op == 2 then names.getD n.toNat [] else shL names op l
def shL (names : List Str) (op : Int) : List Ex → Str
  | [] => txt op
  | x :: r => shR names op (sh names x) r
def shR (names : List Str) (op : Int) (s : Str) : List Ex → Str
  | [] => [40] ++ txt op ++ [32] ++ s ++ [41]
  | y :: _ => [40] ++ s ++ [32] ++ txt op ++ [32] ++ sh names y ++ [41]
end
theorem sh_eq (names : List Str) (e : Ex) : sh names e = bif e.op == 1 then Lib.itoa e.n else bif e.op == 2 then names.getD e.n.toNat [] else shL names e.op e.l := by cases e; simp only [sh, Ex.op, Ex.n, Ex.l]
theorem idx_txt {op : Int} (h1 : 1 ≤ op) (h2 : op ≤ 24) : idx textsL op = some (txt op) := by
  unfold idx txt
  have hl : textsL.length = 25 := rfl
  rw [if_pos (by omega), List.getElem?_eq_getElem (by omega)]
  simp [List.getD, List.getElem?_eq_getElem (show op.toNat < textsL.length by omega)]
theorem txt_len (op : Int) : (txt op).length ≤ 5 := by
  unfold txt
  have : ∀ i : Nat, i < 25 → (textsL.getD i []).length ≤ 5 := by decide
  by_cases h : op.toNat < 25
  · exact this _ h
  · have hl : textsL.length = 25 := rfl
    simp [List.getD, List.getElem?_eq_none (show textsL.length ≤ op.toNat by omega)]

theorem may_facts {e : Ex} (h : mayE 3 e = true) : (1 ≤ e.op ∧ e.op ≤ 24) ∧ (e.l.length : Int) = wantOf e.op ∧ (e.op = 1 → 0 ≤ e.n ∧ e.n ≤ 1073741824) ∧ (e.op = 2 → 0 ≤ e.n ∧ e.n < 3) ∧ ∀ x ∈ e.l, mayE 3 x = true := by
  rw [mayE_eq] at h
  simp only [mayH, Bool.and_eq_true, Bool.not_eq_true', Bool.or_eq_false_iff, decide_eq_false_iff_not, bne_eq_false_iff_eq, Bool.and_eq_false_imp, beq_iff_eq] at h
  obtain ⟨⟨⟨⟨h1, h2⟩, h3⟩, ⟨h4, h5⟩, _⟩, h6⟩ := h
  refine ⟨by omega, h3, fun h => by have := h4 h; omega, fun h => by have := h5 h; omega, ?_⟩
  have : ∀ (l : List Ex), mayL 3 l = true → ∀ x ∈ l, mayE 3 x = true := fun l => by
    induction l with
    | nil => intro _ x hx; cases hx
    | cons y r ih =>
      intro h x hx
      simp only [mayL, Bool.and_eq_true] at h
      rcases List.mem_cons.1 hx with rfl | hx
      · exact h.1
      · exact ih h.2 x hx
  exact this _ h6
theorem want_le (op : Int) : wantOf op ≤ 2 := by
  unfold wantOf
  cases (op == 1 || op == 2 || op == 13 || op == 14)
  · cases (op == 6 || op == 15 || op == 20 || op == 21 || op == 22)
    · exact Int.le_refl _
    · exact (by decide : (1 : Int) ≤ 2)
  · exact (by decide : (0 : Int) ≤ 2)

/-- names: three, none of them long -/
def NamesOk (names : List Str) : Prop := names.length = 3 ∧ ∀ s ∈ names, s.length ≤ 32
theorem names_at {names : List Str} (h : NamesOk names) {n : Int} (h0 : 0 ≤ n) (h3 : n < 3) : idx names n = some (names.getD n.toNat []) ∧ (names.getD n.toNat []).length ≤ 32 := by
  have hl : n.toNat < names.length := by rw [h.1]; omega
  have e : names.getD n.toNat [] = names[n.toNat] := by simp [List.getD, List.getElem?_eq_getElem hl]
  rw [e]
  unfold idx
  rw [if_pos h0, List.getElem?_eq_getElem hl]
  exact ⟨rfl, h.2 _ (List.getElem_mem hl)⟩
theorem sh_len {names : List Str} (hn : NamesOk names) : ∀ (N : Nat) (e : Ex), e.sz ≤ N → mayE 3 e = true → (sh names e).length ≤ 64 * e.sz := by
  intro N
  induction N with
  | zero => intro e h; have := sz_pos e; omega
  | succ N ih =>
    intro e h hm
    obtain ⟨_, _, h1, h2, h3⟩ := may_facts hm
    have hp := sz_pos e
    have hs := Ex.sz_l e
    rw [sh_eq]
    cases c1 : (e.op == 1)
    · cases c2 : (e.op == 2)
      · simp only [cond_false]
        have ht := txt_len e.op
        match hl : e.l with
        | [] => simp only [shL]; omega
        | [x] =>
          have hx : x ∈ e.l := by rw [hl]; simp
          have := ih x (by have := sz_lt hx; omega) (h3 x hx)
          rw [hl] at hs
          simp only [szL] at hs
          simp only [shL, shR, List.length_append, List.length_cons, List.length_nil]
          omega
        | x :: y :: r =>
          have hx : x ∈ e.l := by rw [hl]; simp
          have hy : y ∈ e.l := by rw [hl]; simp
          have := ih x (by have := sz_lt hx; omega) (h3 x hx)
          have := ih y (by have := sz_lt hy; omega) (h3 y hy)
          rw [hl] at hs
          simp only [szL] at hs
          simp only [shL, shR, List.length_append, List.length_cons, List.length_nil]
          omega
      · simp only [cond_false, cond_true]
        have := h2 (beq_iff_eq.1 c2)
        have := (names_at hn this.1 this.2).2
        omega
    · simp only [cond_true]
      have := h1 (beq_iff_eq.1 c1)
      have := itoa_len this.1 this.2
      omega

theorem show_F {names : List Str} (hn : NamesOk names) (k : Ex × List Str → Option Str) (e : Ex) (hb : e.sz < 1152921504606846) (hm : mayE 3 e = true) (hk : ∀ x ∈ e.l, k (x, names) = some (sh names x)) : expr_Show_F k e names = some (sh names e) := by
  obtain ⟨⟨o1, o2⟩, hw, h1, h2, h3⟩ := may_facts hm
  have ht := txt_len e.op
  have hwl := want_le e.op
  rw [sh_eq]
  unfold expr_Show_F
  cases c1 : (e.op == 1)
  · cases c2 : (e.op == 2)
    · simp only [cond_false, idx_txt o1 o2, bind_s]
      match hl : e.l with
      | [] => simp only [shL]; rfl
      | [x] =>
        have hx : x ∈ e.l := by rw [hl]; simp
        have := sz_lt hx
        have lx := sh_len hn x.sz x (Nat.le_refl _) (h3 x hx)
        have ex : idx [x] 0 = some x := rfl
        have b0 : ((List.length [x] : Int) == 0) = false := rfl
        have b1 : ((List.length [x] : Int) == 1) = true := rfl
        simp only [b0, b1, cond_false, cond_true, ex, bind_s, hk x hx, shL, shR]
        rw [catB_le (by simp only [List.length_cons, List.length_nil]; omega), catB_le (by simp only [List.length_append, List.length_cons, List.length_nil]; omega), catB_le (by simp only [List.length_append, List.length_cons, List.length_nil]; omega), catB_le (by simp only [List.length_append, List.length_cons, List.length_nil]; omega)]
        rfl
      | [x, y] =>
        have hx : x ∈ e.l := by rw [hl]; simp
        have hy : y ∈ e.l := by rw [hl]; simp
        have := sz_lt hx
        have := sz_lt hy
        have lx := sh_len hn x.sz x (Nat.le_refl _) (h3 x hx)
        have ly := sh_len hn y.sz y (Nat.le_refl _) (h3 y hy)
        have ex : idx [x, y] 0 = some x := rfl
        have ey : idx [x, y] 1 = some y := rfl
        have b0 : ((List.length [x, y] : Int) == 0) = false := rfl
        have b1 : ((List.length [x, y] : Int) == 1) = false := rfl
        simp only [b0, b1, cond_false, ex, ey, bind_s, hk x hx, hk y hy, shL, shR]
        rw [catB_le (by simp only [List.length_cons, List.length_nil]; omega), catB_le (by simp only [List.length_append, List.length_cons, List.length_nil]; omega), catB_le (by simp only [List.length_append, List.length_cons, List.length_nil]; omega), catB_le (by simp only [List.length_append, List.length_cons, List.length_nil]; omega), catB_le (by simp only [List.length_append, List.length_cons, List.length_nil]; omega), catB_le (by simp only [List.length_append, List.length_cons, List.length_nil]; omega)]
        rfl
      | _ :: _ :: _ :: r => rw [hl] at hw; simp only [List.length_cons] at hw; omega
    · simp only [cond_false, cond_true]
      have := h2 (beq_iff_eq.1 c2)
      rw [(names_at hn this.1 this.2).1]
      rfl
  · simp only [cond_true]
    have := h1 (beq_iff_eq.1 c1)
    rw [show i64B e.n = true from i64B_iff.2 (by omega)]
    rfl
theorem show_some {names : List Str} (hn : NamesOk names) : ∀ (N : Nat) (e : Ex), e.sz ≤ N → e.sz < 1152921504606846 → mayE 3 e = true → fixN (fun k (s : Ex × List Str) => expr_Show_F k s.1 s.2) N (e, names) = some (sh names e) := by
  intro N
  induction N with
  | zero => intro e h; have := sz_pos e; omega
  | succ N ih =>
    intro e h hb hm
    rw [fixN_succ]
    exact show_F hn _ e hb hm (fun x hx => ih x (by have := sz_lt hx; omega) (by have := sz_lt hx; omega) ((may_facts hm).2.2.2.2 x hx))
theorem Show_eq {names : List Str} (hn : NamesOk names) (e : Ex) (h : e.sz < 1152921504606846) (hm : mayE 3 e = true) : expr_Show e names = some (sh names e) := show_some hn FUEL e (by show e.sz ≤ 2 ^ 64; omega) h hm

theorem rshow_F {names : List Str} (hn : NamesOk names) (k : Ex × List Str → Option Str) (e : Ex) (hb : e.sz < 1152921504606846) (hm : mayE 3 e = true) (hk : ∀ x ∈ e.l, k (x, names) = some (sh names x)) : scrutinyref13_Show_F k e names = some (sh names e) := by
  obtain ⟨⟨o1, o2⟩, hw, h1, h2, h3⟩ := may_facts hm
  have ht := txt_len e.op
  have hwl := want_le e.op
  have hi : ∀ {α : Type} (f : Str → Option α), (idx ([[], [], [], [43], [45], [42], [45], [61, 61], [33, 61], [60], [60, 61], [62], [62, 61], [116, 114, 117, 101], [102, 97, 108, 115, 101], [33], [38], [124], [45, 62], [60, 45, 62], [88], [70], [71], [85], [82]] : List Str) e.op).bind f = f (txt e.op) := fun f => by
    show (idx textsL e.op).bind f = _
    rw [idx_txt o1 o2]; rfl
  rw [sh_eq]
  unfold scrutinyref13_Show_F
  cases c1 : (e.op == 1)
  · cases c2 : (e.op == 2)
    · simp only [cond_false, hi]
      match hl : e.l with
      | [] => simp only [shL]; rfl
      | [x] =>
        have hx : x ∈ e.l := by rw [hl]; simp
        have := sz_lt hx
        have lx := sh_len hn x.sz x (Nat.le_refl _) (h3 x hx)
        have ex : idx [x] 0 = some x := rfl
        have b0 : ((List.length [x] : Int) == 0) = false := rfl
        have b1 : ((List.length [x] : Int) == 1) = true := rfl
        simp only [b0, b1, cond_false, cond_true, ex, bind_s, hk x hx, shL, shR]
        rw [catB_le (by simp only [List.length_cons, List.length_nil]; omega), catB_le (by simp only [List.length_append, List.length_cons, List.length_nil]; omega), catB_le (by simp only [List.length_append, List.length_cons, List.length_nil]; omega), catB_le (by simp only [List.length_append, List.length_cons, List.length_nil]; omega)]
        rfl
      | [x, y] =>
        have hx : x ∈ e.l := by rw [hl]; simp
        have hy : y ∈ e.l := by rw [hl]; simp
        have := sz_lt hx
        have := sz_lt hy
        have lx := sh_len hn x.sz x (Nat.le_refl _) (h3 x hx)
        have ly := sh_len hn y.sz y (Nat.le_refl _) (h3 y hy)
        have ex : idx [x, y] 0 = some x := rfl
        have ey : idx [x, y] 1 = some y := rfl
        have b0 : ((List.length [x, y] : Int) == 0) = false := rfl
        have b1 : ((List.length [x, y] : Int) == 1) = false := rfl
        simp only [b0, b1, cond_false, ex, ey, bind_s, hk x hx, hk y hy, shL, shR]
        rw [catB_le (by simp only [List.length_cons, List.length_nil]; omega), catB_le (by simp only [List.length_append, List.length_cons, List.length_nil]; omega), catB_le (by simp only [List.length_append, List.length_cons, List.length_nil]; omega), catB_le (by simp only [List.length_append, List.length_cons, List.length_nil]; omega), catB_le (by simp only [List.length_append, List.length_cons, List.length_nil]; omega), catB_le (by simp only [List.length_append, List.length_cons, List.length_nil]; omega)]
        rfl
      | _ :: _ :: _ :: r => rw [hl] at hw; simp only [List.length_cons] at hw; omega
    · simp only [cond_false, cond_true]
      have := h2 (beq_iff_eq.1 c2)
      rw [(names_at hn this.1 this.2).1]
      rfl
  · simp only [cond_true]
    have := h1 (beq_iff_eq.1 c1)
    rw [digits_eq this.1 this.2]
    rfl
theorem rshow_some {names : List Str} (hn : NamesOk names) : ∀ (N : Nat) (e : Ex), e.sz ≤ N → e.sz < 1152921504606846 → mayE 3 e = true → fixN (fun k (s : Ex × List Str) => scrutinyref13_Show_F k s.1 s.2) N (e, names) = some (sh names e) := by
  intro N
  induction N with
  | zero => intro e h; have := sz_pos e; omega
  | succ N ih =>
    intro e h hb hm
    rw [fixN_succ]
    exact rshow_F hn _ e hb hm (fun x hx => ih x (by have := sz_lt hx; omega) (by have := sz_lt hx; omega) ((may_facts hm).2.2.2.2 x hx))
theorem RShow_eq {names : List Str} (hn : NamesOk names) (e : Ex) (h : e.sz < 1152921504606846) (hm : mayE 3 e = true) : scrutinyref13_Show e names = some (sh names e) := rshow_some hn FUEL e (by show e.sz ≤ 2 ^ 64; omega) h hm
end Go.Proofs.YtmeombbmhpcacaaDoor
