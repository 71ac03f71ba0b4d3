/-
  What is shown is read: from the tokens of a shown tree that tree is read again, or the first name that isn't there is told. (own)
-/
import Derived.Test.YtmeombbmhpcacaaDoorExprRead2
import Derived.Test.YtmeombbmhpcacaaDoorExprToks
import Derived.Test.YtmeombbmhpcacaaDoorExprFew
namespace Go.Proofs.YtmeombbmhpcacaaDoor
namespace Pa
open Job

def opK (s : Nat) (k : Lx.Tk) : Option Int := opOf s (k.1, k.2.1, k.2.2, 0)
theorem op_strip (s : Nat) (t : Tok) : opOf s t = opK s (Lx.strip t) := rfl
def lv : Int → Nat
  | 19 => 1
  | 18 => 2
  | 17 => 3
  | 16 => 4
  | 23 => 5
  | 24 => 5
  | 15 => 6
  | 20 => 6
  | 21 => 6
  | 22 => 6
  | 3 => 8
  | 4 => 8
  | 5 => 9
  | 6 => 10
  | 13 => 11
  | 14 => 11
  | _ => 7
def cnt : Nat → Int
  | 1 => 5
  | 2 => 4
  | 3 => 3
  | 4 => 3
  | 5 => 3
  | 6 => 2
  | 7 => 1
  | 8 => 1
  | 9 => 1
  | 10 => 1
  | _ => 0
def binOps : List Int := [3, 4, 5, 7, 8, 9, 10, 11, 12, 16, 17, 18, 19, 23, 24]
def preOps : List Int := [6, 15, 20, 21, 22]
def tokK (op : Int) : Lx.Tk := (Lx.kd op, txt op, 0)
theorem bin_facts0 : (binOps.all fun op => opK (lv op) (tokK op) == some op && (kd (lv op) == 1 || kd (lv op) == 2) && decide (1 ≤ lv op) && decide (lv op ≤ 9) && ([1, 2, 3, 4, 5, 6, 7, 8, 9].all fun q => decide (q ≤ lv op) || kd q == 0 || opK q (tokK op) == none)) = true := by kernel_rfl
theorem bin_facts {op : Int} (h : op ∈ binOps) : opK (lv op) (tokK op) = some op ∧ (kd (lv op) = 1 ∨ kd (lv op) = 2) ∧ 1 ≤ lv op ∧ lv op ≤ 9 ∧ ∀ q, lv op < q → q ≤ 9 → kd q ≠ 0 → opK q (tokK op) = none := by
  have := List.all_eq_true.1 bin_facts0 op h
  simp only [Bool.and_eq_true, Bool.or_eq_true, beq_iff_eq, decide_eq_true_eq] at this
  obtain ⟨⟨⟨⟨h1, h2⟩, h3⟩, h4⟩, h5⟩ := this
  refine ⟨h1, h2, h3, h4, fun q hq hq9 hk => ?_⟩
  have hm : q ∈ [1, 2, 3, 4, 5, 6, 7, 8, 9] := by
    have : q = 1 ∨ q = 2 ∨ q = 3 ∨ q = 4 ∨ q = 5 ∨ q = 6 ∨ q = 7 ∨ q = 8 ∨ q = 9 := by omega
    simpa using this
  have := List.all_eq_true.1 h5 q hm
  simp only [Bool.or_eq_true, beq_iff_eq, decide_eq_true_eq] at this
  rcases this with (h | h) | h
  · omega
  · exact absurd h hk
  · exact h
theorem pre_facts0 : (preOps.all fun op => opK (lv op) (tokK op) == some op && kd (lv op) == 0 && (lv op == 6 || lv op == 10 && opK 6 (tokK op) == none)) = true := by kernel_rfl
theorem pre_facts {op : Int} (h : op ∈ preOps) : opK (lv op) (tokK op) = some op ∧ kd (lv op) = 0 ∧ (lv op = 6 ∨ lv op = 10 ∧ opK 6 (tokK op) = none) := by
  have := List.all_eq_true.1 pre_facts0 op h
  simp only [Bool.and_eq_true, Bool.or_eq_true, beq_iff_eq] at this
  exact ⟨this.1.1, this.1.2, this.2⟩
theorem all_ops : ∀ s, s ≤ 11 → ∀ k : Lx.Tk, k = (3, [41], 0) ∨ k = (3, [40], 0) → opK s k = none := by
  intro s hs k hk
  have : s = 0 ∨ s = 1 ∨ s = 2 ∨ s = 3 ∨ s = 4 ∨ s = 5 ∨ s = 6 ∨ s = 7 ∨ s = 8 ∨ s = 9 ∨ s = 10 ∨ s = 11 := by omega
  rcases hk with rfl | rfl <;> rcases this with rfl | rfl | rfl | rfl | rfl | rfl | rfl | rfl | rfl | rfl | rfl | rfl <;> rfl
theorem op_kind {s : Nat} {t : Tok} (h : sgn t = false) : opOf s t = none := by unfold opOf fnd; rw [h]; rfl

/-! up to a line from a stronger one -/
theorem dn_cnt : ∀ s, 1 ≤ s → s ≤ 10 → ∀ d, dn s d = d + cnt s - cnt (s + 1) := by
  intro s h1 h2 d
  have : s = 1 ∨ s = 2 ∨ s = 3 ∨ s = 4 ∨ s = 5 ∨ s = 6 ∨ s = 7 ∨ s = 8 ∨ s = 9 ∨ s = 10 := by omega
  rcases this with rfl | rfl | rfl | rfl | rfl | rfl | rfl | rfl | rfl | rfl <;> simp only [dn, cnt, counted] <;> simp <;> omega
theorem deep_cnt : ∀ s, 1 ≤ s → s ≤ 10 → ∀ d, d + cnt s ≤ 320 → deepB s d = false := by
  intro s h1 h2 d h
  have : s = 1 ∨ s = 2 ∨ s = 3 ∨ s = 4 ∨ s = 5 ∨ s = 6 ∨ s = 7 ∨ s = 8 ∨ s = 9 ∨ s = 10 := by omega
  rcases this with rfl | rfl | rfl | rfl | rfl | rfl | rfl | rfl | rfl | rfl <;> simp only [deepB, cnt, counted] at * <;> simp <;> omega
theorem kd_cases : ∀ s, 1 ≤ s → s ≤ 10 → kd s = 0 ∨ kd s = 1 ∨ kd s = 2 := by
  intro s h1 h2
  have : s = 1 ∨ s = 2 ∨ s = 3 ∨ s = 4 ∨ s = 5 ∨ s = 6 ∨ s = 7 ∨ s = 8 ∨ s = 9 ∨ s = 10 := by omega
  rcases this with rfl | rfl | rfl | rfl | rfl | rfl | rfl | rfl | rfl | rfl <;> simp [kd]
/-- behind what was read stands no sign of these lines -/
def Quiet (s q : Nat) : Out → Prop
  | .ok p => ∃ t r, p.2 = t :: r ∧ ∀ i, s ≤ i → i < q → kd i ≠ 0 → opOf i t = none
  | .error _ => True
theorem climb {names : List Str} {f : Tok} {ts : List Tok} {r : Out} : ∀ (k s : Nat) (d : Int), s + k ≤ 11 → 1 ≤ s → (∀ q, s ≤ q → q < s + k → kd q = 0 → opOf q f = none) → Quiet s (s + k) r → d + cnt s ≤ 320 →
    P names (line (s + k)) (d + cnt s - cnt (s + k)) (f :: ts) r → P names (line s) d (f :: ts) r := by
  intro k
  induction k with
  | zero => intro s d _ _ _ _ _ h; rw [Nat.add_zero, show d + cnt s - cnt s = d by omega] at h; exact h
  | succ k ih =>
    intro s d hs h1 hf hq hd h
    have e1 := dn_cnt s h1 (by omega) d
    have e2 := deep_cnt s h1 (by omega) d hd
    have hP : P names (line (s + 1)) (dn s d) (f :: ts) r := by
      refine ih (s + 1) (dn s d) (by omega) (by omega) (fun q hq1 hq2 => hf q (by omega) (by omega)) ?_ (by omega) ?_
      · cases r with
        | error e => trivial
        | ok p =>
          obtain ⟨t, r', h2, h3⟩ := hq
          exact ⟨t, r', h2, fun i hi1 hi2 => h3 i (by omega) (by omega)⟩
      · rw [show s + 1 + k = s + (k + 1) by omega, show dn s d + cnt (s + 1) - cnt (s + (k + 1)) = d + cnt s - cnt (s + (k + 1)) by omega]
        exact h
    rcases kd_cases s h1 (by omega) with hk | hk | hk
    · exact .other hk e2 (hf s (Nat.le_refl _) (by omega) hk) hP
    · cases r with
      | error e => exact .rErr hk e2 hP
      | ok p =>
        obtain ⟨t, r', h2, h3⟩ := hq
        obtain ⟨a, p2⟩ := p
        simp only at h2
        subst h2
        exact .rOne hk e2 hP (h3 s (Nat.le_refl _) (by omega) (by omega))
    · have hdn : dn s d = d := by
        have : counted s = false := by
          have : s = 3 ∨ s = 4 ∨ s = 8 ∨ s = 9 := by
            have : s = 1 ∨ s = 2 ∨ s = 3 ∨ s = 4 ∨ s = 5 ∨ s = 6 ∨ s = 7 ∨ s = 8 ∨ s = 9 ∨ s = 10 := by omega
            rcases this with rfl | rfl | rfl | rfl | rfl | rfl | rfl | rfl | rfl | rfl <;> simp [kd] at hk <;> simp
          rcases this with rfl | rfl | rfl | rfl <;> rfl
        unfold dn; rw [this]; rfl
      rw [hdn] at hP
      cases r with
      | error e => exact .lErr hk hP
      | ok p =>
        obtain ⟨t, r', h2, h3⟩ := hq
        obtain ⟨a, p2⟩ := p
        simp only at h2
        subst h2
        exact .lGo hk hP (.lpEnd (h3 s (Nat.le_refl _) (by omega) (by omega)))

/-! the first name -/
def fnm (u : List Tok) : Option Int := (u.find? name_).map (fun t => t.2.2.2)
theorem fnm_app (a b : List Tok) : fnm (a ++ b) = (fnm a).or (fnm b) := by
  unfold fnm
  rw [List.find?_append]
  cases a.find? name_ <;> rfl
theorem fnm_cons {t : Tok} (h : name_ t = false) (u : List Tok) : fnm (t :: u) = fnm u := by
  unfold fnm; rw [List.find?_cons, h]
def fnm3 (u : List Tok) : Option (Int × Int) := (fnm u).map (fun p => (3, p))
def Exp (b : Bool) (u : List Tok) : Option (Int × Int) := bif b then none else fnm3 u
theorem exp_app (b : Bool) (x y : List Tok) : Exp b (x ++ y) = (Exp b x).or (Exp b y) := by
  cases b
  · show fnm3 (x ++ y) = (fnm3 x).or (fnm3 y)
    unfold fnm3
    rw [fnm_app]
    cases fnm x <;> rfl
  · rfl
theorem exp_cons {b : Bool} {t : Tok} (h : name_ t = false) (u : List Tok) : Exp b (t :: u) = Exp b u := by
  cases b
  · show fnm3 (t :: u) = fnm3 u
    unfold fnm3
    rw [fnm_cons h]
  · rfl
def Ok3 (E : Option (Int × Int)) (e : Ex) (rest : List Tok) (res : Out) : Prop :=
  match E with
  | none => ∃ x, res = .ok (x, rest) ∧ same x e = true
  | some p => res = .error p
theorem name_op {op : Int} (h : op ∈ binOps ∨ op ∈ preOps) {t : Tok} (ht : Lx.strip t = tokK op) : name_ t = false := by
  have : name_ t = name_ ((tokK op).1, (tokK op).2.1, 0, 0) := by
    rw [← ht]; rfl
  rw [this]
  have h1 : (binOps.all fun op => !name_ ((tokK op).1, (tokK op).2.1, 0, 0)) = true := by kernel_rfl
  have h2 : (preOps.all fun op => !name_ ((tokK op).1, (tokK op).2.1, 0, 0)) = true := by kernel_rfl
  rcases h with h | h
  · have := List.all_eq_true.1 h1 op h; simpa using this
  · have := List.all_eq_true.1 h2 op h; simpa using this
theorem name_kind {t : Tok} (h : t.1 ≠ 1) : name_ t = false := by
  unfold name_
  rw [beq_eq_false_iff_ne.2 h]; rfl

/-- the first token of a shown tree is no sign of one part -/
theorem first_tok (names : List Str) (hn : ∀ i : Nat, i < 3 → key (names.getD i []) = false) : ∀ (N : Nat) (e : Ex), e.sz ≤ N → mayE 3 e = true → ∃ h r, Lx.tk names e = h :: r ∧ opK 6 h = none ∧ opK 10 h = none := by
  intro N
  cases N with
  | zero => intro e h; have := sz_pos e; omega
  | succ N =>
    intro e h hm
    obtain ⟨⟨o1, o2⟩, hw, h1, h2, h3⟩ := may_facts hm
    rw [Lx.tk_eq]
    cases c1 : (e.op == 1)
    · cases c2 : (e.op == 2)
      · simp only [cond_false]
        match hl : e.l with
        | [] =>
          simp only [Lx.tkL]
          rcases Lx.want_zero hm c1 c2 hl with h | h <;> rw [h] <;> exact ⟨_, _, rfl, rfl, rfl⟩
        | [x] => exact ⟨_, _, rfl, rfl, rfl⟩
        | x :: y :: t => exact ⟨_, _, rfl, rfl, rfl⟩
      · simp only [cond_false, cond_true]
        have hb := h2 (beq_iff_eq.1 c2)
        have hk := hn e.n.toNat (by omega)
        have hs : sgn (1, names.getD e.n.toNat [], 0, 0) = false := by
          unfold sgn
          show ((1 : Int) == 3 || ((1 : Int) == 1 && key (names.getD e.n.toNat []))) = false
          rw [hk]; rfl
        exact ⟨_, _, rfl, op_kind hs, op_kind hs⟩
    · exact ⟨_, _, rfl, rfl, rfl⟩

theorem map_cons {u : List Tok} {a : Lx.Tk} {b : List Lx.Tk} (h : u.map Lx.strip = a :: b) : ∃ t r, u = t :: r ∧ Lx.strip t = a ∧ r.map Lx.strip = b := by
  cases u with
  | nil => cases h
  | cons t r => simp only [List.map_cons, List.cons.injEq] at h; exact ⟨t, r, rfl, h.1, h.2⟩
theorem map_app {u : List Tok} {a b : List Lx.Tk} (h : u.map Lx.strip = a ++ b) : ∃ x y, u = x ++ y ∧ x.map Lx.strip = a ∧ y.map Lx.strip = b := by
  obtain ⟨x, y, h1, h2, h3⟩ := List.map_eq_append_iff.1 h
  exact ⟨x, y, h1, h2, h3⟩
theorem may_n {e : Ex} (hm : mayE 3 e = true) (h : 2 < e.op) : e.n = 0 := by
  rw [mayE_eq] at hm
  simp only [mayH, Bool.and_eq_true, Bool.not_eq_true', Bool.or_eq_false_iff, decide_eq_false_iff_not, bne_eq_false_iff_eq, Bool.and_eq_false_imp, beq_iff_eq, decide_eq_true_eq] at hm
  obtain ⟨⟨⟨_, _⟩, ⟨_, _⟩, h6⟩, _⟩ := hm
  exact h6 h
theorem may_one {e x : Ex} (hm : mayE 3 e = true) (_h1 : (e.op == 1) = false) (_h2 : (e.op == 2) = false) (hl : e.l = [x]) : e.op ∈ preOps := by
  obtain ⟨⟨o1, o2⟩, hw, _⟩ := may_facts hm
  rw [hl] at hw
  unfold wantOf at hw
  cases c1 : (e.op == 1 || e.op == 2 || e.op == 13 || e.op == 14)
  · rw [c1] at hw
    cases c2 : (e.op == 6 || e.op == 15 || e.op == 20 || e.op == 21 || e.op == 22)
    · rw [c2] at hw; cases hw
    · simp only [Bool.or_eq_true, beq_iff_eq] at c2
      simp only [preOps, List.mem_cons, List.not_mem_nil, or_false]; omega
  · rw [c1] at hw; cases hw
theorem may_two {e x y : Ex} {r : List Ex} (hm : mayE 3 e = true) (_h1 : (e.op == 1) = false) (_h2 : (e.op == 2) = false) (hl : e.l = x :: y :: r) : e.op ∈ binOps ∧ r = [] := by
  obtain ⟨⟨o1, o2⟩, hw, _⟩ := may_facts hm
  rw [hl] at hw
  unfold wantOf at hw
  cases c1 : (e.op == 1 || e.op == 2 || e.op == 13 || e.op == 14)
  · rw [c1] at hw
    cases c2 : (e.op == 6 || e.op == 15 || e.op == 20 || e.op == 21 || e.op == 22)
    · rw [c2] at hw
      simp only [Bool.or_eq_false_iff, beq_eq_false_iff_ne] at c1 c2
      refine ⟨?_, ?_⟩
      · simp only [binOps, List.mem_cons, List.not_mem_nil, or_false]; omega
      · simp only [List.length_cons, cond_false] at hw
        exact List.eq_nil_of_length_eq_zero (by omega)
    · rw [c2] at hw; simp only [List.length_cons, cond_false, cond_true] at hw; omega
  · rw [c1] at hw; simp only [List.length_cons, cond_true] at hw; omega
end Pa
end Go.Proofs.YtmeombbmhpcacaaDoor
