/-
  The plain law of ExprBrackets. (own)
-/
import Derived.Test.YtmeombbmhpcacaaDoorExprBrk2
namespace Go.Proofs.YtmeombbmhpcacaaDoor
namespace Pa
open Job

def abc : List Str := [[97], [98], [99]]
theorem sharp_loop (a b : Str) (k : Int) (hl : a.length + b.length < 4611686018427387904) : ∀ (r pre : Str), a ++ b = pre ++ r → ∀ (M : Nat), r.length < M →
    fixN (scrutinylaw13_ExprBrackets_L1 a b k true) M (pre.length : Int) = some true ∨ ((∀ c ∈ r, c ≠ 35) ∧ fixN (scrutinylaw13_ExprBrackets_L1 a b k true) M (pre.length : Int) = scrutinylaw13_ExprBrackets_L1 a b k true (fun _ => none) ((a.length + b.length : Nat) : Int))
  | [], pre, h, M, hM => by
    obtain ⟨m, rfl⟩ : ∃ m, M = m + 1 := ⟨M - 1, by simp at hM; omega⟩
    refine .inr ⟨by simp, ?_⟩
    have hp : pre.length = a.length + b.length := by have := congrArg List.length h; simp at this; omega
    have hw : IntKind.i64.wrap ((List.length a : Int) + (List.length b : Int)) = ((a.length + b.length : Nat) : Int) := by rw [w64 (by omega)]; omega
    rw [fixN_succ, hp]
    have hd : decide (((a.length + b.length : Nat) : Int) < ((a.length + b.length : Nat) : Int)) = false := by simp
    unfold scrutinylaw13_ExprBrackets_L1
    rw [hw, hd]
    rfl
  | x :: r, pre, h, M, hM => by
    obtain ⟨m, rfl⟩ : ∃ m, M = m + 1 := ⟨M - 1, by omega⟩
    have hp : pre.length + r.length + 1 = a.length + b.length := by have := congrArg List.length h; simp at this; omega
    have hw : IntKind.i64.wrap ((List.length a : Int) + (List.length b : Int)) = ((a.length + b.length : Nat) : Int) := by rw [w64 (by omega)]; omega
    have ih := sharp_loop a b k hl r (pre ++ [x]) (by rw [h]; simp) m (by simp at hM; omega)
    rw [show ((pre ++ [x]).length : Int) = ((pre.length + 1 : Nat) : Int) by simp] at ih
    have hd : decide ((pre.length : Int) < ((a.length + b.length : Nat) : Int)) = true := by simp; omega
    have hin : inB (pre.length : Int) (List.length (a ++ b)) = true := Lx.inB_true (by omega) (by rw [List.length_append]; omega)
    have hat : byteAt (a ++ b) (pre.length : Int) = (x.toNat : Int) := by
      rw [Lx.byteAt_nat _ _ (by rw [List.length_append]; omega)]
      simp only [h]
      rw [List.getElem_append_right (Nat.le_refl _)]
      simp
    have hnext : IntKind.i64.wrap ((pre.length : Int) + 1) = ((pre.length + 1 : Nat) : Int) := next_ix (by omega)
    rw [fixN_succ]
    have hcat : catB a b = true := catB_le (by omega)
    have hstep : ∀ ag, scrutinylaw13_ExprBrackets_L1 a b k true ag (pre.length : Int) = bif (x.toNat : Int) == 35 then some true else ag ((pre.length + 1 : Nat) : Int) := by
      intro ag
      unfold scrutinylaw13_ExprBrackets_L1
      rw [hw, hd, hcat, hin, hat, hnext]
      rfl
    rw [hstep]
    cases hx : ((x.toNat : Int) == 35)
    · rcases ih with h1 | ⟨h1, h2⟩
      · exact .inl h1
      · refine .inr ⟨fun c hc => ?_, h2⟩
        rcases List.mem_cons.1 hc with rfl | hc
        · intro h35
          subst h35
          cases hx
        · exact h1 c hc
    · exact .inl rfl

/-- what a text is parsed as -/
theorem parsed_eq {s : Str} (hs : s.length ≤ 65536) {l : List Tok} (hl : Lx.lex s = .ok l) (he : Ends l) (hlen : l.length < 4611686018427387904) : ∃ r, P abc (line 1) 0 l r ∧ scrutinylaw13_parsed s = some (told l r) := by
  obtain ⟨r, hp, hq⟩ := Parse_eq (names := abc) (l := l) (a := 0) (by decide) hlen he
  refine ⟨r, hp, ?_⟩
  obtain ⟨t, r1, rfl⟩ := he.ne
  have hz : ((List.length (t :: r1) : Int) == 0) = false := by simp only [beq_eq_false_iff_ne, List.length_cons]; omega
  have hq : expr_Parse (t :: r1) 0 abc = some (told (t :: r1) r) := hq
  unfold scrutinylaw13_parsed
  rw [Lx.refTokens_eq, Lx.tokens_lex hs, hl]
  simp only [Lx.res, bind_s, hz, cond_false, show scrutinylaw13_names = some abc from rfl, hq]
theorem lex_ends {s : Str} (hc : ∀ c ∈ s, c ≠ 35) {l : List Tok} (hl : Lx.lex s = .ok l) : ∃ u e, l = u ++ [e] ∧ e.1 = 4 := by
  obtain ⟨u, e, h1, h2, _⟩ := Lx.lexes_front (b := 41) (r := []) (k := [(3, [41], 0), (4, [], 0)]) (.inr rfl) (Lx.lexes_close Lx.lexes_nil) s.length s (Nat.le_refl _) hc l hl
  exact ⟨u, e, h1, h2⟩
theorem lex_len : ∀ (f at_ : Nat) (s : Str) (l : List Tok), Lx.lexS f at_ s = .ok l → l.length ≤ f := by
  intro f
  induction f with
  | zero => intro a s l h; simp only [Lx.lexS] at h; cases h; simp
  | succ f ih =>
    intro a s l h
    cases s with
    | nil => simp only [Lx.lexS] at h; cases h; simp
    | cons c s =>
      simp only [Lx.lexS] at h
      cases hs : Lx.step (c :: s) with
      | skip k => rw [hs] at h; have := ih _ _ _ h; omega
      | err e => rw [hs] at h; cases h
      | tok k tx n =>
        rw [hs] at h
        simp only at h
        cases hr : Lx.lexS f (a + tx.length) ((c :: s).drop tx.length) with
        | error e => rw [hr] at h; cases h
        | ok l' =>
          rw [hr] at h
          cases h
          have := ih _ _ _ hr
          simp only [List.length_cons]; omega

theorem op_none_kind {t : Tok} (h : t.1 ≠ 1 ∧ t.1 ≠ 3) (s : Nat) : opOf s t = none := by
  refine op_kind ?_
  unfold sgn
  rw [beq_eq_false_iff_ne.2 h.1, beq_eq_false_iff_ne.2 h.2]; rfl
theorem closed {c : Tok} (hc : Lx.strip c = (3, [41], 0)) : ∀ i, opOf i c = none := by
  intro i
  by_cases hi : i ≤ 11
  · exact close_op hc i hi
  · have : ops i = [] := by unfold ops; split <;> first | omega | rfl
    unfold opOf fnd
    rw [this]; cases sgn c <;> rfl
theorem opened {o : Tok} (ho : Lx.strip o = (3, [40], 0)) : ∀ i, i ≤ 11 → opOf i o = none := fun i hi => by rw [op_strip, ho]; exact all_ops i hi _ (.inr rfl)

/-- a text's tokens in brackets, at a depth: the same tree, or too deep -/
theorem in_brackets {u : List Tok} {e : Tok} (he : e.1 = 4) {x : Ex} {e0 : Tok} (h : P abc (line 1) 0 (u ++ [e]) (.ok (x, [e0]))) {o c : Tok} {u' : List Tok} (ho : Lx.strip o = (3, [40], 0)) (hc : Lx.strip c = (3, [41], 0)) (hu : u'.map Lx.strip = u.map Lx.strip) (rest : List Tok) (d : Int) (hd : 0 ≤ d) :
    ∃ r, P abc (line 11) d (o :: (u' ++ c :: rest)) r ∧ ((∃ p, Ok3 (some (9, p)) x rest r) ∨ Ok3 none x rest r) := by
  obtain ⟨r, hp, hm⟩ := h.more (c := c) (rest := rest) (closed hc) x [e0] rfl d (u' ++ c :: rest) (line 1) hd ⟨u, u', e, rfl, he, rfl, hu⟩ rfl
  rcases hm with ⟨p, rfl⟩ | ⟨x', ts1, rfl, hs, hR⟩
  · obtain ⟨r', h1, h2⟩ := brackets (nm := abc) (ts := u' ++ c :: rest) (rest := rest) (E := some (9, p)) (e := x) ho hc rfl
    exact ⟨r', h2 d hp, .inl ⟨p, h1⟩⟩
  · have : ts1 = c :: rest := by
      rcases hR.cons with ⟨_, _, h⟩ | ⟨_, _, _, _, h⟩
      · exact h
      · obtain ⟨v, v', e', hv, _⟩ := h
        cases v <;> cases hv
    subst this
    obtain ⟨r', h1, h2⟩ := brackets (nm := abc) (ts := u' ++ c :: rest) (rest := rest) (E := none) (e := x) ho hc ⟨x', rfl, hs⟩
    exact ⟨r', h2 d hp, .inr h1⟩

theorem ten (k : Int) (h : 0 ≤ k ∧ k ≤ 255) : ∃ o : Int, o ∈ ([19, 18, 17, 16, 23, 24, 7, 9, 3, 5] : List Int) ∧ idx ([[60, 45, 62], [45, 62], [124], [38], [85], [82], [61, 61], [60], [43], [42]] : List Str) (Int.tmod (IntKind.i64.wrap k) 10) = some (txt o) ∧ idx ([19, 18, 17, 16, 23, 24, 7, 9, 3, 5] : List Int) (Int.tmod (IntKind.i64.wrap k) 10) = some o := by
  rw [w64 (by omega), Int.tmod_eq_emod_of_nonneg (by omega)]
  have : k % 10 = 0 ∨ k % 10 = 1 ∨ k % 10 = 2 ∨ k % 10 = 3 ∨ k % 10 = 4 ∨ k % 10 = 5 ∨ k % 10 = 6 ∨ k % 10 = 7 ∨ k % 10 = 8 ∨ k % 10 = 9 := by omega
  rcases this with h | h | h | h | h | h | h | h | h | h <;> rw [h] <;> exact ⟨_, by decide, rfl, rfl⟩
theorem ten_bin : ∀ o : Int, o ∈ ([19, 18, 17, 16, 23, 24, 7, 9, 3, 5] : List Int) → o ∈ binOps := by decide

/-- the two texts that are made, and what is read of them -/
theorem z_eq {a : Str} (hc : ∀ c ∈ a, c ≠ 35) (ha : a.length ≤ 200) {u : List Tok} {e : Tok} (hl : Lx.lex a = .ok (u ++ [e])) (he : e.1 = 4) {x : Ex} {e0 : Tok} (h : P abc (line 1) 0 (u ++ [e]) (.ok (x, [e0]))) :
    ∃ r : Ex × Int × Int × Int, scrutinylaw13_parsed (([40, 32] ++ a) ++ [32, 41]) = some r ∧ (r.2.2.1 = 9 ∨ (r.2.2.1 = 0 ∧ same r.1 x = true)) := by
  obtain ⟨v, e', h1, _, h2⟩ := Lx.lexes_front (b := 32) (r := [41]) (.inl rfl) (Lx.lexes_blank (Lx.lexes_close Lx.lexes_nil)) a.length a (Nat.le_refl _) hc _ hl
  obtain ⟨rfl, _⟩ : u = v ∧ [e] = [e'] := List.append_inj' h1 rfl
  obtain ⟨l, h3, h4⟩ := Lx.lexes_open (Lx.lexes_blank h2)
  have hs : ([40, 32] ++ a) ++ [32, 41] = 40 :: 32 :: (a ++ 32 :: [41]) := by simp
  rw [hs]
  obtain ⟨o, l1, rfl, ho, h5⟩ := map_cons h4
  obtain ⟨u', l2, rfl, hu, h6⟩ := map_app h5
  obtain ⟨c, l3, rfl, hcl, h7⟩ := map_cons h6
  obtain ⟨t, l4, rfl, ht, h8⟩ := map_cons h7
  obtain rfl : l4 = [] := by simpa using h8
  have t1 : t.1 = 4 := congrArg (fun k : Lx.Tk => k.1) ht
  have hE : Ends (o :: (u' ++ c :: [t])) := by
    have := ends_last (u := o :: (u' ++ [c])) (t := t) t1
    simpa using this
  have hll : (o :: (u' ++ c :: [t])).length < 4611686018427387904 := by
    have := lex_len _ _ _ _ h3
    simp only [List.length_cons, List.length_append, List.length_nil] at this ⊢; omega
  obtain ⟨r, hr1, hr2⟩ := parsed_eq (s := 40 :: 32 :: (a ++ 32 :: [41])) (by simp; omega) h3 hE hll
  obtain ⟨r', hp, hok⟩ := in_brackets he h ho hcl hu [t] 5 (by omega)
  have hq : Quiet 1 (1 + 10) r' := by
    rcases hok with ⟨p, h⟩ | h
    · exact h.quiet (fun i _ _ _ => op_none_kind (by omega) i)
    · exact h.quiet (fun i _ _ _ => op_none_kind (by omega) i)
  have hp1 : P abc (line 1) 0 (o :: (u' ++ c :: [t])) r' := climb 10 1 0 (by omega) (Nat.le_refl _) (fun q _ hq2 _ => opened ho q (by omega)) hq (by simp only [cnt]; omega) hp
  obtain rfl := hp1.det hr1
  refine ⟨_, hr2, ?_⟩
  rcases hok with ⟨p, h⟩ | h
  · obtain rfl : r' = .error (9, p) := h
    exact .inl rfl
  · obtain ⟨x', rfl, hs⟩ := h
    exact .inr ⟨rfl, hs⟩

theorem w_eq {a b : Str} (hca : ∀ c ∈ a, c ≠ 35) (hcb : ∀ c ∈ b, c ≠ 35) (ha : a.length ≤ 200) (hb : b.length ≤ 200) {u v : List Tok} {e e' : Tok} (hla : Lx.lex a = .ok (u ++ [e])) (hlb : Lx.lex b = .ok (v ++ [e'])) (he : e.1 = 4) (he' : e'.1 = 4) {x y : Ex} {e0 e0' : Tok}
    (hx : P abc (line 1) 0 (u ++ [e]) (.ok (x, [e0]))) (hy : P abc (line 1) 0 (v ++ [e']) (.ok (y, [e0']))) {op : Int} (hop : op ∈ ([19, 18, 17, 16, 23, 24, 7, 9, 3, 5] : List Int)) :
    ∃ r : Ex × Int × Int × Int, scrutinylaw13_parsed (((((([40] ++ a) ++ [41]) ++ txt op) ++ [40]) ++ b) ++ [41]) = some r ∧ (r.2.2.1 = 9 ∨ (r.2.2.1 = 0 ∧ same r.1 (.mk op 0 0 [x, y]) = true)) := by
  have hob := ten_bin op hop
  obtain ⟨v1, e1, h1, _, h2⟩ := Lx.lexes_front (b := 41) (r := []) (.inr rfl) (Lx.lexes_close Lx.lexes_nil) b.length b (Nat.le_refl _) hcb _ hlb
  obtain ⟨rfl, _⟩ : v = v1 ∧ [e'] = [e1] := List.append_inj' h1 rfl
  have h3 := Lx.lexes_close (Lx.lexes_open_op hop (Lx.lexes_open h2))
  obtain ⟨u1, e2, h4, _, h5⟩ := Lx.lexes_front (b := 41) (.inr rfl) h3 a.length a (Nat.le_refl _) hca _ hla
  obtain ⟨rfl, _⟩ : u = u1 ∧ [e] = [e2] := List.append_inj' h4 rfl
  obtain ⟨l, h6, h7⟩ := Lx.lexes_open h5
  have hs : (((((([40] ++ a) ++ [41]) ++ txt op) ++ [40]) ++ b) ++ [41]) = 40 :: (a ++ 41 :: (txt op ++ 40 :: (b ++ 41 :: []))) := by simp
  rw [hs]
  obtain ⟨o, l1, rfl, ho, h8⟩ := map_cons h7
  obtain ⟨u', l2, rfl, hu, h9⟩ := map_app h8
  obtain ⟨c, l3, rfl, hcl, h10⟩ := map_cons h9
  obtain ⟨k, l4, rfl, hk, h11⟩ := map_cons h10
  obtain ⟨o2, l5, rfl, ho2, h12⟩ := map_cons h11
  obtain ⟨v', l6, rfl, hv, h13⟩ := map_app h12
  obtain ⟨c2, l7, rfl, hcl2, h14⟩ := map_cons h13
  obtain ⟨t, l8, rfl, ht, h15⟩ := map_cons h14
  obtain rfl : l8 = [] := by simpa using h15
  have t1 : t.1 = 4 := congrArg (fun k : Lx.Tk => k.1) ht
  have hE : Ends (o :: (u' ++ c :: k :: o2 :: (v' ++ c2 :: [t]))) := by
    have := ends_last (u := o :: (u' ++ c :: k :: o2 :: (v' ++ [c2]))) (t := t) t1
    simpa using this
  have hll : (o :: (u' ++ c :: k :: o2 :: (v' ++ c2 :: [t]))).length < 4611686018427387904 := by
    have := lex_len _ _ _ _ h6
    have htl := txt_len op
    simp only [List.length_cons, List.length_append, List.length_nil] at this ⊢; omega
  obtain ⟨r, hr1, hr2⟩ := parsed_eq (s := 40 :: (a ++ 41 :: (txt op ++ 40 :: (b ++ 41 :: [])))) (by have htl := txt_len op; simp; omega) h6 hE hll
  obtain ⟨d', d1, d2, hline⟩ := line_two (nm := abc) (f := o) (u := u' ++ c :: k :: o2 :: (v' ++ c2 :: [t])) (v := v' ++ c2 :: [t]) (rest := []) (c := t) hob hk (fun i _ => op_none_kind (by omega) i) (opened ho 6 (by omega)) (opened ho 10 (by omega)) (opened ho2 6 (by omega)) (opened ho2 10 (by omega)) 0 (by omega)
  obtain ⟨rx, hpx, hokx⟩ := in_brackets he hx ho hcl hu (k :: o2 :: (v' ++ c2 :: [t])) 5 (by omega)
  obtain ⟨ry, hpy, hoky⟩ := in_brackets he' hy ho2 hcl2 hv [t] d' d1
  have key : ∀ {Ex_ Ey : Option (Int × Int)}, Ok3 Ex_ x (k :: o2 :: (v' ++ c2 :: [t])) rx → Ok3 Ey y [t] ry → (∀ p, Ex_.or Ey = some p → p.1 = 9) → ∃ r : Ex × Int × Int × Int, scrutinylaw13_parsed (40 :: (a ++ 41 :: (txt op ++ 40 :: (b ++ 41 :: [])))) = some r ∧ (r.2.2.1 = 9 ∨ (r.2.2.1 = 0 ∧ same r.1 (.mk op 0 0 [x, y]) = true)) := by
    intro Ex_ Ey h1 h2 h9
    have hp1 := hline h1 h2 hpx hpy
    have hok := ok_two (op := op) (e := .mk op 0 0 [x, y]) ⟨rfl, rfl, rfl⟩ h1 h2
    obtain rfl := hp1.det hr1
    refine ⟨_, hr2, ?_⟩
    cases hE : Ex_.or Ey with
    | some p =>
      rw [hE] at hok
      have h3 : two2 op k.2.2.2 rx ry = .error p := hok
      rw [h3]
      exact .inl (h9 p hE)
    | none =>
      rw [hE] at hok
      obtain ⟨z, h3, hs⟩ := hok
      rw [h3]
      exact .inr ⟨rfl, hs⟩
  rcases hokx with ⟨p, h⟩ | h <;> rcases hoky with ⟨q, h'⟩ | h' <;> refine key h h' ?_ <;> intro z hz <;> simp at hz <;> subst hz <;> rfl

theorem brackets_true (a b : Str) (k : Int) (ha0 : a.length ≤ 9223372036854775807) (hb0 : b.length ≤ 9223372036854775807) (hk : 0 ≤ k ∧ k ≤ 255) : scrutinylaw13_ExprBrackets a b k = some true := by
  unfold scrutinylaw13_ExprBrackets
  rw [shown_true, bind_s]
  simp only [letv_e]
  cases h200 : (decide (200 < (List.length a : Int)) || decide (200 < (List.length b : Int)))
  case true => rfl
  simp only [Bool.or_eq_false_iff, decide_eq_false_iff_not] at h200
  have ha : a.length ≤ 200 := by omega
  have hb : b.length ≤ 200 := by omega
  rw [cond_false]
  rcases sharp_loop a b k (by omega) (a ++ b) [] rfl FUEL (by rw [List.length_append]; show _ < 2 ^ 64; omega) with h | ⟨hc, h⟩
  · exact h
  refine Eq.trans h ?_
  have hca : ∀ c ∈ a, c ≠ 35 := fun c h => hc c (List.mem_append_left _ h)
  have hcb : ∀ c ∈ b, c ≠ 35 := fun c h => hc c (List.mem_append_right _ h)
  have hw : IntKind.i64.wrap ((List.length a : Int) + (List.length b : Int)) = ((a.length + b.length : Nat) : Int) := by rw [w64 (by omega)]; omega
  have hd : decide (((a.length + b.length : Nat) : Int) < ((a.length + b.length : Nat) : Int)) = false := by simp
  unfold scrutinylaw13_ExprBrackets_L1
  rw [hw, hd, cond_false]
  obtain ⟨o, ho, ho1, ho2⟩ := ten k hk
  have htx := txt_len o
  have hta := Lx.refTokens_eq a
  have htb := Lx.refTokens_eq b
  rw [Lx.tokens_lex (by omega)] at hta htb
  have perr : ∀ s : Str, s.length ≤ 200 → ∀ e, Lx.lex s = .error e → scrutinylaw13_parsed s = some (.mk 0 0 0 [], 0, 2, 0) := by
    intro s hs e he
    unfold scrutinylaw13_parsed
    rw [Lx.refTokens_eq, Lx.tokens_lex (by omega), he]
    rfl
  have some_ : ∀ s : Str, s.length ≤ 200 → (∀ c ∈ s, c ≠ 35) → ∃ r, scrutinylaw13_parsed s = some r ∧ (r.2.2.1 = 0 → ∃ u e x rest, Lx.lex s = .ok (u ++ [e]) ∧ e.1 = 4 ∧ P abc (line 1) 0 (u ++ [e]) (.ok (x, rest)) ∧ Ends rest ∧ r = (x, (((u ++ [e]).length - rest.length : Nat) : Int), 0, 0) ∧ rest.length ≤ (u ++ [e]).length ∧ x.sz ≤ 201 ∧ u.length ≤ 200) := by
    intro s hs hcs
    cases hl : Lx.lex s with
    | error e => exact ⟨_, perr s hs e hl, fun h => by cases h⟩
    | ok l =>
      obtain ⟨u, e, rfl, he⟩ := lex_ends hcs hl
      have hlen := lex_len _ _ _ _ hl
      obtain ⟨r, hp, hq⟩ := parsed_eq (by omega) hl (ends_last he) (by omega)
      refine ⟨_, hq, fun h0 => ?_⟩
      cases r with
      | error er => have := hp.err er rfl; simp only [told] at h0; omega
      | ok p =>
        obtain ⟨x, rest⟩ := p
        obtain ⟨i1, i2⟩ := hp.ends (ends_last he) _ rfl
        have hsz := hp.sz _ _ rfl
        simp only [shorter] at i2
        refine ⟨u, e, x, rest, rfl, he, hp, i1, rfl, by omega, ?_, ?_⟩
        · simp only at hsz; omega
        · simp only [List.length_append, List.length_cons, List.length_nil] at hlen; omega
  obtain ⟨ra, hra, hra'⟩ := some_ a ha hca
  obtain ⟨rb, hrb, hrb'⟩ := some_ b hb hcb
  simp only [hra, hrb, hta, htb, bind_s, letv_e]
  by_cases h0 : ra.2.2.1 = 0
  case neg =>
    have : (ra.2.2.1 != 0) = true := by simpa using h0
    simp only [this, Bool.or_true, Bool.true_or, Bool.not_true, callG_ff, cond_true]
  by_cases h0' : rb.2.2.1 = 0
  case neg =>
    have : (rb.2.2.1 != 0) = true := by simpa using h0'
    simp only [this, Bool.or_true, Bool.true_or, Bool.not_true, callG_ff, cond_true]
  obtain ⟨u, e, x, rest, hla, he, hpx, her, rfl, hrl, hsx, hul⟩ := hra' h0
  obtain ⟨v, e', y, rest', hlb, he', hpy, her', rfl, hrl', hsy, hvl⟩ := hrb' h0'
  have wu : IntKind.i64.wrap ((List.length (u ++ [e]) : Int) - 1) = (List.length (u ++ [e]) : Int) - 1 := w64 (by simp only [List.length_append, List.length_cons, List.length_nil]; omega)
  have wv : IntKind.i64.wrap ((List.length (v ++ [e']) : Int) - 1) = (List.length (v ++ [e']) : Int) - 1 := w64 (by simp only [List.length_append, List.length_cons, List.length_nil]; omega)
  simp only [hla, hlb, Lx.res, wu, wv, show ((0 : Int) != 0) = false from rfl, Bool.or_false, Bool.false_or]
  cases c1 : ((((u ++ [e]).length - rest.length : Nat) : Int) != (List.length (u ++ [e]) : Int) - 1)
  case true => simp only [Bool.true_or, Bool.not_true, callG_ff, cond_true]
  cases c2 : ((((v ++ [e']).length - rest'.length : Nat) : Int) != (List.length (v ++ [e']) : Int) - 1)
  case true => simp only [Bool.or_true, Bool.true_or, Bool.not_true, callG_ff, cond_true]
  obtain ⟨dx, hdx, _⟩ := Deep_val x (by omega) (most := 50) (by omega) (by omega)
  obtain ⟨dy, hdy, _⟩ := Deep_val y (by omega) (most := 50) (by omega) (by omega)
  simp only [Bool.or_false, Bool.false_or, Bool.not_false, callG_tt, hdx, hdy, bind_s]
  cases decide (45 ≤ dx)
  case true => simp only [Bool.true_or, Bool.not_true, callG_ff, cond_true]
  simp only [Bool.false_or, Bool.not_false, callG_tt, bind_s]
  cases decide (45 ≤ dy)
  case true => simp only [Bool.true_or, cond_true]
  cases decide (60 < (List.length (u ++ [e]) : Int))
  case true => simp only [Bool.or_true, Bool.true_or, cond_true]
  cases decide (60 < (List.length (v ++ [e']) : Int))
  case true => simp only [Bool.or_true, cond_true]
  have one : ∀ {w : List Tok} {f : Tok} {rs : List Tok}, Ends rs → rs.length ≤ (w ++ [f]).length → ((((w ++ [f]).length - rs.length : Nat) : Int) != (List.length (w ++ [f]) : Int) - 1) = false → ∃ t, rs = [t] := by
    intro w f rs h1 h2 h3
    obtain ⟨t, r1, rfl⟩ := h1.ne
    simp only [bne_eq_false_iff_eq, List.length_cons] at h2 h3
    have : r1.length = 0 := by omega
    exact ⟨t, by rw [List.eq_nil_of_length_eq_zero this]⟩
  obtain ⟨t, rfl⟩ := one her hrl c1
  obtain ⟨t', rfl⟩ := one her' hrl' c2
  obtain ⟨z, hz1, hz2⟩ := z_eq hca ha hla he hpx
  obtain ⟨w, hw1, hw2⟩ := w_eq hca hcb ha hb hla hlb he he' hpx hpy ho
  have ct : ∀ {m l : Str}, m.length + l.length ≤ 100000 → catB m l = true := fun h => catB_le (by omega)
  simp only [chk, ho1, bind_s, hz1, hw1, ho2]
  repeat rw [ct (by simp only [List.length_append, List.length_cons, List.length_nil]; omega)]
  simp only [cond_true]
  rcases hz2 with hz2 | ⟨hz2, hz3⟩
  · simp only [hz2, BEq.rfl, Bool.true_or, cond_true]; rfl
  rcases hw2 with hw2 | ⟨hw2, hw3⟩
  · simp only [hw2, BEq.rfl, Bool.or_true, cond_true]; rfl
  have sz1 := (same_sz _ _ hz3).1
  have sz2 := (same_sz _ _ hw3).1
  simp only [Ex.sz, szL] at sz2
  simp only [hz2, hw2, show ((0 : Int) == 9) = false from rfl, Bool.or_false, cond_false, BEq.rfl, Bool.and_self, callG_tt, RSame_eq z.1 x (by omega), bind_s, hz3, RSame_eq w.1 (.mk o 0 0 [x, y]) (by omega), hw3]
end Pa
end Go.Proofs.YtmeombbmhpcacaaDoor
