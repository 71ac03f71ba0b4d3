/-
  The plain law of ExprBack, and of ExprNames: what is shown is read again; a name that isn't there is told where it stands. (own)
-/
import Derived.Test.YtmeombbmhpcacaaDoorExprBack2
namespace Go.Proofs.YtmeombbmhpcacaaDoor
namespace Pa
open Job

mutual
theorem same_sz : ∀ (x e : Ex), same x e = true → x.sz = e.sz ∧ (ty x).1 = (ty e).1 ∧ (ty x).2.1 = (ty e).2.1
  | .mk o n a l, e, h => by
    rw [same_mk] at h
    simp only [Bool.and_eq_true, beq_iff_eq] at h
    obtain ⟨⟨ho, _⟩, hl⟩ := h
    obtain ⟨h1, h2⟩ := sameL_sz l e.l hl
    refine ⟨by rw [Ex.sz_l e, Ex.sz, h1], ?_⟩
    rw [ty_eq e]
    show (tyA o a l true true true).1 = _ ∧ (tyA o a l true true true).2.1 = _
    rw [ho]
    exact h2 e.op a e.at_ true true true
theorem sameL_sz : ∀ (l m : List Ex), sameL l m = true → szL l = szL m ∧ ∀ op a a' i b t, (tyA op a l i b t).1 = (tyA op a' m i b t).1 ∧ (tyA op a l i b t).2.1 = (tyA op a' m i b t).2.1
  | [], [], _ => by
    refine ⟨rfl, fun op a a' i b t => ?_⟩
    simp only [tyA, tyFin]
    generalize (decide (op ≤ 6) && i) = c1
    generalize (decide (6 < op) && decide (op ≤ 12) && i || op == 13 || op == 14 || decide (15 ≤ op) && decide (op ≤ 19) && b) = c2
    generalize (decide (15 ≤ op) && t) = c3
    cases c1 <;> cases c2 <;> cases c3 <;> exact ⟨rfl, rfl⟩
  | x :: l, y :: m, h => by
    simp only [sameL, Bool.and_eq_true] at h
    obtain ⟨h1, h2, h3⟩ := same_sz x y h.1
    obtain ⟨h4, h5⟩ := sameL_sz l m h.2
    refine ⟨by simp only [szL, h1, h4], fun op a a' i b t => ?_⟩
    simp only [tyA, h2, h3]
    cases ((ty y).2.1 != 0)
    · exact h5 op a a' _ _ _
    · exact ⟨rfl, rfl⟩
  | [], _ :: _, h => by simp only [sameL] at h; cases h
  | _ :: _, [], h => by simp only [sameL] at h; cases h
end

theorem tk_len (names : List Str) : ∀ (N : Nat) (e : Ex), e.sz ≤ N → (Lx.tk names e).length ≤ 4 * e.sz := by
  intro N
  induction N with
  | zero => intro e h; have := sz_pos e; omega
  | succ N ih =>
    intro e h
    have hp := sz_pos e
    have hs := Ex.sz_l e
    rw [Lx.tk_eq]
    cases (e.op == 1)
    · cases (e.op == 2)
      · simp only [cond_false]
        match hl : e.l with
        | [] => simp only [Lx.tkL, List.length_cons, List.length_nil]; omega
        | [x] =>
          have hx : x ∈ e.l := by rw [hl]; simp
          have := ih x (by have := sz_lt hx; omega)
          rw [hl] at hs
          simp only [szL] at hs
          simp only [Lx.tkL, Lx.tkR, List.length_append, List.length_cons, List.length_nil]
          omega
        | x :: y :: r =>
          have hx : x ∈ e.l := by rw [hl]; simp
          have hy : y ∈ e.l := by rw [hl]; simp
          have := ih x (by have := sz_lt hx; omega)
          have := ih y (by have := sz_lt hy; omega)
          rw [hl] at hs
          simp only [szL] at hs
          simp only [Lx.tkL, Lx.tkR, List.length_append, List.length_cons, List.length_nil]
          omega
      · simp only [cond_false, cond_true, List.length_cons, List.length_nil]; omega
    · simp only [cond_true, List.length_cons, List.length_nil]; omega

theorem places : ∀ (f a : Nat) (s : Str) (l : List Tok), Lx.lexS f a s = .ok l → ∀ t ∈ l, 0 ≤ t.2.2.2 := by
  intro f
  induction f with
  | zero => intro a s l h t ht; simp only [Lx.lexS] at h; cases h; cases ht
  | succ f ih =>
    intro a s l h t ht
    cases s with
    | nil =>
      simp only [Lx.lexS] at h; cases h
      rcases List.mem_cons.1 ht with rfl | ht
      · exact Int.natCast_nonneg _
      · cases ht
    | cons c s =>
      simp only [Lx.lexS] at h
      cases hs : Lx.step (c :: s) with
      | skip k => rw [hs] at h; exact ih _ _ _ h t ht
      | err e => rw [hs] at h; cases h
      | tok k tx n =>
        rw [hs] at h
        simp only at h
        cases hr : Lx.lexS f (a + tx.length) ((c :: s).drop tx.length) with
        | error e => rw [hr] at h; cases h
        | ok l' =>
          rw [hr] at h
          cases h
          rcases List.mem_cons.1 ht with rfl | ht
          · exact Int.natCast_nonneg _
          · exact ih _ _ _ hr t ht

/-- the document's tokens of what is shown, and their places -/
theorem toks {names : List Str} (hn : Lx.NamesGood names) {e : Ex} (hm : mayE 3 e = true) (hs : e.sz ≤ 299) : ∃ l, scrutinyref12_Tokens (sh names e) = some (l, 0, 0) ∧ l.map Lx.strip = Lx.tk names e ++ [(4, [], 0)] ∧ l.length ≤ 1200 ∧ ∀ t ∈ l, 0 ≤ t.2.2.2 := by
  have h1 := sh_len hn.ok e.sz e (Nat.le_refl _) hm
  obtain ⟨l, h2, h3⟩ := Lx.shown_toks hn hm (by omega)
  refine ⟨l, h2, h3, ?_, ?_⟩
  · have := congrArg List.length h3
    rw [List.length_map, List.length_append, List.length_cons, List.length_nil] at this
    have := tk_len names e.sz e (Nat.le_refl _)
    omega
  · rw [Lx.refTokens_eq, Lx.tokens_lex (by omega)] at h2
    have h2 := Option.some.inj h2
    unfold Lx.lex at h2
    cases hx : Lx.lexS ((sh names e).length + 1) 0 (sh names e) with
    | error er =>
      rw [hx] at h2
      have : l = [] := (congrArg (fun p : List Tok × Int × Int => p.1) h2).symm
      subst this; intro t ht; cases ht
    | ok l' =>
      rw [hx] at h2
      have : l' = l := congrArg (fun p : List Tok × Int × Int => p.1) h2
      subst this
      exact places _ _ _ _ hx
theorem ends_last {u : List Tok} {t : Tok} (h : t.1 = 4) : Ends (u ++ [t]) := by
  induction u with
  | nil => exact .inr ⟨rfl, h⟩
  | cons a u ih => exact .inl ih

theorem reads_of {names nm : List Str} {b : Bool} (h1 : names.length = 3) (h2 : names.all Lx.nameB = true) (h3 : (b = true ∧ ([0, 1, 2].all fun i => at_ nm (names.getD i []) == some i) = true) ∨ (b = false ∧ nm = [])) : Reads names nm b where
  good := ⟨h1, h2⟩
  keys i hi := by
    have hlt : i < names.length := by omega
    have hg : names.getD i [] ∈ names := by
      rw [show names.getD i [] = names[i] by simp [List.getD, List.getElem?_eq_getElem hlt]]
      exact List.getElem_mem hlt
    have := List.all_eq_true.1 h2 _ hg
    simp only [Lx.nameB, Bool.and_eq_true, Bool.not_eq_true'] at this
    exact this.2
  some_ hb i hi := by
    rcases h3 with ⟨_, h⟩ | ⟨h, _⟩
    · have := List.all_eq_true.1 h i (by have : i = 0 ∨ i = 1 ∨ i = 2 := by omega
                                         rcases this with rfl | rfl | rfl <;> simp)
      simpa using this
    · rw [hb] at h; cases h
  none_ hb := by
    rcases h3 with ⟨h, _⟩ | ⟨_, h⟩
    · rw [hb] at h; cases h
    · exact h

/-- what comes of reading what is shown -/
theorem parse_shown {names nm : List Str} {b : Bool} (hn : Reads names nm b) (hnm : nm.length < 4611686018427387904) {e : Ex} (hm : mayE 3 e = true) (hh : ht e ≤ 44) {l : List Tok} (hl : l.map Lx.strip = Lx.tk names e ++ [(4, [], 0)]) (hlen : l.length ≤ 1200) :
    ∃ r, expr_Parse l 0 nm = some r ∧ match Exp b l with | none => r.2 = ((l.length : Int) - 1, 0, 0) ∧ same r.1 e = true | some p => r.2.2 = p := by
  obtain ⟨r, u, t, rfl, t4, hr, hp⟩ := back_all hn hm hh hl
  have hE : Exp b (u ++ [t]) = Exp b u := by
    rw [exp_app, exp_cons (name_kind (t := t) (by rw [t4]; decide))]
    cases Exp b u <;> cases b <;> rfl
  rw [hE]
  obtain ⟨r', hp', hq⟩ := Parse_eq (names := nm) (l := u ++ [t]) (a := 0) hnm (by omega) (ends_last t4)
  obtain rfl := hp.det hp'
  refine ⟨_, hq, ?_⟩
  cases hx : Exp b u with
  | none =>
    rw [hx] at hr
    obtain ⟨x, rfl, hs⟩ := hr
    refine ⟨?_, hs⟩
    simp only [told, List.length_append, List.length_cons, List.length_nil]
    congr 1; omega
  | some p =>
    rw [hx] at hr
    obtain rfl : r = .error p := hr
    rfl

theorem back_true (e : Ex) (h : e.sz < 1152921504606846) : scrutinylaw13_ExprBack e = some true := by
  obtain ⟨few, hf⟩ := Few_some e (by omega)
  unfold scrutinylaw13_ExprBack
  rw [shown_true, bind_s, hf, bind_s]
  simp only [letv_e, May_eq e (by omega)]
  cases few
  · rfl
  · cases hm : mayE 3 e
    · rfl
    · obtain ⟨hh, hsz⟩ := few_facts (by omega) hf
      have hn : Reads [[97], [98], [99]] [[97], [98], [99]] true := reads_of rfl (by decide) (.inl ⟨rfl, by decide⟩)
      obtain ⟨l, h1, h2, h3, h4⟩ := toks hn.good hm hsz
      obtain ⟨r, h5, h6⟩ := parse_shown hn (by decide) hm hh h2 h3
      obtain ⟨x, a, f, p⟩ := r
      simp only [Exp, cond_true, Prod.mk.injEq] at h6
      obtain ⟨⟨rfl, rfl, rfl⟩, hs⟩ := h6
      obtain ⟨s1, s2, s3⟩ := same_sz x e hs
      have hlz : ((List.length l : Int) == 0) = false := by
        have := congrArg List.length h2
        rw [List.length_map, List.length_append, List.length_cons, List.length_nil] at this
        simp only [beq_eq_false_iff_ne]; omega
      have hw : IntKind.i64.wrap ((List.length l : Int) - 1) = (List.length l : Int) - 1 := w64 (by omega)
      have hnames : scrutinylaw13_names = some [[97], [98], [99]] := rfl
      simp only [Bool.not_true, Bool.not_false, callG_tt, bind_s, Bool.or_false, cond_false, hnames, Show_eq hn.good.ok e h hm, h1, hlz, h5, Type_eq e (by omega), Type_eq x (by omega), hw, BEq.rfl, Bool.and_self, RSame_eq x e (by omega), hs, s2, s3, show ((0 : Int) != 0) = false from rfl]

def endL (e : Ex) (r5 : Bool) (r29 : List Tok × Int × Int) (r41 r53 : Ex × Int × Int × Int) (f : Int) : Option Bool := scrutinylaw13_ExprNames_L1 e r5 r29 r41 r53 (fun _ => none) (f, (r29.1.length : Int))
def firstOf (f : Int) (o : Option Int) : Int := if f < 0 then (match o with | some p => p | none => f) else f
theorem first_loop {e : Ex} {r5 : Bool} {r29 : List Tok × Int × Int} {r41 r53 : Ex × Int × Int × Int} (hl : r29.1.length < 4611686018427387904) (hp : ∀ t ∈ r29.1, 0 ≤ t.2.2.2) : ∀ (r pre : List Tok), r29.1 = pre ++ r → ∀ (M : Nat) (f : Int), r.length < M →
    fixN (scrutinylaw13_ExprNames_L1 e r5 r29 r41 r53) M (f, (pre.length : Int)) = endL e r5 r29 r41 r53 (firstOf f (fnm r))
  | [], pre, h, M, f, hM => by
    obtain ⟨m, rfl⟩ : ∃ m, M = m + 1 := ⟨M - 1, by simp at hM; omega⟩
    have : firstOf f (fnm []) = f := by
      show (if f < 0 then f else f) = f
      split <;> rfl
    rw [this, fixN_succ]
    have hd : decide ((pre.length : Int) < (List.length r29.1 : Int)) = false := by rw [h]; simp
    have hd' : decide ((List.length r29.1 : Int) < (List.length r29.1 : Int)) = false := by simp
    simp only [endL, scrutinylaw13_ExprNames_L1, hd, hd', cond_false]
  | t :: r, pre, h, M, f, hM => by
    obtain ⟨m, rfl⟩ : ∃ m, M = m + 1 := ⟨M - 1, by omega⟩
    have hlen : pre.length < 4611686018427387904 := by rw [h] at hl; simp at hl; omega
    have ih := fun f => first_loop (e := e) (r5 := r5) (r41 := r41) (r53 := r53) hl hp r (pre ++ [t]) (by rw [h]; simp) m f (by simp at hM; omega)
    rw [show ((pre ++ [t]).length : Int) = ((pre.length + 1 : Nat) : Int) by simp] at ih
    have hi : idx r29.1 (pre.length : Int) = some t := by rw [h]; simp [idx]
    have hd : decide ((pre.length : Int) < (List.length r29.1 : Int)) = true := by rw [h]; simp; omega
    have ht0 := hp t (by rw [h]; simp)
    rw [fixN_succ]
    simp only [scrutinylaw13_ExprNames_L1, hd, cond_true, hi, bind_s, letv_e, RKey_eq, next_ix hlen]
    have hgo : ∀ (F : Bool → Option Bool), (callG (t.1 == 1) (0, [], 0, 0) (some t) fun e70 => callG (t.1 == 1) default (some (keysL.contains e70.2.1)) fun r72 => F ((t.1 == 1) && !r72)) = F (name_ t) := by
      intro F
      unfold name_ key
      cases (t.1 == 1)
      · rfl
      · rfl
    rw [hgo (fun b => bif (b && decide (f < 0)) then _ else _)]
    cases hnm : name_ t
    · simp only [Bool.false_and, cond_false]
      rw [ih f, fnm_cons hnm]
    · have hfn : fnm (t :: r) = some t.2.2.2 := by unfold fnm; rw [List.find?_cons, hnm]; rfl
      rw [hfn]
      cases hf0 : decide (f < 0)
      · simp only [Bool.and_false, cond_false]
        simp only [decide_eq_false_iff_not] at hf0
        rw [ih f]; unfold firstOf; rw [if_neg hf0, if_neg hf0]
      · simp only [Bool.and_self, cond_true]
        simp only [decide_eq_true_eq] at hf0
        rw [ih t.2.2.2]; unfold firstOf; rw [if_pos hf0, if_neg (by omega)]

theorem names_true (e : Ex) (h : e.sz < 1152921504606846) : scrutinylaw13_ExprNames e = some true := by
  obtain ⟨few, hf⟩ := Few_some e (by omega)
  unfold scrutinylaw13_ExprNames
  rw [shown_true, bind_s, hf, bind_s]
  simp only [letv_e, May_eq e (by omega)]
  cases few
  · rfl
  · cases hm : mayE 3 e
    · rfl
    · obtain ⟨hh, hsz⟩ := few_facts (by omega) hf
      have hn : Reads [[108, 111, 110, 103, 95, 110, 97, 109, 101], [81], [95]] [[108, 111, 110, 103, 95, 110, 97, 109, 101], [81], [95]] true := reads_of rfl (by decide) (.inl ⟨rfl, by decide⟩)
      have hn' : Reads [[108, 111, 110, 103, 95, 110, 97, 109, 101], [81], [95]] [] false := reads_of rfl (by decide) (.inr ⟨rfl, rfl⟩)
      obtain ⟨l, h1, h2, h3, h4⟩ := toks hn.good hm hsz
      obtain ⟨r, h5, h6⟩ := parse_shown hn (by decide) hm hh h2 h3
      obtain ⟨r', h5', h6'⟩ := parse_shown hn' (by decide) hm hh h2 h3
      obtain ⟨x, a, f, p⟩ := r
      simp only [Exp, cond_true, Prod.mk.injEq] at h6
      obtain ⟨⟨rfl, rfl, rfl⟩, hs⟩ := h6
      obtain ⟨s1, s2, s3⟩ := same_sz x e hs
      have hlz : ((List.length l : Int) == 0) = false := by
        have := congrArg List.length h2
        rw [List.length_map, List.length_append, List.length_cons, List.length_nil] at this
        simp only [beq_eq_false_iff_ne]; omega
      have hcut : cutL ([[108, 111, 110, 103, 95, 110, 97, 109, 101], [81], [95]] : List Str) 0 0 = [] := rfl
      have hcutB : cutB 0 0 (List.length ([[108, 111, 110, 103, 95, 110, 97, 109, 101], [81], [95]] : List Str)) = true := rfl
      simp only [Bool.not_true, Bool.not_false, callG_tt, bind_s, Bool.or_false, cond_false, Show_eq hn.good.ok e h hm, h1, hlz, h5, hcut, hcutB, chk, cond_true, h5', show ((0 : Int) != 0) = false from rfl]
      refine Eq.trans (first_loop (e := e) (r5 := true) (r29 := (l, 0, 0)) (r41 := (x, ((List.length l : Int) - 1, 0, 0))) (r53 := r') (by show l.length < _; omega) h4 l [] rfl FUEL (-1) (by show l.length < 2 ^ 64; omega)) ?_
      have hlt : decide ((List.length l : Int) < (List.length l : Int)) = false := by simp
      simp only [endL, firstOf, scrutinylaw13_ExprNames_L1, hlt, cond_false, letv_e, BEq.rfl, Bool.and_self, callG_tt, RSame_eq x e (by omega), hs, bind_s, if_pos (show (-1 : Int) < 0 by omega)]
      have hx : Exp false l = (fnm l).map (fun p => (3, p)) := rfl
      rw [hx] at h6'
      obtain ⟨x', a', f', p'⟩ := r'
      cases hfn : fnm l with
      | none =>
        rw [hfn] at h6'
        simp only [Option.map_none, Prod.mk.injEq] at h6'
        obtain ⟨⟨rfl, rfl, rfl⟩, _⟩ := h6'
        rfl
      | some p =>
        rw [hfn] at h6'
        simp only [Option.map_some, Prod.mk.injEq] at h6'
        obtain ⟨rfl, rfl⟩ := h6'
        have hp0 : 0 ≤ p' := by
          unfold fnm at hfn
          cases hfi : l.find? name_ with
          | none => rw [hfi] at hfn; cases hfn
          | some t =>
            rw [hfi] at hfn
            have := h4 t (List.mem_of_find?_eq_some hfi)
            have ht : t.2.2.2 = p' := Option.some.inj hfn
            omega
        have : decide (0 ≤ p') = true := decide_eq_true hp0
        simp only [this, BEq.rfl, Bool.and_self, Bool.or_true]
end Pa
end Go.Proofs.YtmeombbmhpcacaaDoor
