/-
  Own pure proofs: LexBlanks and LexPlaces answer true.
-/
import Derived.Test.YtiambejbilkgmaaLexLaws1
namespace Go.Proofs.Ytiambejbilkgmaa
namespace Lx

/-! blanks -/
def core (x : Tok) : Int × Str × Int := (x.1, x.2.1, x.2.2.1)
theorem Alike_core (a b : List Tok) (h : a.map core = b.map core) (hl : a.length < 9223372036854775807) : scrutinyref12_Alike a b = some true := by
  have hlen : a.length = b.length := by simpa using congrArg List.length h
  unfold scrutinyref12_Alike
  rw [hlen, show ((b.length : Int) != (b.length : Int)) = false from by simp, cond_false]
  refine fixN_up (N := FUEL) (fun k => (k : Int)) a.length (some true) ?_ ?_ 0 (by omega) (by rw [FUEL_val]; omega)
  · intro again k hk
    unfold scrutinyref12_Alike_L1
    have hc : core a[k] = core (b[k]'(by omega)) := by
      have h1 : (a.map core)[k]'(by simpa using hk) = (b.map core)[k]'(by simp; omega) := by simp only [h]
      simpa using h1
    simp only [core, Prod.mk.injEq] at hc
    rw [dec_t (by omega), cond_true, idx_lt hk, some_bind', idx_lt (by omega), some_bind']
    simp only [letv_eq, hc.1, hc.2.1, hc.2.2, bne_self_eq_false, Bool.not_false, callG_true', some_bind', Bool.or_self, cond_false]
    rw [w64 (by omega)]; rfl
  · intro again
    unfold scrutinyref12_Alike_L1
    rw [dec_f (by omega), cond_false]

def gaps : List Str := [[32], [9], [10], [13], [32, 35, 32, 97, 32, 60, 45, 62, 32, 98, 10], [35, 10]]
theorem lex_gap {g : Str} (hg : g ∈ gaps) (r : Str) : lex (g ++ r) = shE g.length (lex r) := by
  have hb : ∀ b r, isBlank b = true → lex (b :: r) = shE 1 (lex r) := by
    intro b r h
    rw [lex_skip (show step (b :: r) = .skip 1 from by simp [step, h])]; rfl
  have h1 : g = [32] ∨ g = [9] ∨ g = [10] ∨ g = [13] ∨ g = [32, 35, 32, 97, 32, 60, 45, 62, 32, 98, 10] ∨ g = [35, 10] := by simpa [gaps] using hg
  rcases h1 with rfl | rfl | rfl | rfl | rfl | rfl
  · exact hb _ _ (by decide)
  · exact hb _ _ (by decide)
  · exact hb _ _ (by decide)
  · exact hb _ _ (by decide)
  · have e : ([32, 35, 32, 97, 32, 60, 45, 62, 32, 98, 10] : Str) ++ r = 32 :: (35 :: (([32, 97, 32, 60, 45, 62, 32, 98] : Str) ++ 10 :: r)) := rfl
    rw [e, hb _ _ (by decide), lex_comment (by decide), shE_shE]; rfl
  · have e : ([35, 10] : Str) ++ r = (35 :: (([] : Str) ++ 10 :: r)) := rfl
    rw [e, lex_comment (by decide)]; rfl
theorem gap_head {g : Str} (hg : g ∈ gaps) : ∃ b g', g = b :: g' ∧ isSep b = true := by
  have : ∀ g ∈ gaps, (match g with | [] => false | b :: _ => isSep b) = true := by decide
  have := this g hg
  cases g with
  | nil => cases this
  | cons b g' => exact ⟨b, g', rfl, this⟩

/-- a token that is one by itself -/
def Whole (x : Tok) : Prop := (∃ c s, x.2.1 = c :: s ∧ (c == 35) = false) ∧ step x.2.1 = .tok x.1 x.2.1 x.2.2.1
theorem lex_whole : ∀ (s : Str) (l : List Tok), lex s = .ok l → ∀ x ∈ l.dropLast, Whole x := by
  intro s
  refine lex_ind (P := fun s => ∀ (l : List Tok), lex s = .ok l → ∀ x ∈ l.dropLast, Whole x) ?_ ?_ ?_ ?_ s
  · intro l h; rw [lex_nil] at h; cases h; simp
  · intro c s k hst ih l h x hx
    rw [lex_skip hst] at h
    cases hl : lex ((c :: s).drop k) with
    | ok l' =>
      rw [hl] at h; simp only [shE, Except.ok.injEq] at h
      subst h
      rw [← List.map_dropLast] at hx
      obtain ⟨y, hy, rfl⟩ := List.mem_map.1 hx
      exact ih l' hl y hy
    | error e => rw [hl] at h; cases h
  · intro c s e hst l h; rw [lex_err hst] at h; cases h
  · intro c s k t n hst ih l h x hx
    rw [lex_tok hst] at h
    cases hl : lex ((c :: s).drop t.length) with
    | ok l' =>
      rw [hl] at h; simp only [shE, consE, Except.ok.injEq] at h
      subst h
      have hne := lex_ok_ne _ _ hl
      rw [List.dropLast_cons_of_ne_nil (by simpa using hne)] at hx
      rcases List.mem_cons.1 hx with rfl | hx
      · obtain ⟨h1, ⟨s', h2⟩, _, _⟩ := step_self hst
        obtain ⟨_, hc, _, _⟩ := step_tok hst
        exact ⟨⟨c, s', h2, hc⟩, h1⟩
      · rw [← List.map_dropLast] at hx
        obtain ⟨y, hy, rfl⟩ := List.mem_map.1 hx
        exact ih l' hl y hy
    | error e => rw [hl] at h; cases h

def body (g : Str) : List Tok → Str
  | [] => []
  | x :: l => x.2.1 ++ g ++ body g l
theorem lex_body {g : Str} (hg : g ∈ gaps) : ∀ (l : List Tok), (∀ x ∈ l, Whole x) → ∃ l', lex (body g l) = .ok l' ∧ l'.map core = l.map core ++ [(4, [], 0)]
  | [], _ => ⟨_, lex_nil, rfl⟩
  | x :: l, h => by
    obtain ⟨l', h1, h2⟩ := lex_body hg l (fun y hy => h y (List.mem_cons_of_mem _ hy))
    obtain ⟨⟨c, s, hcs, hc⟩, hst⟩ := h x (by simp)
    obtain ⟨b, g', rfl, hb⟩ := gap_head hg
    have e : body (b :: g') (x :: l) = c :: (s ++ b :: (g' ++ body (b :: g') l)) := by
      simp [body, hcs]
    have hst2 : step (c :: (s ++ b :: (g' ++ body (b :: g') l))) = .tok x.1 x.2.1 x.2.2.1 := by
      have := step_sep (r := g' ++ body (b :: g') l) hb c s (.inl hc)
      rw [← hcs, hst] at this
      rw [← this, hcs]; rfl
    have e2 : (c :: (s ++ b :: (g' ++ body (b :: g') l))).drop x.2.1.length = (b :: g') ++ body (b :: g') l := by
      rw [hcs, ← List.cons_append, List.drop_left]; rfl
    rw [e, lex_tok hst2, e2, lex_gap hg, h1]
    refine ⟨_, rfl, ?_⟩
    simp only [List.map_cons, List.map_map, List.cons_append]
    have e3 : core ∘ (shT x.2.1.length ∘ shT (b :: g').length) = core := rfl
    rw [e3, h2]; rfl
theorem body_append (g : Str) : ∀ (l : List Tok) (x : Tok), body g (l ++ [x]) = body g l ++ x.2.1 ++ g
  | [], x => by simp [body]
  | y :: l, x => by simp [body, body_append g l x]
/-- tokens' texts together are no longer than the text -/
def texts : List Tok → Nat
  | [] => 0
  | x :: l => x.2.1.length + texts l
theorem texts_map (k : Nat) : ∀ l : List Tok, texts (l.map (shT k)) = texts l
  | [] => rfl
  | x :: l => by simp only [List.map_cons, texts, texts_map k l]; rfl
theorem lex_texts : ∀ (s : Str) (l : List Tok), lex s = .ok l → texts l ≤ s.length := by
  intro s
  refine lex_ind (P := fun s => ∀ (l : List Tok), lex s = .ok l → texts l ≤ s.length) ?_ ?_ ?_ ?_ s
  · intro l h; rw [lex_nil] at h; cases h; simp [texts]
  · intro c s k hst ih l h
    rw [lex_skip hst] at h
    cases hl : lex ((c :: s).drop k) with
    | ok l' =>
      rw [hl] at h; simp only [shE, Except.ok.injEq] at h
      subst h
      have := ih l' hl
      rw [texts_map]; simp only [List.length_drop] at this; omega
    | error e => rw [hl] at h; cases h
  · intro c s e hst l h; rw [lex_err hst] at h; cases h
  · intro c s k t n hst ih l h
    rw [lex_tok hst] at h
    obtain ⟨_, _, h1, h2⟩ := step_tok hst
    have hk2 := h2.length_le
    cases hl : lex ((c :: s).drop t.length) with
    | ok l' =>
      rw [hl] at h; simp only [shE, consE, Except.ok.injEq] at h
      subst h
      have := ih l' hl
      simp only [texts, texts_map]; simp only [List.length_drop] at this; omega
    | error e => rw [hl] at h; cases h
theorem body_len {g : Str} (hg : g ∈ gaps) : ∀ l : List Tok, (body g l).length ≤ texts l + 11 * l.length
  | [] => by simp [body, texts]
  | x :: l => by
    have hgl : ∀ g ∈ gaps, g.length ≤ 11 := by decide
    have := body_len hg l
    have := hgl g hg
    simp only [body, texts, List.length_append, List.length_cons]; omega
theorem texts_take (k : Nat) : ∀ l : List Tok, texts (l.take k) ≤ texts l := by
  intro l
  induction l generalizing k with
  | nil => simp [texts]
  | cons x l ih =>
    cases k with
    | zero => simp [texts]
    | succ k => simp only [List.take_succ_cons, texts]; have := ih k; omega

theorem gap_idx (n : Nat) : ∃ g, idx gaps (Int.tmod (n : Int) 6) = some g ∧ g ∈ gaps := by
  have h : Int.tmod (n : Int) 6 = ((n % 6 : Nat) : Int) := rfl
  have h6 : n % 6 < gaps.length := Nat.mod_lt _ (by decide)
  rw [h, idx_lt h6]
  exact ⟨_, rfl, List.getElem_mem _⟩

theorem LexBlanks_true (text : Str) (gap : Int) (_ : text.length ≤ 9223372036854775807) (hgap : 0 ≤ gap ∧ gap ≤ 255) : scrutinylaw12_LexBlanks text gap = some true := by
  unfold scrutinylaw12_LexBlanks
  rw [shown_true, some_bind']
  by_cases ht : 2000 < text.length
  · rw [dec_t (by omega), cond_true]
  rw [dec_f (by omega), cond_false, Tokens_lex (by omega), some_bind']
  cases hl : lex text with
  | error e =>
    obtain ⟨e, p⟩ := e
    have h1 := lex_err_at _ _ _ hl
    have he : (e != 0) = true := by rcases h1.2.2 with h | h <;> subst h <;> rfl
    simp [res, he, letv]
  | ok l =>
    have h1 := lex_len hl
    simp only [res, bne_self_eq_false, cond_false]
    have h2 : ¬ ((l.length : Int) < 1) := by omega
    simp only [h2, decide_false, cond_false]
    obtain ⟨m, hm⟩ : ∃ m : Nat, gap = (m : Int) := ⟨gap.toNat, by omega⟩
    obtain ⟨g, hg1, hg⟩ := gap_idx m
    show (idx gaps (Int.tmod gap 6)).bind _ = _
    rw [hm, hg1, some_bind']
    have hlast := lex_last _ _ hl
    have hw := lex_whole _ _ hl
    have htx := lex_texts _ _ hl
    have hgl : ∀ g ∈ gaps, g.length ≤ 11 := by decide
    have hgl := hgl g hg
    have hbl : ∀ k, k ≤ l.length → (body g (l.take k)).length ≤ 2000 + 11 * k := by
      intro k hk
      have := body_len hg (l.take k)
      have := texts_take k l
      simp only [List.length_take, Nat.min_eq_left hk] at *
      omega
    have hdl : l.dropLast = l.take (l.length - 1) := List.dropLast_eq_take
    refine fixN_up (N := FUEL) (fun k => (body g (l.take k), (k : Int))) (l.length - 1) (some true) ?_ ?_ 0 (by omega) (by rw [FUEL_val]; omega)
    · intro again k hk
      unfold scrutinylaw12_LexBlanks_L1
      simp only []
      have hb := hbl k (by omega)
      have hb2 := hbl (k + 1) (by omega)
      have e : body g (l.take (k + 1)) = (body g (l.take k) ++ l[k].2.1) ++ g := by
        rw [List.take_succ_eq_append_getElem (by omega), body_append]
      have hx : (body g (l.take k)).length + l[k].2.1.length + g.length ≤ 2000 + 11 * (k + 1) := by
        rw [e] at hb2; simp only [List.length_append] at hb2; omega
      rw [w64 (by omega), dec_t (by omega), cond_true, idx_lt (show k < l.length by omega), some_bind', catB_true (by omega), chk_true, catB_true (by simp; omega), chk_true, e]
      rw [w64 (by omega)]; rfl
    · intro again
      unfold scrutinylaw12_LexBlanks_L1
      simp only []
      have hb := hbl (l.length - 1) (by omega)
      rw [w64 (by omega), dec_f (by omega), cond_false, catB_true (by omega), chk_true, Tokens_lex (by simp; omega), some_bind']
      rw [lex_gap hg]
      obtain ⟨l', h3, h4⟩ := lex_body hg (l.take (l.length - 1)) (by rw [← hdl]; exact hw)
      rw [h3]
      simp only [shE, res, letv_eq, beq_self_eq_true, Bool.and_self, callG_true']
      rw [Alike_core _ _ ?_ (by omega)]
      · rfl
      · simp only [List.map_map]
        have e3 : core ∘ shT g.length = core := rfl
        rw [e3, h4, ← hdl]
        have e5 : l = l.dropLast ++ [(4, [], 0, (text.length : Int))] := by
          have hne : l ≠ [] := by intro h; subst h; simp at h1
          have := List.dropLast_concat_getLast hne
          rw [List.getLast?_eq_some_getLast hne, Option.some.injEq] at hlast
          rw [hlast] at this
          exact this.symm
        conv => lhs; rw [e5]
        simp [core]

/-! places -/
def scan : Bool → Str → Option Bool
  | cm, [] => some cm
  | cm, c :: s => if ((cm || c == 35) && c != 10) || isBlank c then scan ((cm || c == 35) && c != 10) s else none
theorem scan_append : ∀ (cm : Bool) (s t : Str), scan cm (s ++ t) = (scan cm s).bind fun c => scan c t
  | _, [], _ => rfl
  | cm, c :: s, t => by
    simp only [List.cons_append, scan]
    split
    · exact scan_append _ s t
    · rfl
theorem scan_comment : ∀ (s : Str), s.all notLf = true → scan true s = some true
  | [], _ => rfl
  | c :: s, h => by
    simp only [List.all_cons, Bool.and_eq_true] at h
    have : (c != 10) = true := h.1
    simp only [scan, Bool.true_or, this, Bool.and_self, if_true]
    exact scan_comment s h.2

theorem Places_gap {text : Str} {i30 : Int} {again32 : (Int × Int) → Option Bool} {e34 : Tok} (hl : text.length ≤ 2000) :
    ∀ (N : Nat) (gap : Str) (k : Nat) (cm cm' : Bool), gap.length < N → text.drop k = gap ++ text.drop (k + gap.length) → k + gap.length ≤ text.length → e34.2.2.2 = ((k + gap.length : Nat) : Int) → scan cm gap = some cm' →
    fixN (scrutinylaw12_LexPlaces_L2 text i30 again32 e34) N (cm, (k : Int)) = again32 ((IntKind.i64.wrap (e34.2.2.2 + (List.length e34.2.1 : Int))), (IntKind.i64.wrap (i30 + 1))) := by
  intro N
  induction N with
  | zero => intro gap k cm cm' h; omega
  | succ N ih =>
    intro gap k cm cm' hN hd hle he hs
    rw [fixN_succ]
    generalize fixN (scrutinylaw12_LexPlaces_L2 text i30 again32 e34) N = again at ih ⊢
    unfold scrutinylaw12_LexPlaces_L2
    dsimp only
    cases gap with
    | nil => rw [dec_f (by simp at he; omega), cond_false]
    | cons c gap =>
      simp only [List.length_cons] at *
      have hk : k < text.length := by omega
      obtain ⟨_, hget⟩ := getElem_drop0 (show text.drop k = c :: (gap ++ text.drop (k + (gap.length + 1))) from hd)
      have hb : byteAt text (k : Int) = (c.toNat : Int) := by rw [byteAt_nat _ _ hk, hget]
      rw [dec_t (by omega), cond_true, inB_true (by omega) (by omega), chk_true, hb]
      rw [show ((35 : Int) = ((35 : UInt8).toNat : Int)) from rfl, u8beq]
      have h3 : (bif (c == 35) then scrutinylaw12_LexPlaces_K3 text (k : Int) again true else scrutinylaw12_LexPlaces_K3 text (k : Int) again cm) = scrutinylaw12_LexPlaces_K3 text (k : Int) again (cm || c == 35) := by
        cases (c == 35) <;> simp
      rw [h3]
      unfold scrutinylaw12_LexPlaces_K3
      rw [inB_true (by omega) (by omega), chk_true, hb, show ((10 : Int) = ((10 : UInt8).toNat : Int)) from rfl, u8beq]
      have h4 : (bif (c == 10) then scrutinylaw12_LexPlaces_K4 text (k : Int) again false else scrutinylaw12_LexPlaces_K4 text (k : Int) again (cm || c == 35)) = scrutinylaw12_LexPlaces_K4 text (k : Int) again ((cm || c == 35) && c != 10) := by
        unfold bne
        cases (c == 10) <;> simp
      rw [h4]
      simp only [scan] at hs
      split at hs
      · rename_i hok
        unfold scrutinylaw12_LexPlaces_K4
        simp only [letv_eq]
        rw [inB_true (by omega) (by omega), hb]
        simp only [chkG_true]
        have hc : (((((!((cm || c == 35) && c != 10)) && ((c.toNat : Int) != 32)) && ((c.toNat : Int) != 9)) && ((c.toNat : Int) != 10)) && ((c.toNat : Int) != 13)) = false := by
          unfold bne
          rw [show ((32 : Int) = ((32 : UInt8).toNat : Int)) from rfl, show ((9 : Int) = ((9 : UInt8).toNat : Int)) from rfl, show ((10 : Int) = ((10 : UInt8).toNat : Int)) from rfl, show ((13 : Int) = ((13 : UInt8).toNat : Int)) from rfl, u8beq, u8beq, u8beq, u8beq]
          unfold isBlank bne at hok
          revert hok
          cases (c == 32) <;> cases (c == 9) <;> cases (c == 10) <;> cases (c == 13) <;> cases (cm || c == 35) <;> simp
        rw [hc, cond_false, w64 (by omega)]
        refine ih gap (k + 1) _ cm' (by omega) ?_ (by omega) ?_ hs
        · have e1 : text.drop (k + 1) = (text.drop k).drop 1 := by rw [List.drop_drop]
          rw [e1, hd]
          simp only [List.cons_append, List.drop_succ_cons, List.drop_zero]
          congr 2; omega
        · rw [he]; congr 1; omega
      · cases hs

theorem Places_loop (text : Str) (ls : List Tok) (hl : text.length ≤ 2000) (hls : ls.length ≤ 2001) : ∀ (s : Str) (l : List Tok), lex s = .ok l →
    ∀ (at_ e : Nat) (gap : Str) (pre : List Tok) (cm : Bool), text.drop at_ = s → at_ ≤ text.length → at_ = e + gap.length → text.drop e = gap ++ s → scan false gap = some cm → (cm = true → s = [] ∨ ∃ r, s = 10 :: r) →
      ls = pre ++ l.map (shT at_) → ∀ N, l.length < N → fixN (scrutinylaw12_LexPlaces_L1 text true (ls, 0, 0)) N ((e : Int), (pre.length : Int)) = some true := by
  intro s
  -- one round
  have round : ∀ (at_ e : Nat) (gap : Str) (pre : List Tok) (x : Tok) (l : List Tok) (cm : Bool) (N : Nat), at_ + x.2.1.length ≤ text.length → at_ = e + gap.length → text.drop e = gap ++ text.drop at_ → scan false gap = some cm →
      ls = pre ++ x :: l → x.2.2.2 = (at_ : Int) → cut text (at_ : Int) ((at_ : Int) + x.2.1.length) = x.2.1 → ((x.2.1.length : Int) == 0) = (l == []) → (x.1 == 4) = (l == []) → (x.1 ≠ 2 → x.2.2.1 = 0) →
      fixN (scrutinylaw12_LexPlaces_L1 text true (ls, 0, 0)) (N + 1) ((e : Int), (pre.length : Int)) = fixN (scrutinylaw12_LexPlaces_L1 text true (ls, 0, 0)) N (((at_ + x.2.1.length : Nat) : Int), (((pre ++ [x]).length : Nat) : Int)) := by
    intro at_ e gap pre x l cm N hat hgap hde hs hls2 hp hcut h0 h4 h2
    rw [fixN_succ]
    generalize fixN (scrutinylaw12_LexPlaces_L1 text true (ls, 0, 0)) N = again
    unfold scrutinylaw12_LexPlaces_L1
    dsimp only
    have hlen : ls.length = pre.length + (l.length + 1) := by rw [hls2]; simp
    have hi : idx ls (pre.length : Int) = some x := by
      rw [idx_lt (by omega)]; congr 1
      subst hls2
      rw [List.getElem_append_right (Nat.le_refl _)]; simp
    have hlast : ((pre.length : Int) == IntKind.i64.wrap ((ls.length : Int) - 1)) = (l == []) := by
      rw [w64 (by omega)]
      cases l with
      | nil => simp [hlen]
      | cons y l => simp [hlen]; omega
    rw [dec_t (by omega), cond_true, hi, some_bind']
    simp only [letv_eq, hp, hlast, h0, h4, bne_self_eq_false, Bool.or_false]
    rw [w64 (x := (text.length : Int) - _) (by omega), w64 (x := (at_ : Int) + _) (by omega)]
    have c1 : decide ((at_ : Int) < (e : Int)) = false := dec_f (by omega)
    have c2 : decide ((text.length : Int) - (x.2.1.length : Int) < (at_ : Int)) = false := dec_f (by omega)
    have c3 : ((x.1 != 2) && (x.2.2.1 != 0)) = false := by
      by_cases h : x.1 = 2
      · simp [h]
      · simp [h2 h]
    rw [c1, c2, c3, hcut]
    simp only [Bool.or_self, Bool.not_false, bne_self_eq_false, cond_false]
    rw [cutB_true (by omega) (by omega) (by omega)]
    simp only [chkG, cond_true]
    rw [Places_gap hl FUEL gap e false cm (by rw [FUEL_val]; have := congrArg List.length hde; simp at this; omega) (by rw [← hgap]; exact hde) (by omega) (by rw [hp, hgap]) hs, hp]
    rw [w64 (by omega), w64 (by omega)]
    congr 2
    simp
  refine lex_ind (P := fun s => ∀ (l : List Tok), lex s = .ok l → ∀ (at_ e : Nat) (gap : Str) (pre : List Tok) (cm : Bool), text.drop at_ = s → at_ ≤ text.length → at_ = e + gap.length → text.drop e = gap ++ s → scan false gap = some cm → (cm = true → s = [] ∨ ∃ r, s = 10 :: r) →
      ls = pre ++ l.map (shT at_) → ∀ N, l.length < N → fixN (scrutinylaw12_LexPlaces_L1 text true (ls, 0, 0)) N ((e : Int), (pre.length : Int)) = some true) ?_ ?_ ?_ ?_ s
  · intro l h at_ e gap pre cm hd hat hgap hde hs hcm hls2 N hN
    rw [lex_nil] at h; cases h
    obtain ⟨N, rfl⟩ : ∃ m, N = m + 2 := ⟨N - 2, by simp at hN; omega⟩
    have hend : at_ = text.length := by
      have := congrArg List.length hd
      simp at this; omega
    have hx : ls = pre ++ (4, [], 0, (at_ : Int)) :: [] := by rw [hls2]; simp [shT]
    rw [round at_ e gap pre (4, [], 0, (at_ : Int)) [] cm (N + 1) (by simp; omega) hgap (by rw [hd]; exact hde) hs hx rfl (by simp [cut]) rfl rfl (fun _ => rfl), fixN_succ]
    generalize fixN (scrutinylaw12_LexPlaces_L1 text true (ls, 0, 0)) N = again
    unfold scrutinylaw12_LexPlaces_L1
    have hlen : ls.length = pre.length + 1 := by rw [hx]; simp
    simp only [hlen, List.length_append, List.length_cons, List.length_nil, Nat.zero_add, Nat.add_zero]
    rw [dec_f (by omega), cond_false, hend]
    simp only [letv_eq, beq_self_eq_true, Bool.true_and]
    rw [dec_t (by omega)]
  · intro c s k hst ih l h at_ e gap pre cm hd hat hgap hde hs hcm hls2 N hN
    obtain ⟨hk1, hk2⟩ := step_skip hst
    rw [lex_skip hst] at h
    cases hl : lex ((c :: s).drop k) with
    | error e => rw [hl] at h; cases h
    | ok l' =>
      rw [hl] at h; simp only [shE, Except.ok.injEq] at h
      subst h
      have hdl : (c :: s).length = text.length - at_ := by rw [← hd]; simp
      have hsplit : (c :: s) = (c :: s).take k ++ (c :: s).drop k := (List.take_append_drop k _).symm
      have hscan : ∃ cm', scan false (gap ++ (c :: s).take k) = some cm' ∧ (cm' = true → (c :: s).drop k = [] ∨ ∃ r, (c :: s).drop k = 10 :: r) := by
        rw [scan_append, hs, some_bind']
        cases hb : isBlank c
        · have hc : (c == 35) = true := by
            cases hc : (c == 35)
            · simp only [step, hb, hc, Bool.false_eq_true, if_false] at hst
              repeat' (split at hst)
              all_goals (cases hst)
            · rfl
          have hc35 : c = 35 := by simpa using hc
          subst hc35
          have hcmf : cm = false := by
            cases cm
            · rfl
            · rcases hcm rfl with h | ⟨r, h⟩
              · cases h
              · simp at h
          subst hcmf
          have hk : k = (((35 : UInt8) :: s).takeWhile notLf).length := by
            simp only [step, hb, Bool.false_eq_true, if_false, beq_self_eq_true, if_true, Step.skip.injEq] at hst
            exact hst.symm
          have e1 : ((35 : UInt8) :: s).take k = 35 :: s.takeWhile notLf := by
            rw [hk, takeWhile_take, List.takeWhile_cons, if_pos (by decide)]
          rw [e1]
          refine ⟨true, ?_, fun _ => ?_⟩
          · have : scan false ((35 : UInt8) :: s.takeWhile notLf) = scan true (s.takeWhile notLf) := rfl
            rw [this, scan_comment _ (takeWhile_all _ _)]
          · rw [hk]
            generalize ((35 : UInt8) :: s) = u
            induction u with
            | nil => exact .inl rfl
            | cons d u ihu =>
              cases hd : notLf d
              · rw [List.takeWhile_cons, hd]
                right
                refine ⟨u, ?_⟩
                have : d = 10 := by simpa [notLf] using hd
                simp [this]
              · rw [List.takeWhile_cons, hd]
                simpa using ihu
        · have hk : k = 1 := by
            simp only [step, hb, if_true, Step.skip.injEq] at hst; exact hst.symm
          subst hk
          refine ⟨false, ?_, fun h => by cases h⟩
          have hf : ((cm || c == 35) && c != 10) = false := by
            cases hcmv : cm
            · have : (c == 35) = false := by
                simp only [isBlank, Bool.or_eq_true, beq_iff_eq] at hb
                rcases hb with ((rfl | rfl) | rfl) | rfl <;> decide
              rw [this]; rfl
            · rcases hcm hcmv with h | ⟨r, h⟩
              · cases h
              · simp only [List.cons.injEq] at h
                rw [h.1]; simp
          simp only [List.take_succ_cons, List.take_zero, scan, hf, hb, Bool.false_or, if_true]
      obtain ⟨cm', h1, h2⟩ := hscan
      refine ih l' hl (at_ + k) e (gap ++ (c :: s).take k) pre cm' (by rw [← hd, List.drop_drop]) (by omega) (by simp at hk2 ⊢; omega) (by rw [hde]; simp) h1 h2 ?_ N (by simpa using hN)
      rw [hls2, List.map_map]
      congr 1
      exact List.map_congr_left (fun x _ => by show shT at_ (shT k x) = _; rw [shT_shT, Nat.add_comm])
  · intro c s e' hst l h
    rw [lex_err hst] at h; cases h
  · intro c s k t n hst ih l h at_ e gap pre cm hd hat hgap hde hs hcm hls2 N hN
    obtain ⟨hb, hc, ht1, ht2⟩ := step_tok hst
    obtain ⟨_, _, hk123, hn⟩ := step_self hst
    have hk2 := ht2.length_le
    rw [lex_tok hst] at h
    cases hl : lex ((c :: s).drop t.length) with
    | error e => rw [hl] at h; cases h
    | ok l' =>
      rw [hl] at h; simp only [shE, consE, Except.ok.injEq] at h
      subst h
      have hne := lex_ok_ne _ _ hl
      have hdl : (c :: s).length = text.length - at_ := by rw [← hd]; simp
      obtain ⟨N, rfl⟩ : ∃ m, N = m + 1 := ⟨N - 1, by omega⟩
      have hx : ls = pre ++ (k, t, n, (at_ : Int)) :: (l'.map (shT t.length)).map (shT at_) := by
        rw [hls2]; simp [shT]
      have hnil : (((l'.map (shT t.length)).map (shT at_)) == []) = false := by
        cases l' with
        | nil => exact absurd rfl hne
        | cons y l' => rfl
      have hcut : cut text (at_ : Int) ((at_ : Int) + t.length) = t := by
        have e1 : (at_ : Int) + (t.length : Int) = ((at_ + t.length : Nat) : Int) := by omega
        rw [e1, at_cut hd]
        exact (List.prefix_iff_eq_take.1 ht2).symm
      rw [round at_ e gap pre (k, t, n, (at_ : Int)) _ cm N (by simp only []; omega) hgap (by rw [hd]; exact hde) hs hx rfl hcut (by rw [hnil]; show ((t.length : Int) == 0) = false; rw [beq_eq_false_iff_ne]; omega) (by rw [hnil]; rcases hk123 with h | h | h <;> subst h <;> rfl) hn]
      refine ih l' hl (at_ + t.length) (at_ + t.length) [] (pre ++ [(k, t, n, (at_ : Int))]) false (by rw [← hd, List.drop_drop]) (by omega) (by simp) (by rw [← hd, List.drop_drop]; rfl) rfl (fun h => by cases h) ?_ N (by simp at hN; omega)
      rw [hx, List.map_map]
      simp only [List.append_assoc, List.cons_append, List.nil_append]
      congr 2
      exact List.map_congr_left (fun x _ => by show shT at_ (shT t.length x) = _; rw [shT_shT, Nat.add_comm])

theorem LexPlaces_true (text : Str) (_ : text.length ≤ 9223372036854775807) : scrutinylaw12_LexPlaces text = some true := by
  unfold scrutinylaw12_LexPlaces
  rw [shown_true, some_bind']
  by_cases ht : 2000 < text.length
  · rw [dec_t (by omega), cond_true]
  rw [dec_f (by omega), cond_false, Tokens_lex (by omega), some_bind']
  cases hl : lex text with
  | error e =>
    obtain ⟨e, p⟩ := e
    have h1 := lex_err_at _ _ _ hl
    have he : (e != 0) = true := by rcases h1.2.2 with h | h <;> subst h <;> rfl
    simp only [res, he, cond_true, letv_eq]
    simp only [h1.1, h1.2.1, decide_true]
    rcases h1.2.2 with h | h <;> subst h <;> rfl
  | ok l =>
    have h1 := lex_len hl
    simp only [res, bne_self_eq_false, cond_false]
    have := Places_loop text l (by omega) (by omega) text l hl 0 0 [] [] false rfl (by omega) rfl rfl rfl (fun h => by cases h) (by
      have : shT 0 = id := by funext x; simp [shT]
      simp [this]) FUEL (by rw [FUEL_val]; omega)
    exact this
end Lx
end Go.Proofs.Ytiambejbilkgmaa
