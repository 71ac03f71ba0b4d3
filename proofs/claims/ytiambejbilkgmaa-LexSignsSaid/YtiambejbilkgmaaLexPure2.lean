/-
  Own pure proofs: lex.Tokens is 'tokens'.
-/
import Derived.Test.YtiambejbilkgmaaLexPure1
namespace Go.Proofs.Ytiambejbilkgmaa
namespace Lx

theorem takeWhile_all (p : UInt8 → Bool) : ∀ s : Str, (s.takeWhile p).all p = true
  | [] => rfl
  | c :: s => by
    rw [List.takeWhile_cons]
    split
    · rename_i h; simp only [List.all_cons, h, Bool.true_and]; exact takeWhile_all p s
    · rfl
theorem takeWhile_len (p : UInt8 → Bool) (s : Str) : (s.takeWhile p).length ≤ s.length := (List.takeWhile_prefix p).length_le
theorem takeWhile_pos {p : UInt8 → Bool} {c : UInt8} {s : Str} (h : p c = true) : 1 ≤ ((c :: s).takeWhile p).length := by
  rw [List.takeWhile_cons, if_pos h]; simp

theorem token_eq (c : UInt8) (s : Str) (hb : isBlank c = false) (hc : (c == 35) = false) (hl : (c :: s).length < 9223372036854775807) :
    lex_token (c :: s) = some (match step (c :: s) with
      | .skip _ => ((0, [], 0, 0), 0)
      | .err e => ((0, [], 0, 0), e)
      | .tok k t n => ((k, t, n, 0), 0)) := by
  unfold lex_token
  have hb0 : byteAt (c :: s) 0 = (c.toNat : Int) := by
    have := byteAt_nat (c :: s) 0 (by simp)
    simpa using this
  rw [inB_true (by omega) (by simp), chk_true, hb0, letter_eq, some_bind']
  simp only [step, hb, hc, Bool.false_eq_true, if_false]
  cases hlet : isLetter c
  · simp only [cond_false, Bool.false_eq_true, if_false]
    rw [digit_eq, some_bind']
    cases hdig : isDigit c
    · simp only [cond_false, Bool.false_eq_true, if_false]
      rw [sign_eq _ hl, some_bind']
      cases hsg : (signOf (c :: s) == [])
      · simp
      · simp
    · simp only [cond_true, if_true]
      rw [run_digit hl, some_bind', value_eq _ (takeWhile_all _ _) (by have := takeWhile_len isDigit (c :: s); omega), some_bind']
      cases hbig : big (numFrom 0 ((c :: s).takeWhile isDigit))
      · simp
      · simp
  · simp only [cond_true, if_true]
    rw [run_either hl, some_bind']
    by_cases h32 : 32 < ((c :: s).takeWhile isEither).length
    · rw [dec_t (by omega), cond_true, if_pos h32]
    · rw [dec_f (by omega), cond_false, if_neg h32]

theorem either_of_letter {c : UInt8} (h : isLetter c = true) : isEither c = true := by simp [isEither, h]

theorem signs_pos : ∀ g ∈ signs, 1 ≤ g.length := by decide
theorem signOf_mem {s : Str} (h : (signOf s == []) = false) : signOf s ∈ signs ∧ signOf s <+: s ∧ signs.find? (fun g => g.isPrefixOf s) = some (signOf s) := by
  unfold signOf at *
  cases hf : signs.find? (fun g => g.isPrefixOf s) with
  | none => rw [hf] at h; simp at h
  | some g =>
    refine ⟨List.mem_of_find?_eq_some hf, ?_, rfl⟩
    have := List.find?_some hf
    simpa using this
/-- what a step takes is there -/
theorem step_take {c : UInt8} {s : Str} (hb : isBlank c = false) (hc : (c == 35) = false) {k : Int} {t : Str} {n : Int} (h : step (c :: s) = .tok k t n) : 1 ≤ t.length ∧ t <+: (c :: s) := by
  simp only [step, hb, hc, Bool.false_eq_true, if_false] at h
  cases hlet : isLetter c
  · simp only [hlet, Bool.false_eq_true, if_false] at h
    cases hdig : isDigit c
    · simp only [hdig, Bool.false_eq_true, if_false] at h
      cases hsg : (signOf (c :: s) == [])
      · simp only [hsg, Bool.false_eq_true, if_false, Step.tok.injEq] at h
        obtain ⟨_, rfl, _⟩ := h
        obtain ⟨h1, h2, _⟩ := signOf_mem hsg
        exact ⟨signs_pos _ h1, h2⟩
      · simp [hsg] at h
    · simp only [hdig, if_true] at h
      split at h
      · cases h
      · simp only [Step.tok.injEq] at h
        obtain ⟨_, rfl, _⟩ := h
        exact ⟨takeWhile_pos hdig, List.takeWhile_prefix _⟩
  · simp only [hlet, if_true] at h
    split at h
    · cases h
    · simp only [Step.tok.injEq] at h
      obtain ⟨_, rfl, _⟩ := h
      exact ⟨takeWhile_pos (either_of_letter hlet), List.takeWhile_prefix _⟩

def outRes (out : List Tok) : Except (Int × Int) (List Tok) → List Tok × Int × Int
  | .ok l => (out ++ l, 0, 0)
  | .error e => ([], e.1, e.2)

theorem getElem_drop0 {s : Str} {k : Nat} {c : UInt8} {r : Str} (h : s.drop k = c :: r) : ∃ hk : k < s.length, s[k] = c := by
  have hk : k < s.length := by
    rcases Nat.lt_or_ge k s.length with h' | h'
    · exact h'
    · rw [List.drop_of_length_le h'] at h; cases h
  refine ⟨hk, ?_⟩
  rw [List.drop_eq_getElem_cons hk] at h
  exact (List.cons.inj h).1

theorem err_ne {c : UInt8} {s : Str} {e : Int} (h : step (c :: s) = .err e) : e ≠ 0 := by
  simp only [step] at h
  split at h
  · cases h
  · split at h
    · cases h
    · split at h
      · split at h
        · cases h; decide
        · cases h
      · split at h
        · split at h
          · cases h; decide
          · cases h
        · split at h
          · cases h; decide
          · cases h

theorem tokens_loop (text : Str) (hlen : text.length ≤ 65536) : ∀ (N f at_ : Nat) (out : List Tok), at_ ≤ text.length → text.length - at_ < N → text.length - at_ < f → out.length ≤ at_ →
    fixN (lex_Tokens_G1 text) N (out, (at_ : Int)) = some (outRes out (lexS f at_ (text.drop at_))) := by
  intro N
  induction N with
  | zero => intro f at_ out _ h; omega
  | succ N ih =>
    intro f at_ out hat hN hf hout
    obtain ⟨f, rfl⟩ : ∃ g, f = g + 1 := ⟨f - 1, by omega⟩
    rw [fixN_succ]
    generalize fixN (lex_Tokens_G1 text) N = again at ih ⊢
    unfold lex_Tokens_G1
    dsimp only
    simp only [letv_eq]
    cases hd : text.drop at_ with
    | nil =>
      have hge : ¬ ((at_ : Int) < (text.length : Int)) := by
        have := congrArg List.length hd
        simp at this; omega
      have hge' : at_ = text.length := by omega
      rw [dec_f hge]
      simp only [chkG_false, callG_false', Bool.false_and, cond_false]
      rw [roomB_true (by simp; omega) (by simp; omega), chk_true]
      rfl
    | cons c r =>
      obtain ⟨hlt, hget⟩ := getElem_drop0 hd
      have hdl : (c :: r).length = text.length - at_ := by rw [← hd]; simp
      have hbyte : byteAt text (at_ : Int) = (c.toNat : Int) := by rw [byteAt_nat _ _ hlt, hget]
      rw [dec_t (by omega)]
      simp only [chkG, cond_true, inB_true (show (0 : Int) ≤ (at_ : Int) by omega) (show (at_ : Int) < (text.length : Int) by omega), callG_true', Bool.true_and, hbyte, blank_eq, some_bind']
      cases hb : isBlank c
      · simp only [cond_false]
        have h35 : ((c.toNat : Int) == 35) = (c == 35) := by
          rw [show ((35 : Int) = ((35 : UInt8).toNat : Int)) from rfl]; exact u8beq c 35
        rw [h35]
        cases hc : (c == 35)
        · simp only [cond_false]
          rw [cutB_true (by omega) (by omega) (by omega), chk_true, cut_end, hd, token_eq c r hb hc (by omega), some_bind']
          simp only [lexS]
          cases hst : step (c :: r) with
          | skip k =>
            exfalso
            simp only [step, hb, hc, Bool.false_eq_true, if_false] at hst
            repeat (split at hst <;> try (cases hst))
          | err e =>
            have he := err_ne hst
            simp only []
            rw [show (e != 0) = true from by simpa using he, cond_true]
            rfl
          | tok k t n =>
            obtain ⟨ht1, ht2⟩ := step_take hb hc hst
            have ht3 := ht2.length_le
            simp only []
            rw [show ((0 : Int) != 0) = false from rfl, cond_false, roomB_true (by simp; omega) (by simp; omega), chk_true, w64 (by omega)]
            have e1 : ((at_ : Int) + (t.length : Int)) = ((at_ + t.length : Nat) : Int) := by omega
            rw [e1, ih f (at_ + t.length) (out ++ [(k, t, n, (at_ : Int))]) (by omega) (by omega) (by omega) (by simp; omega)]
            have e2 : text.drop (at_ + t.length) = (c :: r).drop t.length := by rw [← hd, List.drop_drop]
            rw [e2]
            cases lexS f (at_ + t.length) ((c :: r).drop t.length) <;> simp [outRes]
        · simp only [cond_true]
          rw [cutB_true (by omega) (by omega) (by omega), chk_true, cut_end, hd, run_notLf (by omega), some_bind']
          have hpos : 1 ≤ ((c :: r).takeWhile notLf).length := takeWhile_pos (by
            have : c = 35 := by simpa using hc
            subst this; decide)
          have hle := takeWhile_len notLf (c :: r)
          rw [w64 (by omega)]
          have e1 : ((at_ : Int) + (((c :: r).takeWhile notLf).length : Int)) = ((at_ + ((c :: r).takeWhile notLf).length : Nat) : Int) := by omega
          rw [e1, ih f (at_ + ((c :: r).takeWhile notLf).length) out (by omega) (by omega) (by omega) (by omega)]
          have e2 : text.drop (at_ + ((c :: r).takeWhile notLf).length) = (c :: r).drop ((c :: r).takeWhile notLf).length := by rw [← hd, List.drop_drop]
          rw [e2]
          have hst : step (c :: r) = .skip ((c :: r).takeWhile notLf).length := by simp [step, hb, hc]
          simp only [lexS, hst]
      · simp only [cond_true]
        rw [w64 (by omega)]
        have e1 : ((at_ : Int) + 1) = ((at_ + 1 : Nat) : Int) := by omega
        rw [e1, ih f (at_ + 1) out (by omega) (by omega) (by omega) (by omega)]
        have e2 : text.drop (at_ + 1) = (c :: r).drop 1 := by rw [← hd, List.drop_drop]
        rw [e2]
        have hst : step (c :: r) = .skip 1 := by simp [step, hb]
        simp only [lexS, hst]

theorem Tokens_eq (text : Str) : lex_Tokens text = some (tokens text) := by
  unfold lex_Tokens tokens
  by_cases h : 65536 < text.length
  · rw [dec_t (by omega), cond_true, if_pos h]
  · rw [dec_f (by omega), cond_false, if_neg h]
    have := tokens_loop text (by omega) FUEL (text.length + 1) 0 [] (by omega) (by rw [FUEL_val]; omega) (by omega) (by simp)
    simp only [List.drop_zero] at this
    have h0 : ((0 : Nat) : Int) = 0 := rfl
    rw [h0] at this
    rw [this]
    cases lexS (text.length + 1) 0 text <;> rfl
end Lx
end Go.Proofs.Ytiambejbilkgmaa
