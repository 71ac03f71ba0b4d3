/-
  Own pure proofs: what the model of lex.Tokens comes to.
-/
import Derived.Test.YtiambejbilkgmaaPureLib
import Derived.Test.YtiambejbilkgmaaModel
namespace Go.Proofs.Ytiambejbilkgmaa
namespace Lx

abbrev Tok := Int × Str × Int × Int

def isBlank (c : UInt8) : Bool := c == 32 || c == 9 || c == 10 || c == 13
def isLetter (c : UInt8) : Bool := (decide (97 ≤ c) && decide (c ≤ 122)) || (decide (65 ≤ c) && decide (c ≤ 90)) || c == 95
def isDigit (c : UInt8) : Bool := decide (48 ≤ c) && decide (c ≤ 57)
def isEither (c : UInt8) : Bool := isLetter c || isDigit c
def notLf (c : UInt8) : Bool := c != 10

theorem u8beq (c d : UInt8) : ((c.toNat : Int) == (d.toNat : Int)) = (c == d) := by
  rw [Bool.eq_iff_iff]
  simp only [beq_iff_eq]
  constructor
  · intro h; exact UInt8.toNat_inj.1 (by omega)
  · intro h; rw [h]
theorem u8le (c d : UInt8) : decide ((c.toNat : Int) ≤ (d.toNat : Int)) = decide (c ≤ d) := by
  rw [Bool.eq_iff_iff]
  simp only [decide_eq_true_eq, UInt8.le_iff_toNat_le]
  omega

theorem blank_eq (c : UInt8) : lex_blank (c.toNat : Int) = some (isBlank c) := by
  have h1 := u8beq c 32; have h2 := u8beq c 9; have h3 := u8beq c 10; have h4 := u8beq c 13
  show some (((((c.toNat : Int) == 32) || ((c.toNat : Int) == 9)) || ((c.toNat : Int) == 10)) || ((c.toNat : Int) == 13)) = _
  rw [show ((32 : Int) = ((32 : UInt8).toNat : Int)) from rfl, show ((9 : Int) = ((9 : UInt8).toNat : Int)) from rfl, show ((10 : Int) = ((10 : UInt8).toNat : Int)) from rfl, show ((13 : Int) = ((13 : UInt8).toNat : Int)) from rfl, h1, h2, h3, h4]
  rfl
theorem letter_eq (c : UInt8) : lex_letter (c.toNat : Int) = some (isLetter c) := by
  show some ((((decide ((97 : Int) ≤ (c.toNat : Int))) && (decide ((c.toNat : Int) ≤ 122))) || ((decide ((65 : Int) ≤ (c.toNat : Int))) && (decide ((c.toNat : Int) ≤ 90)))) || ((c.toNat : Int) == 95)) = _
  have h1 := u8le 97 c; have h2 := u8le c 122; have h3 := u8le 65 c; have h4 := u8le c 90; have h5 := u8beq c 95
  rw [show ((97 : Int) = ((97 : UInt8).toNat : Int)) from rfl, show ((122 : Int) = ((122 : UInt8).toNat : Int)) from rfl, show ((65 : Int) = ((65 : UInt8).toNat : Int)) from rfl, show ((90 : Int) = ((90 : UInt8).toNat : Int)) from rfl, show ((95 : Int) = ((95 : UInt8).toNat : Int)) from rfl, h1, h2, h3, h4, h5]
  rfl
theorem digit_eq (c : UInt8) : lex_digit (c.toNat : Int) = some (isDigit c) := by
  show some ((decide ((48 : Int) ≤ (c.toNat : Int))) && (decide ((c.toNat : Int) ≤ 57))) = _
  have h1 := u8le 48 c; have h2 := u8le c 57
  rw [show ((48 : Int) = ((48 : UInt8).toNat : Int)) from rfl, show ((57 : Int) = ((57 : UInt8).toNat : Int)) from rfl, h1, h2]
  rfl
theorem either_eq (c : UInt8) : lex_either (c.toNat : Int) = some (isEither c) := by
  unfold lex_either isEither
  rw [letter_eq, some_bind', digit_eq]
  cases isLetter c <;> rfl
theorem notLf_eq (c : UInt8) : lex_Tokens_c1 (c.toNat : Int) = some (notLf c) := by
  show some ((c.toNat : Int) != 10) = some (notLf c)
  have h1 := u8beq c 10
  unfold notLf bne
  rw [show ((10 : Int) = ((10 : UInt8).toNat : Int)) from rfl, h1]

/-! runs -/
theorem takeWhile_at {p : UInt8 → Bool} : ∀ (l : Str) (k : Nat), (∀ i (h : i < l.length), i < k → p l[i] = true) → k ≤ l.length → (∀ h : k < l.length, p l[k] = false) → l.takeWhile p = l.take k
  | [], k, _, hk, _ => by simp
  | c :: l, 0, _, _, h2 => by
    have := h2 (by simp)
    simp at this
    simp [this]
  | c :: l, k + 1, h1, hk, h2 => by
    have hc := h1 0 (by simp) (by omega)
    simp at hc
    rw [List.takeWhile_cons, if_pos hc, List.take_succ_cons, takeWhile_at l k (fun i h hik => by
      have := h1 (i + 1) (by simp; omega) (by omega)
      simpa using this) (by simpa using hk) (fun h => by
      have := h2 (by simp; omega)
      simpa using this)]

theorem run_gen {p : UInt8 → Bool} {f : Int → Option Bool} (hf : ∀ c : UInt8, f (c.toNat : Int) = some (p c)) {text : Str} (hlen : text.length < 9223372036854775807)
    {F : (Int → Option Str) → Int → Option Str}
    (hF : ∀ again t1, F again t1 = bif (decide (t1 < (List.length text : Int))) then (chk (inB t1 (List.length text)) <| (f (byteAt text t1)).bind fun r6 => bif (!r6) then (chk (cutB 0 t1 (List.length text)) <| some (cut text 0 t1)) else (again (IntKind.i64.wrap (t1 + 1)))) else (some text)) :
    fixN F FUEL 0 = some (text.takeWhile p) := by
  have key : ∀ N k, k ≤ text.length → text.length - k < N → (∀ i (h : i < text.length), i < k → p text[i] = true) → fixN F N ((k : Nat) : Int) = some (text.takeWhile p) := by
    intro N
    induction N with
    | zero => intro k _ h; omega
    | succ N ih =>
      intro k hk hN hp
      rw [fixN_succ, hF]
      by_cases hlt : k < text.length
      · rw [dec_t (by omega), cond_true, inB_true (by omega) (by omega), chk_true, byteAt_nat _ _ hlt, hf, some_bind']
        cases hpk : p text[k]
        · simp only [Bool.not_false, cond_true]
          rw [cutB_true (by omega) (by omega) (by omega), chk_true, takeWhile_at text k hp hk (fun _ => hpk)]
          simp [cut]
        · simp only [Bool.not_true, cond_false]
          rw [w64 (by omega)]
          exact ih (k + 1) (by omega) (by omega) (fun i h hi => by
            rcases Nat.lt_or_ge i k with h' | h'
            · exact hp i h h'
            · have : i = k := by omega
              subst this; exact hpk)
      · rw [dec_f (by omega), cond_false, takeWhile_at text k hp hk (fun h => absurd h hlt), List.take_of_length_le (by omega)]
  exact key FUEL 0 (by omega) (by rw [FUEL_val]; omega) (fun i _ h => by omega)

theorem run_either {text : Str} (h : text.length < 9223372036854775807) : lex_run__lex_either text = some (text.takeWhile isEither) := run_gen either_eq h (fun _ _ => rfl)
theorem run_digit {text : Str} (h : text.length < 9223372036854775807) : lex_run__lex_digit text = some (text.takeWhile isDigit) := run_gen digit_eq h (fun _ _ => rfl)
theorem run_notLf {text : Str} (h : text.length < 9223372036854775807) : lex_run__lex_Tokens_c1 text = some (text.takeWhile notLf) := run_gen notLf_eq h (fun _ _ => rfl)

/-! numbers -/
def dig (c : UInt8) : Int := (c.toNat : Int) - 48
def numFrom (n : Int) (s : Str) : Int := s.foldl (fun n c => 10 * n + dig c) n
def big (n : Int) : Bool := decide (1073741824 < n)

theorem dig_le {c : UInt8} (h : isDigit c = true) : 0 ≤ dig c ∧ dig c ≤ 9 := by
  simp only [isDigit, Bool.and_eq_true, decide_eq_true_eq, UInt8.le_iff_toNat_le] at h
  unfold dig
  have h1 : (48 : UInt8).toNat = 48 := rfl
  have h2 : (57 : UInt8).toNat = 57 := rfl
  omega
theorem numFrom_mono : ∀ (s : Str) (n : Int), 0 ≤ n → s.all isDigit = true → n ≤ numFrom n s
  | [], n, _, _ => Int.le_refl _
  | c :: s, n, hn, h => by
    simp only [List.all_cons, Bool.and_eq_true] at h
    have hd := dig_le h.1
    have := numFrom_mono s (10 * n + dig c) (by omega) h.2
    show n ≤ numFrom (10 * n + dig c) s
    omega

/-- a rune that is a digit -/
theorem rune_digit (s : Str) (k : Nat) (h : k < s.length) (hd : isDigit s[k] = true) : runeAt s k = (s[k].toNat : Int) ∧ runePos s k = k + 1 := by
  have hc : (s[k].toNat : Nat) < 128 := by
    simp only [isDigit, Bool.and_eq_true, decide_eq_true_eq, UInt8.le_iff_toNat_le] at hd
    have h2 : (57 : UInt8).toNat = 57 := rfl
    omega
  have hget : (⟨s.toArray⟩ : ByteArray).get! k = s[k] := by
    show s.toArray[k]! = s[k]
    simp [h]
  have hdec : Utf8.decode ⟨s.toArray⟩ k = (s[k].toNat, 1) := by
    unfold Utf8.decode
    simp only [Nat.add_zero, hget]
    rw [if_pos hc]
  exact ⟨by simp [runeAt, hdec], by simp [runePos, hdec]⟩
theorem numFrom_take (s : Str) (n : Int) (k : Nat) (h : k < s.length) : numFrom n (s.take (k + 1)) = 10 * numFrom n (s.take k) + dig s[k] := by
  unfold numFrom
  rw [List.take_succ_eq_append_getElem h, List.foldl_append]
  rfl

theorem value_eq (s : Str) (hd : s.all isDigit = true) (hl : s.length < 9223372036854775807) :
    lex_value s = some (if big (numFrom 0 s) then (0, false) else (numFrom 0 s, true)) := by
  have hall : ∀ k (h : k < s.length), isDigit s[k] = true := fun k h => List.all_eq_true.1 hd _ (List.getElem_mem h)
  have key : ∀ N k, k ≤ s.length → s.length - k < N → numFrom 0 (s.take k) ≤ 1073741824 → fixN (lex_value_L1 s) N (numFrom 0 (s.take k), k) = some (if big (numFrom 0 s) then (0, false) else (numFrom 0 s, true)) := by
    intro N
    induction N with
    | zero => intro k _ h; omega
    | succ N ih =>
      intro k hk hN hn
      have h0 : 0 ≤ numFrom 0 (s.take k) := numFrom_mono _ 0 (Int.le_refl _) (by
        rw [List.all_eq_true]; intro c hc; exact List.all_eq_true.1 hd c (List.mem_of_mem_take hc))
      rw [fixN_succ]
      show (bif decide (k < s.length) then _ else _) = _
      by_cases hlt : k < s.length
      · rw [dec_t hlt, cond_true]
        obtain ⟨e1, e2⟩ := rune_digit s k hlt (hall k hlt)
        have hdl := dig_le (hall k hlt)
        have hstep : (IntKind.i64.wrap ((IntKind.i64.wrap (10 * numFrom 0 (s.take k))) + (IntKind.i64.wrap (IntKind.i32.wrap ((runeAt s k) - 48))))) = numFrom 0 (s.take (k + 1)) := by
          rw [e1, numFrom_take s 0 k hlt]
          unfold dig at hdl ⊢
          rw [w32 (by omega), w64 (x := 10 * _) (by omega), w64 (x := (s[k].toNat : Int) - 48) (by omega), w64 (by omega)]
        simp only [hstep, e2]
        by_cases hb : 1073741824 < numFrom 0 (s.take (k + 1))
        · rw [dec_t hb, cond_true]
          have h1 : numFrom 0 (s.take (k + 1)) ≤ numFrom 0 s := by
            have h2 : numFrom 0 s = numFrom (numFrom 0 (s.take (k + 1))) (s.drop (k + 1)) := by
              unfold numFrom
              rw [← List.foldl_append, List.take_append_drop]
            rw [h2]
            exact numFrom_mono _ _ (by omega) (by
              rw [List.all_eq_true]; intro c hc; exact List.all_eq_true.1 hd c (List.mem_of_mem_drop hc))
          rw [if_pos (by simp [big]; omega)]
        · rw [dec_f hb, cond_false]
          exact ih (k + 1) (by omega) (by omega) (by omega)
      · have hk' : k = s.length := by omega
        subst hk'
        rw [dec_f hlt, cond_false, List.take_length] at *
        rw [if_neg (by simp [big]; omega)]
  exact key FUEL 0 (by omega) (by rw [FUEL_val]; omega) (by simp [numFrom])

/-! signs -/
def signs : List Str := [[60, 45, 62], [45, 62], [61, 61], [33, 61], [60, 61], [62, 61], [60], [62], [61], [43], [45], [42], [40], [41], [123], [125], [59], [44], [58], [38], [124], [33]]
theorem Signs_eq : lex_Signs = some signs := rfl
def signOf (s : Str) : Str := (signs.find? (fun g => g.isPrefixOf s)).getD []

theorem prefix_eq (s g : Str) (_h : s.length < 9223372036854775807) : strings_HasPrefix s g = some (g.isPrefixOf s) := by
  show (internal_stringslite_HasPrefix s g).bind (fun r1 => some r1) = _
  have hi : internal_stringslite_HasPrefix s g = some (g.isPrefixOf s) := by
    unfold internal_stringslite_HasPrefix
    simp only [letv_eq]
    by_cases hl : g.length ≤ s.length
    · rw [dec_t (by omega), chkG, cond_true, cutB_true (by omega) (by omega) (by omega), cond_true, Bool.true_and]
      congr 1
      rw [Bool.eq_iff_iff, List.isPrefixOf_iff_prefix, beq_iff_eq]
      have : cut s 0 (g.length : Int) = s.take g.length := by simp [cut]
      rw [this]
      constructor
      · intro h; rw [← h]; exact List.take_prefix ..
      · intro h; exact (List.prefix_iff_eq_take.1 h).symm
    · rw [dec_f (by omega), chkG_false, Bool.false_and]
      congr 1
      symm
      rw [Bool.eq_false_iff, Ne, List.isPrefixOf_iff_prefix]
      intro h
      exact hl h.length_le
  rw [hi]; rfl

theorem sign_eq (s : Str) (h : s.length < 9223372036854775807) : lex_sign s = some (signOf s) := by
  unfold lex_sign
  rw [Signs_eq, some_bind']
  have key : ∀ N k, k ≤ signs.length → signs.length - k < N → (∀ i (h : i < signs.length), i < k → signs[i].isPrefixOf s = false) → fixN (lex_sign_L1 s signs) N ((k : Nat) : Int) = some (signOf s) := by
    intro N
    induction N with
    | zero => intro k _ h; omega
    | succ N ih =>
      intro k hk hN hp
      rw [fixN_succ]
      show (bif (decide (((k : Nat) : Int) < (List.length signs : Int))) then _ else _) = _
      by_cases hlt : k < signs.length
      · rw [dec_t (by omega), cond_true, idx_lt hlt, some_bind', prefix_eq _ _ h, some_bind']
        cases hpk : signs[k].isPrefixOf s
        · simp only [cond_false]
          rw [w64 (by have : signs.length = 22 := rfl; omega)]
          exact ih (k + 1) (by omega) (by omega) (fun i h hi => by
            rcases Nat.lt_or_ge i k with h' | h'
            · exact hp i h h'
            · have : i = k := by omega
              subst this; exact hpk)
        · simp only [cond_true]
          congr 1
          unfold signOf
          have : signs.find? (fun g => g.isPrefixOf s) = some signs[k] := by
            rw [List.find?_eq_some_iff_getElem]
            exact ⟨hpk, k, hlt, rfl, fun j hj => by simp [hp j (by omega) hj]⟩
          rw [this]; rfl
      · rw [dec_f (by omega), cond_false]
        congr 1
        unfold signOf
        have : signs.find? (fun g => g.isPrefixOf s) = none := by
          rw [List.find?_eq_none]
          intro g hg
          obtain ⟨i, hi, rfl⟩ := List.mem_iff_getElem.1 hg
          simp [hp i hi (by omega)]
        rw [this]; rfl
  exact key FUEL 0 (by omega) (by rw [FUEL_val]; have : signs.length = 22 := rfl; omega) (fun i _ h => by omega)

/-! one step -/
inductive Step where
  | skip (k : Nat)
  | err (e : Int)
  | tok (k : Int) (t : Str) (n : Int)

def step : Str → Step
  | [] => .skip 0
  | c :: s =>
    if isBlank c then .skip 1
    else if c == 35 then .skip ((c :: s).takeWhile notLf).length
    else if isLetter c then (if 32 < ((c :: s).takeWhile isEither).length then .err 9 else .tok 1 ((c :: s).takeWhile isEither) 0)
    else if isDigit c then (if big (numFrom 0 ((c :: s).takeWhile isDigit)) then .err 9 else .tok 2 ((c :: s).takeWhile isDigit) (numFrom 0 ((c :: s).takeWhile isDigit)))
    else if signOf (c :: s) == [] then .err 2 else .tok 3 (signOf (c :: s)) 0

def lexS : Nat → Nat → Str → Except (Int × Int) (List Tok)
  | 0, _, _ => .ok []
  | _ + 1, at_, [] => .ok [(4, [], 0, (at_ : Int))]
  | f + 1, at_, c :: s =>
    match step (c :: s) with
    | .skip k => lexS f (at_ + k) ((c :: s).drop k)
    | .err e => .error (e, at_)
    | .tok k t n => match lexS f (at_ + t.length) ((c :: s).drop t.length) with
      | .ok l => .ok ((k, t, n, (at_ : Int)) :: l)
      | .error e => .error e
def res : Except (Int × Int) (List Tok) → List Tok × Int × Int
  | .ok l => (l, 0, 0)
  | .error e => ([], e.1, e.2)
def tokens (s : Str) : List Tok × Int × Int := if 65536 < s.length then ([], 9, 0) else res (lexS (s.length + 1) 0 s)

end Lx
end Go.Proofs.Ytiambejbilkgmaa
