/-
  Own pure proofs: the document's answer about tokens is 'tokens', too.
-/
import Derived.Test.YtiambejbilkgmaaLexPure2
namespace Go.Proofs.Ytiambejbilkgmaa
namespace Lx

theorem fix_while {σ ρ : Type} {F : (σ → Option ρ) → σ → Option ρ} (p : UInt8 → Bool) (s : Str) (st : Nat → σ) (r : Nat → Option ρ)
    (go : ∀ again k (h : k < s.length), p s[k] = true → (∀ i (hi : i < s.length), i < k → p s[i] = true) → F again (st k) = again (st (k + 1)))
    (stop : ∀ again k (h : k < s.length), p s[k] = false → F again (st k) = r k)
    (last : ∀ again, F again (st s.length) = r s.length) (N : Nat) (hN : s.length < N) : fixN F N (st 0) = r (s.takeWhile p).length := by
  have key : ∀ N k, k ≤ s.length → s.length - k < N → (∀ i (h : i < s.length), i < k → p s[i] = true) → fixN F N (st k) = r (s.takeWhile p).length := by
    intro N
    induction N with
    | zero => intro k _ h; omega
    | succ N ih =>
      intro k hk hN hp
      rw [fixN_succ]
      by_cases hlt : k < s.length
      · cases hpk : p s[k]
        · rw [stop _ k hlt hpk, takeWhile_at s k hp hk (fun _ => hpk), List.length_take, Nat.min_eq_left hk]
        · rw [go _ k hlt hpk hp]
          exact ih (k + 1) (by omega) (by omega) (fun i h hi => by
            rcases Nat.lt_or_ge i k with h' | h'
            · exact hp i h h'
            · have : i = k := by omega
              subst this; exact hpk)
      · have : k = s.length := by omega
        subst this
        rw [last, takeWhile_at s s.length hp (Nat.le_refl _) (fun h => absurd h hlt), List.length_take, Nat.min_self]
  exact key N 0 (Nat.zero_le _) (by omega) (fun i _ h => by omega)

def kindOf (c : UInt8) : Int := if isBlank c then 0 else if isLetter c then 1 else if isDigit c then 2 else 3
theorem isBlank_alt (c : UInt8) : isBlank c = (((c == 9 || c == 10) || c == 13) || c == 32) := by
  unfold isBlank
  cases (c == 32) <;> cases (c == 9) <;> cases (c == 10) <;> cases (c == 13) <;> rfl
theorem kind_eq (c : UInt8) : scrutinyref12_kind (c.toNat : Int) = some (kindOf c) := by
  unfold scrutinyref12_kind
  simp only [letv_eq]
  have h1 := u8beq c 32; have h2 := u8beq c 9; have h3 := u8beq c 10; have h4 := u8beq c 13
  have k1 := u8le 97 c; have k2 := u8le c 122; have k3 := u8le 65 c; have k4 := u8le c 90; have k5 := u8beq c 95
  have d1 := u8le 48 c; have d2 := u8le c 57
  rw [show ((32 : Int) = ((32 : UInt8).toNat : Int)) from rfl, show ((9 : Int) = ((9 : UInt8).toNat : Int)) from rfl, show ((10 : Int) = ((10 : UInt8).toNat : Int)) from rfl, show ((13 : Int) = ((13 : UInt8).toNat : Int)) from rfl, h1, h2, h3, h4, ← isBlank_alt]
  rw [show ((97 : Int) = ((97 : UInt8).toNat : Int)) from rfl, show ((122 : Int) = ((122 : UInt8).toNat : Int)) from rfl, show ((65 : Int) = ((65 : UInt8).toNat : Int)) from rfl, show ((90 : Int) = ((90 : UInt8).toNat : Int)) from rfl, show ((95 : Int) = ((95 : UInt8).toNat : Int)) from rfl, k1, k2, k3, k4, k5]
  rw [show ((48 : Int) = ((48 : UInt8).toNat : Int)) from rfl, show ((57 : Int) = ((57 : UInt8).toNat : Int)) from rfl, d1, d2]
  unfold kindOf
  have e1 : ((decide (97 ≤ c) && decide (c ≤ 122)) || (decide (65 ≤ c) && decide (c ≤ 90)) || c == 95) = isLetter c := rfl
  have e2 : (decide (48 ≤ c) && decide (c ≤ 57)) = isDigit c := rfl
  rw [e1, e2]
  cases isBlank c <;> cases isLetter c <;> cases isDigit c <;> rfl

def satFrom (n : Int) (s : Str) : Int := s.foldl (fun n c => if n ≤ 1073741824 then 10 * n + dig c else n) n
theorem sat_stay : ∀ (s : Str) (n : Int), 1073741824 < n → satFrom n s = n
  | [], _, _ => rfl
  | c :: s, n, h => by
    show satFrom (if n ≤ 1073741824 then 10 * n + dig c else n) s = n
    rw [if_neg (by omega)]; exact sat_stay s n h
theorem sat_num : ∀ (s : Str) (n : Int), 0 ≤ n → s.all isDigit = true → (big (numFrom n s) = false → satFrom n s = numFrom n s) ∧ (big (numFrom n s) = true → 1073741824 < satFrom n s)
  | [], n, _, _ => ⟨fun _ => rfl, fun h => of_decide_eq_true (show decide (1073741824 < n) = true from h)⟩
  | c :: s, n, hn, h => by
    simp only [List.all_cons, Bool.and_eq_true] at h
    have hd := dig_le h.1
    have ih := sat_num s (10 * n + dig c) (by omega) h.2
    have e1 : numFrom n (c :: s) = numFrom (10 * n + dig c) s := rfl
    have e2 : satFrom n (c :: s) = satFrom (if n ≤ 1073741824 then 10 * n + dig c else n) s := rfl
    rw [e1, e2]
    by_cases hb : n ≤ 1073741824
    · rw [if_pos hb]; exact ih
    · rw [if_neg hb]
      have hm := numFrom_mono s (10 * n + dig c) (by omega) h.2
      constructor
      · intro hf; simp [big] at hf; omega
      · intro _; rw [sat_stay s n (by omega)]; omega
theorem sat_bound : ∀ (s : Str) (n : Int), 0 ≤ n → n ≤ 10737418249 → s.all isDigit = true → 0 ≤ satFrom n s ∧ satFrom n s ≤ 10737418249
  | [], n, h, h', _ => ⟨h, h'⟩
  | c :: s, n, h, h', hd => by
    simp only [List.all_cons, Bool.and_eq_true] at hd
    have hdl := dig_le hd.1
    show 0 ≤ satFrom (if n ≤ 1073741824 then 10 * n + dig c else n) s ∧ satFrom (if n ≤ 1073741824 then 10 * n + dig c else n) s ≤ 10737418249
    split
    · exact sat_bound s _ (by omega) (by omega) hd.2
    · exact sat_bound s _ h h' hd.2
theorem sat_take (s : Str) (k : Nat) (h : k < s.length) : satFrom 0 (s.take (k + 1)) = if satFrom 0 (s.take k) ≤ 1073741824 then 10 * satFrom 0 (s.take k) + dig s[k] else satFrom 0 (s.take k) := by
  have e : satFrom 0 (s.take (k + 1)) = satFrom (satFrom 0 (s.take k)) [s[k]] := by
    rw [List.take_succ_eq_append_getElem h]; unfold satFrom; rw [List.foldl_append]
  rw [e]; rfl

theorem takeWhile_take (p : UInt8 → Bool) (s : Str) : s.take (s.takeWhile p).length = s.takeWhile p :=
  (List.prefix_iff_eq_take.1 (List.takeWhile_prefix p)).symm

section
variable {text s : Str} {at_ : Nat} (hd : text.drop at_ = s) (hat : at_ ≤ text.length)
include hd hat
theorem at_len : text.length = at_ + s.length := by
  rw [← hd]; simp; omega
theorem at_byte (k : Nat) (h : k < s.length) : byteAt text ((at_ + k : Nat) : Int) = (s[k].toNat : Int) := by
  have hl := at_len hd hat
  rw [byteAt_nat text (at_ + k) (by omega)]
  congr 2
  subst hd
  rw [List.getElem_drop]
omit hat in
theorem at_cut (k : Nat) : cut text (at_ : Int) ((at_ + k : Nat) : Int) = s.take k := by
  rw [cut_nat, hd]; congr 1; omega

theorem L2_eq (hl : text.length ≤ 65536) (out : List Tok) (again7) :
    fixN (scrutinyref12_Tokens_L2 text out again7) FUEL (at_ : Int) = again7 (out, ((at_ + (s.takeWhile notLf).length : Nat) : Int)) := by
  have hlen := at_len hd hat
  have h0 : (at_ : Int) = ((at_ + 0 : Nat) : Int) := rfl
  rw [h0]
  refine fix_while notLf s (fun k => ((at_ + k : Nat) : Int)) (fun k => again7 (out, ((at_ + k : Nat) : Int))) ?_ ?_ ?_ FUEL (by rw [FUEL_val]; omega)
  · intro again k h hp _
    unfold scrutinyref12_Tokens_L2
    simp only [letv_eq]
    rw [dec_t (by omega), inB_true (by omega) (by omega), at_byte hd hat k h, chkG_true]
    have : ((s[k].toNat : Int) != 10) = notLf s[k] := by
      have := u8beq s[k] 10
      unfold notLf bne
      rw [show ((10 : Int) = ((10 : UInt8).toNat : Int)) from rfl, this]
    rw [this, hp, Bool.and_self, cond_true, w64 (by omega)]
    rfl
  · intro again k h hp
    unfold scrutinyref12_Tokens_L2
    simp only [letv_eq]
    rw [dec_t (by omega), inB_true (by omega) (by omega), at_byte hd hat k h, chkG_true]
    have : ((s[k].toNat : Int) != 10) = notLf s[k] := by
      have := u8beq s[k] 10
      unfold notLf bne
      rw [show ((10 : Int) = ((10 : UInt8).toNat : Int)) from rfl, this]
    rw [this, hp, Bool.and_false, cond_false]
  · intro again
    unfold scrutinyref12_Tokens_L2
    simp only [letv_eq]
    rw [dec_f (by omega), chkG_false, Bool.false_and, cond_false]

end
theorem either_kind {c : UInt8} (hb : isBlank c = false) : ((kindOf c == 1) || (kindOf c == 2)) = isEither c := by
  unfold kindOf isEither
  rw [hb]
  cases isLetter c <;> cases isDigit c <;> rfl
theorem blank_either {c : UInt8} (hb : isBlank c = true) : isEither c = false := by
  simp only [isBlank, Bool.or_eq_true, beq_iff_eq] at hb
  rcases hb with ((rfl | rfl) | rfl) | rfl <;> decide
theorem kind_either (c : UInt8) : ((kindOf c == 1) || (kindOf c == 2)) = isEither c := by
  cases hb : isBlank c
  · unfold kindOf isEither
    rw [hb]
    cases isLetter c <;> cases isDigit c <;> rfl
  · have : isEither c = false := by
      simp only [isBlank, Bool.or_eq_true, beq_iff_eq] at hb
      rcases hb with ((rfl | rfl) | rfl) | rfl <;> decide
    unfold kindOf
    rw [if_pos hb, this]; rfl
theorem L3_eq {text s : Str} {at_ : Nat} (hd : text.drop at_ = s) (hat : at_ ≤ text.length) (hl : text.length ≤ 65536) (out : List Tok) (again7) (hout : out.length ≤ 65536) :
    fixN (scrutinyref12_Tokens_L3 text out (at_ : Int) again7) FUEL (at_ : Int) = if 32 < (s.takeWhile isEither).length then some ([], 9, (at_ : Int)) else again7 (out ++ [(1, s.takeWhile isEither, 0, (at_ : Int))], ((at_ + (s.takeWhile isEither).length : Nat) : Int)) := by
  have hlen := at_len hd hat
  have e0 : (if 32 < (s.takeWhile isEither).length then some ([], 9, (at_ : Int)) else again7 (out ++ [(1, s.takeWhile isEither, 0, (at_ : Int))], ((at_ + (s.takeWhile isEither).length : Nat) : Int)))
     = (fun k => if 32 < k then some ([], 9, (at_ : Int)) else again7 (out ++ [(1, s.take k, 0, (at_ : Int))], ((at_ + k : Nat) : Int))) (s.takeWhile isEither).length := by
    simp only [takeWhile_take]
  rw [e0]
  have tail : ∀ k, k ≤ s.length → (bif (decide (32 < (IntKind.i64.wrap (((at_ + k : Nat) : Int) - (at_ : Int))))) then ( some ([], 9, (at_ : Int))) else ( chk (cutB (at_ : Int) ((at_ + k : Nat) : Int) (List.length text)) <| chk (roomB (List.length out + List.length ([(1, (cut text (at_ : Int) ((at_ + k : Nat) : Int)), 0, (at_ : Int))] : List (Int × Str × Int × Int))) 40) <| again7 ((out ++ ([(1, (cut text (at_ : Int) ((at_ + k : Nat) : Int)), 0, (at_ : Int))] : List (Int × Str × Int × Int))), ((at_ + k : Nat) : Int)))) = (if 32 < k then some ([], 9, (at_ : Int)) else again7 (out ++ [(1, s.take k, 0, (at_ : Int))], ((at_ + k : Nat) : Int))) := by
    intro k hk
    rw [w64 (by omega)]
    by_cases h32 : 32 < k
    · rw [dec_t (by omega), cond_true, if_pos h32]
    · rw [dec_f (by omega), cond_false, if_neg h32, cutB_true (by omega) (by omega) (by omega), chk_true, roomB_true (by simp; omega) (by simp; omega), chk_true, at_cut hd]
  refine fix_while (F := scrutinyref12_Tokens_L3 text out (at_ : Int) again7) isEither s (fun k => ((at_ + k : Nat) : Int)) (fun k => if 32 < k then some ([], 9, (at_ : Int)) else again7 (out ++ [(1, s.take k, 0, (at_ : Int))], ((at_ + k : Nat) : Int))) ?_ ?_ ?_ FUEL (by rw [FUEL_val]; omega)
  · intro again k h hp _
    unfold scrutinyref12_Tokens_L3
    simp only [letv_eq]
    have ke := kind_either s[k]
    rw [hp] at ke
    rw [dec_t (by omega), inB_true (by omega) (by omega), at_byte hd hat k h]
    simp only [chkG_true, kind_eq, callG_true', some_bind', Bool.true_and]
    cases hk1 : (kindOf s[k] == 1)
    · rw [hk1] at ke
      simp only [Bool.not_false, callG_true', some_bind', Bool.false_or] at ke ⊢
      rw [ke, cond_true, w64 (by omega)]; rfl
    · simp only [Bool.not_true, callG_false', Bool.true_or, cond_true]
      rw [w64 (by omega)]; rfl
  · intro again k h hp
    unfold scrutinyref12_Tokens_L3
    simp only [letv_eq]
    have ke := kind_either s[k]
    rw [hp] at ke
    simp only [Bool.or_eq_false_iff] at ke
    rw [dec_t (by omega), inB_true (by omega) (by omega), at_byte hd hat k h]
    simp only [chkG_true, kind_eq, callG_true', some_bind', Bool.true_and, ke.1, ke.2, Bool.not_false, Bool.or_self, cond_false]
    exact tail k (by omega)
  · intro again
    unfold scrutinyref12_Tokens_L3
    simp only [letv_eq]
    rw [dec_f (by omega)]
    simp only [chkG_false, callG_false', Bool.false_and, cond_false]
    exact tail s.length (Nat.le_refl _)

theorem digit_kind (c : UInt8) (h : isLetter c = false) : (kindOf c == 2) = isDigit c := by
  unfold kindOf
  rw [h]
  cases hb : isBlank c
  · cases isDigit c <;> rfl
  · have : isDigit c = false := by
      simp only [isBlank, Bool.or_eq_true, beq_iff_eq] at hb
      rcases hb with ((rfl | rfl) | rfl) | rfl <;> decide
    rw [this]; rfl
theorem letter_digit {c : UInt8} (h : isLetter c = true) : isDigit c = false := by
  simp only [isLetter, Bool.or_eq_true, Bool.and_eq_true, decide_eq_true_eq, beq_iff_eq, UInt8.le_iff_toNat_le] at h
  cases hd : isDigit c
  · rfl
  · simp only [isDigit, Bool.and_eq_true, decide_eq_true_eq, UInt8.le_iff_toNat_le] at hd
    have h1 : (48 : UInt8).toNat = 48 := rfl
    have h2 : (57 : UInt8).toNat = 57 := rfl
    have h3 : (97 : UInt8).toNat = 97 := rfl
    have h4 : (65 : UInt8).toNat = 65 := rfl
    rcases h with (h | h) | h
    · omega
    · omega
    · subst h; have : (95 : UInt8).toNat = 95 := rfl; omega
theorem blank_digit {c : UInt8} (hb : isBlank c = true) : isDigit c = false := by
  simp only [isBlank, Bool.or_eq_true, beq_iff_eq] at hb
  rcases hb with ((rfl | rfl) | rfl) | rfl <;> decide
theorem blank_letter {c : UInt8} (hb : isBlank c = true) : isLetter c = false := by
  simp only [isBlank, Bool.or_eq_true, beq_iff_eq] at hb
  rcases hb with ((rfl | rfl) | rfl) | rfl <;> decide
theorem kind_digit (c : UInt8) : (kindOf c == 2) = isDigit c := by
  cases hl : isLetter c
  · exact digit_kind c hl
  · unfold kindOf
    rw [letter_digit hl, hl]
    cases isBlank c <;> rfl

theorem L4_eq {text s : Str} {at_ : Nat} (hd : text.drop at_ = s) (hat : at_ ≤ text.length) (hl : text.length ≤ 65536) (out : List Tok) (again7) (hout : out.length ≤ 65536) :
    fixN (scrutinyref12_Tokens_L4 text out (at_ : Int) again7) FUEL ((at_ : Int), 0) = if big (numFrom 0 (s.takeWhile isDigit)) then some ([], 9, (at_ : Int)) else again7 (out ++ [(2, s.takeWhile isDigit, numFrom 0 (s.takeWhile isDigit), (at_ : Int))], ((at_ + (s.takeWhile isDigit).length : Nat) : Int)) := by
  have hlen := at_len hd hat
  have hsat := sat_num (s.takeWhile isDigit) 0 (Int.le_refl _) (takeWhile_all _ _)
  have e0 : (if big (numFrom 0 (s.takeWhile isDigit)) then some ([], 9, (at_ : Int)) else again7 (out ++ [(2, s.takeWhile isDigit, numFrom 0 (s.takeWhile isDigit), (at_ : Int))], ((at_ + (s.takeWhile isDigit).length : Nat) : Int)))
     = (fun k => if 1073741824 < satFrom 0 (s.take k) then some ([], 9, (at_ : Int)) else again7 (out ++ [(2, s.take k, satFrom 0 (s.take k), (at_ : Int))], ((at_ + k : Nat) : Int))) (s.takeWhile isDigit).length := by
    simp only [takeWhile_take]
    cases hb : big (numFrom 0 (s.takeWhile isDigit))
    · have h1 := hsat.1 hb
      rw [h1]
      have : ¬ 1073741824 < numFrom 0 (s.takeWhile isDigit) := by simpa [big] using hb
      rw [if_neg this]; rfl
    · rw [if_pos (hsat.2 hb)]; rfl
  rw [e0]
  have tail : ∀ k, k ≤ s.length → (bif (decide (1073741824 < satFrom 0 (s.take k))) then ( some ([], 9, (at_ : Int))) else ( chk (cutB (at_ : Int) ((at_ + k : Nat) : Int) (List.length text)) <| chk (roomB (List.length out + List.length ([(2, (cut text (at_ : Int) ((at_ + k : Nat) : Int)), satFrom 0 (s.take k), (at_ : Int))] : List (Int × Str × Int × Int))) 40) <| again7 ((out ++ ([(2, (cut text (at_ : Int) ((at_ + k : Nat) : Int)), satFrom 0 (s.take k), (at_ : Int))] : List (Int × Str × Int × Int))), ((at_ + k : Nat) : Int)))) = (if 1073741824 < satFrom 0 (s.take k) then some ([], 9, (at_ : Int)) else again7 (out ++ [(2, s.take k, satFrom 0 (s.take k), (at_ : Int))], ((at_ + k : Nat) : Int))) := by
    intro k hk
    by_cases h32 : 1073741824 < satFrom 0 (s.take k)
    · rw [dec_t (by omega), cond_true, if_pos h32]
    · rw [dec_f (by omega), cond_false, if_neg h32, cutB_true (by omega) (by omega) (by omega), chk_true, roomB_true (by simp; omega) (by simp; omega), chk_true, at_cut hd]
  refine fix_while (F := scrutinyref12_Tokens_L4 text out (at_ : Int) again7) isDigit s (fun k => (((at_ + k : Nat) : Int), satFrom 0 (s.take k))) (fun k => if 1073741824 < satFrom 0 (s.take k) then some ([], 9, (at_ : Int)) else again7 (out ++ [(2, s.take k, satFrom 0 (s.take k), (at_ : Int))], ((at_ + k : Nat) : Int))) ?_ ?_ ?_ FUEL (by rw [FUEL_val]; omega)
  · intro again k h hp hall
    unfold scrutinyref12_Tokens_L4
    simp only [letv_eq]
    have ke := kind_digit s[k]
    rw [hp] at ke
    have hdl := dig_le hp
    have hb := sat_bound (s.take k) 0 (Int.le_refl _) (by omega) (by
      rw [List.all_eq_true]; intro c hc
      obtain ⟨i, hi, rfl⟩ := List.mem_iff_getElem.1 hc
      rw [List.getElem_take]
      exact hall i (by simp at hi; omega) (by simp at hi; omega))
    rw [dec_t (by omega), inB_true (by omega) (by omega), at_byte hd hat k h]
    simp only [chkG_true, kind_eq, callG_true', some_bind', Bool.true_and, ke, cond_true]
    rw [sat_take s k h, w64 (x := ((at_ + k : Nat) : Int) + 1) (by omega)]
    unfold dig at hdl ⊢
    by_cases hs : satFrom 0 (s.take k) ≤ 1073741824
    · rw [dec_t hs, cond_true, chk_true, if_pos hs, w64 (x := 10 * _) (by omega), w64 (x := (s[k].toNat : Int)) (by omega), w64 (x := 10 * _ + _) (by omega), w64 (by omega)]
      congr 2
      omega
    · rw [dec_f hs, cond_false, if_neg hs]; rfl
  · intro again k h hp
    unfold scrutinyref12_Tokens_L4
    simp only [letv_eq]
    have ke := kind_digit s[k]
    rw [hp] at ke
    rw [dec_t (by omega), inB_true (by omega) (by omega), at_byte hd hat k h]
    simp only [chkG_true, kind_eq, callG_true', some_bind', Bool.true_and, ke, cond_false]
    exact tail k (by omega)
  · intro again
    unfold scrutinyref12_Tokens_L4
    simp only [letv_eq]
    rw [dec_f (by omega)]
    simp only [chkG_false, callG_false', Bool.false_and, cond_false]
    exact tail s.length (Nat.le_refl _)

theorem refSigns_eq : scrutinyref12_Signs = some signs := rfl
theorem L5_end {text : Str} {out : List Tok} {i5 : Int} {again7} {again122} {g : Str} {j : Int} (hg : (g == []) = false)
    (hr : out.length ≤ 65536) (hi : 0 ≤ i5 ∧ i5 ≤ 65536) (hgl : g.length ≤ 65536) :
    scrutinyref12_Tokens_L5 text out i5 again7 signs again122 (g, j) = again7 (out ++ [(3, g, 0, i5)], i5 + g.length) := by
  unfold scrutinyref12_Tokens_L5
  simp only [letv_eq, hg, Bool.and_false, cond_false]
  rw [roomB_true (by simp; omega) (by simp; omega), chk_true, w64 (by omega)]

theorem L5_eq {text s : Str} {at_ : Nat} (hd : text.drop at_ = s) (hat : at_ ≤ text.length) (hl : text.length ≤ 65536) (out : List Tok) (again7) (hout : out.length ≤ 65536) :
    fixN (scrutinyref12_Tokens_L5 text out (at_ : Int) again7 signs) FUEL ([], 0) = if signOf s == [] then some ([], 2, (at_ : Int)) else again7 (out ++ [(3, signOf s, 0, (at_ : Int))], ((at_ + (signOf s).length : Nat) : Int)) := by
  have hlen := at_len hd hat
  have hs22 : signs.length = 22 := rfl
  have key : ∀ N k, k ≤ signs.length → signs.length - k + 1 < N → (∀ i (h : i < signs.length), i < k → signs[i].isPrefixOf s = false) →
      fixN (scrutinyref12_Tokens_L5 text out (at_ : Int) again7 signs) N ([], ((k : Nat) : Int)) = if signOf s == [] then some ([], 2, (at_ : Int)) else again7 (out ++ [(3, signOf s, 0, (at_ : Int))], ((at_ + (signOf s).length : Nat) : Int)) := by
    intro N
    induction N with
    | zero => intro k _ h; omega
    | succ N ih =>
      intro k hk hN hp
      rw [fixN_succ]
      by_cases hlt : k < signs.length
      · have hgmem : signs[k] ∈ signs := List.getElem_mem hlt
        have hgl : ∀ g ∈ signs, g.length ≤ 3 ∧ (g == []) = false := by decide
        have hg3 := hgl _ hgmem
        have body : scrutinyref12_Tokens_L5 text out (at_ : Int) again7 signs (fixN (scrutinyref12_Tokens_L5 text out (at_ : Int) again7 signs) N) ([], ((k : Nat) : Int)) = fixN (scrutinyref12_Tokens_L5 text out (at_ : Int) again7 signs) N ((if signs[k].isPrefixOf s then signs[k] else []), ((k + 1 : Nat) : Int)) := by
          generalize fixN (scrutinyref12_Tokens_L5 text out (at_ : Int) again7 signs) N = again
          unfold scrutinyref12_Tokens_L5
          simp only [letv_eq]
          rw [dec_t (by omega)]
          simp only [show (([] : Str) == []) = true from rfl, Bool.and_self, cond_true]
          rw [idx_lt hlt]
          simp only [some_bind']
          rw [w64 (x := (text.length : Int) - (at_ : Int)) (by omega), w64 (x := ((k : Nat) : Int) + 1) (by omega)]
          by_cases hle : signs[k].length ≤ s.length
          · rw [dec_t (by omega)]
            simp only [callG_true', some_bind', Bool.true_and]
            rw [w64 (by omega), cutB_true (by omega) (by omega) (by omega), chkG_true]
            have e2 : (at_ : Int) + (signs[k].length : Int) = ((at_ + signs[k].length : Nat) : Int) := by omega
            rw [e2, at_cut hd]
            have e3 : (s.take signs[k].length == signs[k]) = signs[k].isPrefixOf s := by
              rw [Bool.eq_iff_iff, List.isPrefixOf_iff_prefix, beq_iff_eq]
              constructor
              · intro h; rw [← h]; exact List.take_prefix ..
              · intro h; exact (List.prefix_iff_eq_take.1 h).symm
            rw [e3]
            cases signs[k].isPrefixOf s
            · rfl
            · rfl
          · rw [dec_f (by omega)]
            simp only [callG_false', chkG_false, Bool.false_and, cond_false]
            have : signs[k].isPrefixOf s = false := by
              rw [Bool.eq_false_iff, Ne, List.isPrefixOf_iff_prefix]
              intro h; exact hle h.length_le
            rw [this]; rfl
        rw [body]
        cases hpk : signs[k].isPrefixOf s
        · exact ih (k + 1) (by omega) (by omega) (fun i h hi => by
            rcases Nat.lt_or_ge i k with h' | h'
            · exact hp i h h'
            · have : i = k := by omega
              subst this; exact hpk)
        · have hsg : signOf s = signs[k] := by
            unfold signOf
            have : signs.find? (fun g => g.isPrefixOf s) = some signs[k] := by
              rw [List.find?_eq_some_iff_getElem]
              exact ⟨hpk, k, hlt, rfl, fun j hj => by simp [hp j (by omega) hj]⟩
            rw [this]; rfl
          rw [hsg]
          obtain ⟨N, rfl⟩ : ∃ m, N = m + 1 := ⟨N - 1, by omega⟩
          rw [fixN_succ]
          simp only [if_true, hg3.2, Bool.false_eq_true, if_false]
          rw [L5_end hg3.2 hout (by omega) (by omega)]
          rfl
      · have : signOf s = [] := by
          unfold signOf
          have : signs.find? (fun g => g.isPrefixOf s) = none := by
            rw [List.find?_eq_none]
            intro g hg
            obtain ⟨i, hi, rfl⟩ := List.mem_iff_getElem.1 hg
            simp [hp i hi (by omega)]
          rw [this]; rfl
        rw [this]
        generalize fixN (scrutinyref12_Tokens_L5 text out (at_ : Int) again7 signs) N = again
        unfold scrutinyref12_Tokens_L5
        simp only [letv_eq]
        rw [dec_f (by omega)]
        rfl
  exact key FUEL 0 (by omega) (by rw [FUEL_val]; omega) (fun i _ h => by omega)

theorem ref_loop (text : Str) (hlen : text.length ≤ 65536) : ∀ (N f at_ : Nat) (out : List Tok), at_ ≤ text.length → text.length - at_ < N → text.length - at_ < f → out.length ≤ at_ →
    fixN (scrutinyref12_Tokens_L1 text) N (out, (at_ : Int)) = some (outRes out (lexS f at_ (text.drop at_))) := by
  intro N
  induction N with
  | zero => intro f at_ out _ h; omega
  | succ N ih =>
    intro f at_ out hat hN hf hout
    obtain ⟨f, rfl⟩ : ∃ g, f = g + 1 := ⟨f - 1, by omega⟩
    rw [fixN_succ]
    generalize fixN (scrutinyref12_Tokens_L1 text) N = again at ih ⊢
    unfold scrutinyref12_Tokens_L1
    dsimp only
    cases hd : text.drop at_ with
    | nil =>
      have hge' : at_ = text.length := by
        have := congrArg List.length hd
        simp at this; omega
      subst hge'
      rw [dec_f (by omega)]
      simp only [cond_false]
      rw [roomB_true (by simp; omega) (by simp; omega), chk_true]
      rfl
    | cons c r =>
      obtain ⟨hlt, hget⟩ := getElem_drop0 hd
      have hdl : (c :: r).length = text.length - at_ := by rw [← hd]; simp
      have hbyte : byteAt text (at_ : Int) = (c.toNat : Int) := by rw [byteAt_nat _ _ hlt, hget]
      have next : ∀ (k : Nat) (out' : List Tok), 1 ≤ k → k ≤ (c :: r).length → out'.length ≤ at_ + k →
          again (out', ((at_ + k : Nat) : Int)) = some (outRes out' (lexS f (at_ + k) ((c :: r).drop k))) := by
        intro k out' h1 h2 h3
        rw [ih f (at_ + k) out' (by omega) (by omega) (by omega) h3]
        have e2 : text.drop (at_ + k) = (c :: r).drop k := by rw [← hd, List.drop_drop]
        rw [e2]
      rw [dec_t (by omega)]
      simp only [cond_true, inB_true (show (0 : Int) ≤ (at_ : Int) by omega) (show (at_ : Int) < (text.length : Int) by omega), chk_true, hbyte, kind_eq, some_bind']
      have h35 : ((c.toNat : Int) == 35) = (c == 35) := by
        rw [show ((35 : Int) = ((35 : UInt8).toNat : Int)) from rfl]; exact u8beq c 35
      rw [h35]
      cases hb : isBlank c
      · have hk0 : (kindOf c == 0) = false := by
          unfold kindOf; rw [hb]; cases isLetter c <;> cases isDigit c <;> rfl
        simp only [hk0, cond_false]
        cases hc : (c == 35)
        · simp only [cond_false]
          simp only [lexS, step, hb, hc, Bool.false_eq_true, if_false]
          cases hlet : isLetter c
          · have hk1 : (kindOf c == 1) = false := by
              unfold kindOf; rw [hb, hlet]; cases isDigit c <;> rfl
            simp only [hk1, cond_false, Bool.false_eq_true, if_false]
            rw [kind_digit]
            cases hdig : isDigit c
            · simp only [cond_false, Bool.false_eq_true, if_false]
              rw [refSigns_eq, some_bind', L5_eq hd hat hlen out again (by omega)]
              cases hsg : (signOf (c :: r) == [])
              · simp only [Bool.false_eq_true, if_false]
                obtain ⟨h1, h2, _⟩ := signOf_mem hsg
                have h3 := signs_pos _ h1
                have h4 := h2.length_le
                rw [next _ _ h3 h4 (by simp; omega)]
                cases lexS f (at_ + (signOf (c :: r)).length) ((c :: r).drop (signOf (c :: r)).length) <;> simp [outRes]
              · simp only [if_true]; rfl
            · simp only [cond_true, if_true]
              rw [L4_eq hd hat hlen out again (by omega)]
              cases hbig : big (numFrom 0 ((c :: r).takeWhile isDigit))
              · simp only [Bool.false_eq_true, if_false]
                have h3 := takeWhile_pos (s := r) hdig
                have h4 := takeWhile_len isDigit (c :: r)
                rw [next _ _ h3 h4 (by simp; omega)]
                cases lexS f (at_ + ((c :: r).takeWhile isDigit).length) ((c :: r).drop ((c :: r).takeWhile isDigit).length) <;> simp [outRes]
              · simp only [if_true]; rfl
          · have hk1 : (kindOf c == 1) = true := by
              unfold kindOf; rw [hb, hlet]; rfl
            simp only [hk1, cond_true, if_true]
            rw [L3_eq hd hat hlen out again (by omega)]
            by_cases h32 : 32 < ((c :: r).takeWhile isEither).length
            · rw [if_pos h32, if_pos h32]; rfl
            · rw [if_neg h32, if_neg h32]
              have h3 := takeWhile_pos (s := r) (either_of_letter hlet)
              have h4 := takeWhile_len isEither (c :: r)
              rw [next _ _ h3 h4 (by simp; omega)]
              simp only []
              cases lexS f (at_ + ((c :: r).takeWhile isEither).length) ((c :: r).drop ((c :: r).takeWhile isEither).length) <;> simp [outRes]
        · simp only [cond_true]
          rw [L2_eq hd hat hlen out again]
          have hpos : 1 ≤ ((c :: r).takeWhile notLf).length := takeWhile_pos (by
            have : c = 35 := by simpa using hc
            subst this; decide)
          have hle := takeWhile_len notLf (c :: r)
          rw [next _ _ hpos hle (by omega)]
          have hst : step (c :: r) = .skip ((c :: r).takeWhile notLf).length := by simp [step, hb, hc]
          simp only [lexS, hst]
      · have hk0 : (kindOf c == 0) = true := by unfold kindOf; rw [hb]; rfl
        simp only [hk0, cond_true]
        rw [w64 (by omega)]
        have e1 : ((at_ : Int) + 1) = ((at_ + 1 : Nat) : Int) := by omega
        rw [e1, next 1 out (by omega) (by omega) (by omega)]
        have hst : step (c :: r) = .skip 1 := by simp [step, hb]
        simp only [lexS, hst]

theorem refTokens_eq (text : Str) : scrutinyref12_Tokens text = some (tokens text) := by
  unfold scrutinyref12_Tokens tokens
  by_cases h : 65536 < text.length
  · rw [dec_t (by omega), cond_true, if_pos h]
  · rw [dec_f (by omega), cond_false, if_neg h]
    have := ref_loop text (by omega) FUEL (text.length + 1) 0 [] (by omega) (by rw [FUEL_val]; omega) (by omega) (by simp)
    simp only [List.drop_zero] at this
    have h0 : ((0 : Nat) : Int) = 0 := rfl
    rw [h0] at this
    rw [this]
    cases lexS (text.length + 1) 0 text <;> rfl
end Lx
end Go.Proofs.Ytiambejbilkgmaa
