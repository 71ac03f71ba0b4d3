/-
  Own pure proofs: LexTells answers true.
-/
import Derived.Test.YtiambejbilkgmaaLexPure3
import Derived.KernelRfl
namespace Go.Proofs.Ytiambejbilkgmaa
namespace Lx

theorem shown_true : scrutinylaw12_shown = some true := by kernel_rfl

theorem eqT34_self (a : Int) (b : Str) (c d : Int) : eqT34 a b c d a b c d = true := by simp [eqT34]

theorem Same_self (a : List Tok) (h : a.length < 9223372036854775807) : scrutinyref12_Same a a = some true := by
  unfold scrutinyref12_Same
  rw [show ((a.length : Int) != (a.length : Int)) = false from by simp, cond_false]
  refine fixN_up (N := FUEL) (fun k => (k : Int)) a.length (some true) ?_ ?_ 0 (by omega) (by rw [FUEL_val]; omega)
  · intro again k hk
    unfold scrutinyref12_Same_L1
    rw [dec_t (by omega), cond_true, idx_lt hk]
    simp only [some_bind', eqT34_self, Bool.not_true, cond_false]
    rw [w64 (by omega)]; rfl
  · intro again
    unfold scrutinyref12_Same_L1
    rw [dec_f (by omega), cond_false]

theorem lexS_len : ∀ (f at_ : Nat) (s : Str) (l : List Tok), lexS f at_ s = .ok l → l.length ≤ f
  | 0, _, _, l, h => by cases h; simp
  | f + 1, at_, [], l, h => by cases h; simp
  | f + 1, at_, c :: s, l, h => by
    simp only [lexS] at h
    split at h
    · have := lexS_len f _ _ _ h; omega
    · cases h
    · split at h
      · rename_i l' h'
        cases h
        have := lexS_len f _ _ _ h'
        simp; omega
      · cases h
theorem tokens_len (s : Str) : (tokens s).1.length ≤ s.length + 1 := by
  unfold tokens
  split
  · simp
  · cases h : lexS (s.length + 1) 0 s with
    | ok l => exact lexS_len _ _ _ _ h
    | error e => simp [res]

theorem LexTells_true (text : Str) (_ : text.length ≤ 9223372036854775807) : scrutinylaw12_LexTells text = some true := by
  unfold scrutinylaw12_LexTells
  rw [shown_true, some_bind']
  by_cases h : 3000 < text.length
  · rw [dec_t (by omega), cond_true]
  · rw [dec_f (by omega), cond_false, Tokens_eq, some_bind', refTokens_eq, some_bind', Signs_eq, some_bind', refSigns_eq, some_bind']
    rw [show ((signs.length : Int) != (signs.length : Int)) = false from by simp, cond_false]
    have hs22 : signs.length = 22 := rfl
    refine fixN_up (N := FUEL) (fun k => (k : Int)) signs.length (some true) ?_ ?_ 0 (by omega) (by rw [FUEL_val]; omega)
    · intro again k hk
      unfold scrutinylaw12_LexTells_L1
      rw [dec_t (by omega), cond_true, idx_lt hk]
      simp only [some_bind', bne_self_eq_false, cond_false]
      rw [w64 (by omega)]; rfl
    · intro again
      unfold scrutinylaw12_LexTells_L1
      rw [dec_f (by omega), cond_false]
      have := tokens_len text
      simp only [callG_true']
      rw [Same_self _ (by omega), some_bind']
      simp [letv]
end Lx
end Go.Proofs.Ytiambejbilkgmaa
