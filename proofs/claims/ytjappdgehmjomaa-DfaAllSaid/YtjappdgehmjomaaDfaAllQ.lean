/-
  DfaAll, plainly: all words, one by one. (own)
-/
import Derived.Test.YtjappdgehmjomaaDfaAllP
namespace Go.Proofs.Ytjappdgehmjomaa
namespace Df

def sg (t s c : Nat) : Nat := if c = t - 1 then s else if s ≤ c then c + 1 else c
theorem sg_lt {t s c : Nat} (hs : s < t) (hc : c < t) : sg t s c < t := by unfold sg; split <;> (try split) <;> omega
theorem sg_inj {t s c c' : Nat} (hs : s < t) (hc : c < t) (hc' : c' < t) (e : sg t s c = sg t s c') : c = c' := by
  unfold sg at e
  split at e <;> split at e <;> (try split at e) <;> (try split at e) <;> omega
theorem sg_but {t s c : Nat} (hs : s < t) (hc : c < t - 1) : sg t s c ≠ s := by unfold sg; split <;> (try split) <;> omega
theorem sg_all {t s x : Nat} (hs : s < t) (hx : x < t) (h : x ≠ s) : ∃ j, j < t - 1 ∧ sg t s j = x := by
  by_cases hlt : x < s
  · exact ⟨x, by omega, by unfold sg; rw [if_neg (by omega), if_neg (by omega)]⟩
  · exact ⟨x - 1, by omega, by unfold sg; rw [if_neg (by omega), if_pos (by omega)]; omega⟩

theorem all_loop {signs wide last : Int} {r6 : D × Int} (h6 : r6.2 = 0) {k n : Nat} (hk : 2 ≤ k ∧ k ≤ 4) (hn : 1 ≤ n ∧ n ≤ 4) (eK : IntKind.i64.wrap (2 + (Int.tmod (IntKind.i64.wrap signs) 3)) = (k : Int)) (eN : IntKind.i64.wrap (1 + (Int.tmod (IntKind.i64.wrap wide) 4)) = (n : Int)) {s : Nat} (ht : 2 ≤ k ^ n ∧ k ^ n ≤ 256) (hs : s < k ^ n) (eS : Int.tmod (IntKind.i64.wrap last) ((k ^ n : Nat) : Int) = (s : Int)) :
    ∀ (m c : Nat), c ≤ k ^ n → k ^ n - c < m → ∀ (d : D) (L : List (List Int)) (A : List Int), Is d n L A → L.length = c → (∀ v, v ∈ L ↔ ∃ j, j < c ∧ v = code k n (sg (k ^ n) s j)) →
    fixN (scrutinylaw09_DfaAll_L2 signs wide last true r6 ((k ^ n : Nat) : Int)) m (d.1, d.2.1, d.2.2.1, d.2.2.2.1, d.2.2.2.2, (c : Int)) = some true
  | 0, _, _, h, _, _, _, _, _, _ => by omega
  | m + 1, c, hc, hm, d, L, A, I, hL, mL => by
    rw [fixN_succ]
    have ih := fun d L A I hL mL (hc1 : c + 1 ≤ k ^ n) => all_loop h6 hk hn eK eN ht hs eS m (c + 1) hc1 (by omega) d L A I hL mL
    have k0 : 0 < k := by omega
    have mem : ∀ {v : List Int}, v.length = n → Dig k v → v = code k n (val k v) ∧ val k v < k ^ n := fun hl hd => ⟨(code_val hl hd).1.symm, (code_val hl hd).2⟩
    generalize fixN (scrutinylaw09_DfaAll_L2 signs wide last true r6 ((k ^ n : Nat) : Int)) m = g at ih ⊢
    by_cases h : c < k ^ n
    · have hsl := sg_lt hs h
      have hw : code k n (sg (k ^ n) s c) ∉ L := fun hm => by
        obtain ⟨j, hj, e⟩ := (mL _).1 hm
        have := sg_inj hs h (by omega) (code_inj k0 hsl (sg_lt hs (by omega)) e)
        omega
      have hd : Dig k (code k n (sg (k ^ n) s c)) := code_dig k0
      obtain ⟨d', A', g1, I'⟩ : ∃ d' A', dfa_Insert d (code k n (sg (k ^ n) s c)) = some (d', true, 0) ∧ Is d' n (insW (code k n (sg (k ^ n) s c)) L) A' := by
        rcases insL_ok I (by omega) (hd.by hk.2) (by rw [code_len]; omega) with ⟨h1, _⟩ | ⟨_, h2, _⟩ | ⟨_, _, h3⟩
        · exact absurd code_len h1
        · exact absurd h2 hw
        · exact h3
      have r := ih d' _ A' I' (by rw [insW_len]; omega) (fun v => by
        rw [insW_mem, mL]
        constructor
        · rintro (h | ⟨j, hj, e⟩)
          · exact ⟨c, by omega, h⟩
          · exact ⟨j, by omega, e⟩
        · rintro ⟨j, hj, e⟩
          by_cases hjc : j = c
          · subst hjc; exact .inl e
          · exact .inr ⟨j, by omega, e⟩) (by omega)
      have hsz : c = k ^ n - 1 → 1 < n → A.length = 2 * n := fun hc1 hn1 => by
        rw [size_sum I]
        refine but_size (s := code k n s) hk.1 hn1 I.sor I.len ⟨code_len, code_dig k0⟩ (fun v => ?_) (fun e => by rw [e] at hL; simp at hL; omega)
        rw [mL]
        constructor
        · rintro ⟨j, hj, rfl⟩
          exact ⟨code_len, code_dig k0, fun e => sg_but hs (by omega) (code_inj k0 (sg_lt hs (by omega)) hs e)⟩
        · rintro ⟨h1, h2, h3⟩
          obtain ⟨e, hv⟩ := mem h1 h2
          obtain ⟨j, hj, ej⟩ := sg_all hs hv (fun e2 => h3 (by rw [← e2]; exact e))
          exact ⟨j, by omega, by rw [ej]; exact e⟩
      have hsize := size_ok I.good
      have wl := word_loop (signs := signs) (wide := wide) (total := ((k ^ n : Nat) : Int)) (c := (c : Int)) (d := d) (ag := g) hk hn eK eN (w := code k n (sg (k ^ n) s c)) (r := some true) (fun g' v => by
        unfold scrutinylaw09_DfaAll_L4
        dsimp only
        rw [eN, show decide ((n : Int) < (n : Int)) = false by simp, cond_false, show (d.1, d.2.1, d.2.2.1, d.2.2.2.1, d.2.2.2.2) = d from rfl, g1]
        generalize dfa_Size d = qs at hsize ⊢
        subst hsize
        have e1 : IntKind.i64.wrap (((k ^ n : Nat) : Int) - 1) = ((k ^ n - 1 : Nat) : Int) := by rw [w64 (by omega)]; omega
        have e2 : IntKind.i64.wrap (2 * (n : Int)) = ((2 * n : Nat) : Int) := by rw [w64 (by omega)]; omega
        rw [e1, e2, next_ix (by omega)]
        simp only [letv_p]
        by_cases hcl : c = k ^ n - 1
        · rw [show ((c : Int) == ((k ^ n - 1 : Nat) : Int)) = true by simp only [beq_iff_eq]; omega]
          simp only [callG_p, bind_p, Bool.true_and]
          have : ((((A.length : Int) != ((2 * n : Nat) : Int)) && decide (1 < (n : Int)))) = false := by
            by_cases hn1 : 1 < n
            · rw [hsz hcl hn1]; simp
            · rw [show decide (1 < (n : Int)) = false by simp; omega, Bool.and_false]
          rw [this]
          simp only [cond_false, bind_p, Bool.not_true, bne_self_eq_false, Bool.or_self]
          exact r
        · rw [show ((c : Int) == ((k ^ n - 1 : Nat) : Int)) = false by rw [Bool.eq_false_iff]; simp only [ne_eq, beq_iff_eq]; omega]
          simp only [callG_ff, Bool.false_and, cond_false, bind_p, Bool.not_true, bne_self_eq_false, Bool.or_self]
          exact r) n [] (sg (k ^ n) s c) (by simp) (by omega) (by simp) FUEL (fuel_lt (by omega))
      have k3 : ∀ i : Int, i = (sg (k ^ n) s c : Nat) → scrutinylaw09_DfaAll_K3 signs wide ((k ^ n : Nat) : Int) d.1 d.2.1 d.2.2.1 d.2.2.2.1 d.2.2.2.2 (c : Int) g i = some true := fun i hi => by
        unfold scrutinylaw09_DfaAll_K3
        rw [eN, show decide (0 ≤ (n : Int)) = true by simp, chk_t, Int.toNat_natCast, room_t (by omega) (by omega), chk_t, hi]
        rw [List.nil_append, show ((List.length ([] : List Int) : Nat) : Int) = 0 from rfl] at wl
        rw [wl]
      unfold scrutinylaw09_DfaAll_L2
      dsimp only
      rw [show decide ((c : Int) < ((k ^ n : Nat) : Int)) = true by simp only [decide_eq_true_eq]; omega, cond_true, eS]
      rw [show IntKind.i64.wrap (((k ^ n : Nat) : Int) - 1) = ((k ^ n - 1 : Nat) : Int) by rw [w64 (by omega)]; omega]
      by_cases hcl : c = k ^ n - 1
      · rw [show ((c : Int) == ((k ^ n - 1 : Nat) : Int)) = true by simp only [beq_iff_eq]; omega, cond_true]
        exact k3 _ (by unfold sg; rw [if_pos hcl])
      · rw [show ((c : Int) == ((k ^ n - 1 : Nat) : Int)) = false by rw [Bool.eq_false_iff]; simp only [ne_eq, beq_iff_eq]; omega, cond_false]
        by_cases hsc : s ≤ c
        · rw [show decide ((s : Int) ≤ (c : Int)) = true by simp; omega, cond_true, next_ix (by omega)]
          exact k3 _ (by unfold sg; rw [if_neg hcl, if_pos hsc])
        · rw [show decide ((s : Int) ≤ (c : Int)) = false by simp; omega, cond_false]
          exact k3 _ (by unfold sg; rw [if_neg hcl, if_neg hsc])
    · have hce : c = k ^ n := by omega
      have hA : A.length = n + 1 := by
        rw [size_sum I]
        refine all_size (k := k) I.sor I.len (fun v => ?_) (fun e => by rw [e] at hL; simp at hL; omega)
        rw [mL]
        constructor
        · rintro ⟨j, hj, rfl⟩; exact ⟨code_len, code_dig k0⟩
        · rintro ⟨h1, h2⟩
          obtain ⟨e, hv⟩ := mem h1 h2
          by_cases h3 : val k v = s
          · exact ⟨k ^ n - 1, by omega, by unfold sg; rw [if_pos rfl, ← h3]; exact e⟩
          · obtain ⟨j, hj, ej⟩ := sg_all hs hv h3
            exact ⟨j, by omega, by rw [ej]; exact e⟩
      have hsize := size_ok I.good
      have hmany := many_ok I
      unfold scrutinylaw09_DfaAll_L2
      dsimp only
      rw [show decide ((c : Int) < ((k ^ n : Nat) : Int)) = false by simp only [decide_eq_false_iff_not]; omega, cond_false, eN, show (d.1, d.2.1, d.2.2.1, d.2.2.2.1, d.2.2.2.2) = d from rfl]
      generalize dfa_Size d = q1 at hsize ⊢
      generalize dfa_Many d = q2 at hmany ⊢
      subst hsize hmany
      rw [next_ix (by omega), hA, hL, hce]
      simp only [letv_p, h6, beq_self_eq_true, Bool.true_and, callG_p, bind_p]
end Df
end Go.Proofs.Ytjappdgehmjomaa
