/-
  DfaAll, plainly: the counts of all words, and of all but one. (own)
-/
import Derived.Test.YtjappdgehmjomaaDfaCount
namespace Go.Proofs.Ytjappdgehmjomaa
namespace Df

/-- words of so many signs -/
def Dig (k : Nat) (v : List Int) : Prop := ∀ b ∈ v, 0 ≤ b ∧ b < k
theorem Dig.app {k : Nat} {u v : List Int} : Dig k (u ++ v) ↔ Dig k u ∧ Dig k v := by
  unfold Dig
  simp only [List.mem_append]
  exact ⟨fun h => ⟨fun b hb => h b (.inl hb), fun b hb => h b (.inr hb)⟩, fun h b hb => hb.elim (h.1 b) (h.2 b)⟩
theorem Dig.take {k : Nat} {v : List Int} (h : Dig k v) (j : Nat) : Dig k (v.take j) := fun b hb => h b (List.mem_of_mem_take hb)
theorem Dig.drop {k : Nat} {v : List Int} (h : Dig k v) (j : Nat) : Dig k (v.drop j) := fun b hb => h b (List.mem_of_mem_drop hb)
theorem cnt_all {L : List (List Int)} {n k : Nat} (sL : Sor L) (hl : ∀ v ∈ L, v.length = n ∧ By v) (mL : ∀ v, v ∈ L ↔ v.length = n ∧ Dig k v) (h0 : L ≠ []) {j : Nat} (hj : j ≤ n) : cnt L j = 1 := by
  obtain ⟨t, ht⟩ := List.exists_mem_of_ne_nil _ h0
  have := img_eq (I := List Int) (fun v => lefts L v j) (fun _ => ()) L (X := seenL L j L []) (Y := [()]) (seenL_nodup .nil) (by simp) (fun x => by rw [seenL_mem]; simp) (fun y => by simp; exact ⟨t, ht⟩) fun v hv v' hv' => by
    simp only [iff_true]
    rw [lefts_iff sL hl hj hv hv']
    intro u hu
    have h1 := (mL v).1 hv; have h2 := (mL v').1 hv'
    rw [mL, mL, Dig.app, Dig.app]
    simp only [List.length_append, List.length_take, h1.1, h2.1]
    exact ⟨fun h => ⟨h.1, h2.2.take j, h.2.2⟩, fun h => ⟨h.1, h1.2.take j, h.2.2⟩⟩
  exact this
theorem all_size {L : List (List Int)} {n k : Nat} (sL : Sor L) (hl : ∀ v ∈ L, v.length = n ∧ By v) (mL : ∀ v, v ∈ L ↔ v.length = n ∧ Dig k v) (h0 : L ≠ []) : sumN (cnt L) (n + 1) = n + 1 := by
  have : ∀ m, m ≤ n + 1 → sumN (cnt L) m = m := by
    intro m
    induction m with
    | zero => intro _; rfl
    | succ m ih =>
      intro hm
      show sumN (cnt L) m + cnt L m = _
      rw [ih (by omega), cnt_all sL hl mL h0 (by omega)]
  exact this _ (Nat.le_refl _)
/-- another sign -/
theorem other {k : Nat} (hk : 2 ≤ k) (b : Int) : ∃ c : Int, 0 ≤ c ∧ c < k ∧ c ≠ b := by
  by_cases h : b = 0
  · exact ⟨1, by omega, by omega, by omega⟩
  · exact ⟨0, by omega, by omega, fun e => h e.symm⟩
theorem cnt_but {L : List (List Int)} {n k : Nat} {s : List Int} (hk : 2 ≤ k) (sL : Sor L) (hl : ∀ v ∈ L, v.length = n ∧ By v) (hs : s.length = n ∧ Dig k s) (mL : ∀ v, v ∈ L ↔ v.length = n ∧ Dig k v ∧ v ≠ s) {j : Nat} (hj : 0 < j ∧ j < n) : cnt L j = 2 := by
  -- one that begins as s does, and one that doesn't
  have w1 : ∃ v ∈ L, v.take j = s.take j := by
    obtain ⟨c, c0, c1, c2⟩ := other hk (s[n - 1]'(by omega))
    refine ⟨s.set (n - 1) c, (mL _).2 ⟨by simp [hs.1], fun b hb => ?_, fun e => ?_⟩, by rw [List.take_set_of_le (by omega)]⟩
    · rcases List.mem_or_eq_of_mem_set hb with h | h
      · exact hs.2 b h
      · rw [h]; exact ⟨c0, c1⟩
    · have := congrArg (·[n - 1]?) e
      simp only [List.getElem?_set_self (show n - 1 < s.length by omega), List.getElem?_eq_getElem (show n - 1 < s.length by omega), Option.some.injEq] at this
      exact c2 this
  have w2 : ∃ v ∈ L, v.take j ≠ s.take j := by
    obtain ⟨c, c0, c1, c2⟩ := other hk (s[0]'(by omega))
    have ne : (s.set 0 c).take j ≠ s.take j := fun e => by
      have := congrArg (·[0]?) e
      simp only [List.getElem?_take, if_pos hj.1, List.getElem?_set_self (show 0 < s.length by omega), List.getElem?_eq_getElem (show 0 < s.length by omega), Option.some.injEq] at this
      exact c2 this
    refine ⟨s.set 0 c, (mL _).2 ⟨by simp [hs.1], fun b hb => ?_, fun e => ne (by rw [e])⟩, ne⟩
    rcases List.mem_or_eq_of_mem_set hb with h | h
    · exact hs.2 b h
    · rw [h]; exact ⟨c0, c1⟩
  have := img_eq (I := List Int) (fun v => lefts L v j) (fun v => decide (v.take j = s.take j)) L (X := seenL L j L []) (Y := [true, false]) (seenL_nodup .nil) (by simp) (fun x => by rw [seenL_mem]; simp) (fun y => by
    cases y
    · obtain ⟨v, hv, e⟩ := w2
      simp only [List.mem_cons, List.not_mem_nil, or_false, or_true, true_iff]
      exact ⟨v, hv, by simpa using e⟩
    · obtain ⟨v, hv, e⟩ := w1
      simp only [List.mem_cons, List.not_mem_nil, or_false, true_or, true_iff]
      exact ⟨v, hv, by simpa using e⟩) fun v hv v' hv' => by
    have h1 := (mL v).1 hv; have h2 := (mL v').1 hv'
    rw [lefts_iff sL hl (by omega) hv hv', decide_eq_decide]
    have mem : ∀ {v u : List Int}, v.length = n → Dig k v → u.length = n - j → (v.take j ++ u ∈ L ↔ Dig k u ∧ ¬ (v.take j = s.take j ∧ u = s.drop j)) := fun {v u} hv dv hu => by
      rw [mL, Dig.app]
      have e : v.take j ++ u = s ↔ v.take j = s.take j ∧ u = s.drop j := by
        constructor
        · intro e
          have := List.append_inj (e.trans (List.take_append_drop j s).symm) (by simp [hv, hs.1])
          exact this
        · rintro ⟨e1, e2⟩; rw [e1, e2, List.take_append_drop]
      rw [ne_eq, e]
      simp only [List.length_append, List.length_take, hv, hu]
      exact ⟨fun h => ⟨h.2.1.2, h.2.2⟩, fun h => ⟨by omega, ⟨dv.take j, h.1⟩, h.2⟩⟩
    have ls : (s.drop j).length = n - j := by simp [hs.1]
    have ds := hs.2.drop j
    constructor
    · intro h
      have := h (s.drop j) ls
      rw [mem h1.1 h1.2.1 ls, mem h2.1 h2.2.1 ls] at this
      simp only [ds, and_true, true_and] at this
      exact Decidable.not_iff_not.1 this
    · intro h u hu
      rw [mem h1.1 h1.2.1 hu, mem h2.1 h2.2.1 hu, h]
  exact this
theorem but_size {L : List (List Int)} {n k : Nat} {s : List Int} (hk : 2 ≤ k) (hn : 1 < n) (sL : Sor L) (hl : ∀ v ∈ L, v.length = n ∧ By v) (hs : s.length = n ∧ Dig k s) (mL : ∀ v, v ∈ L ↔ v.length = n ∧ Dig k v ∧ v ≠ s) (h0 : L ≠ []) : sumN (cnt L) (n + 1) = 2 * n := by
  have c0 : cnt L 0 = 1 := by
    obtain ⟨t, ht⟩ := List.exists_mem_of_ne_nil _ h0
    exact img_eq (I := List Int) (fun v => lefts L v 0) (fun _ => ()) L (X := seenL L 0 L []) (Y := [()]) (seenL_nodup .nil) (by simp) (fun x => by rw [seenL_mem]; simp) (fun y => by simp; exact ⟨t, ht⟩) fun v hv v' hv' => by simp [lefts]
  have : ∀ m, m + 1 ≤ n → sumN (cnt L) (m + 1) = 2 * m + 1 := by
    intro m
    induction m with
    | zero => intro _; show 0 + cnt L 0 = _; rw [c0]
    | succ m ih =>
      intro hm
      show sumN (cnt L) (m + 1) + cnt L (m + 1) = _
      rw [ih (by omega), cnt_but hk sL hl hs mL (by omega)]; omega
  show sumN (cnt L) n + cnt L n = _
  obtain ⟨m, rfl⟩ : ∃ m, n = m + 1 := ⟨n - 1, by omega⟩
  rw [this m (by omega), cnt_full sL hl h0]; omega
end Df
end Go.Proofs.Ytjappdgehmjomaa
