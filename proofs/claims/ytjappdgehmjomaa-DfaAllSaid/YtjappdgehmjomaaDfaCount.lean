/-
  How many different sets are left, by depth. (own)
-/
import Derived.Test.YtjappdgehmjomaaDfaSize
namespace Go.Proofs.Ytjappdgehmjomaa
namespace Df

def cnt (L : List (List Int)) (k : Nat) : Nat := (seenL L k L []).length
def sumN (f : Nat → Nat) : Nat → Nat
  | 0 => 0
  | n + 1 => sumN f n + f n
open Classical in
theorem size_sum {d : D} {W : Nat} {L : List (List Int)} {A : List Int} (I : Is d W L A) : A.length = sumN (cnt L) (W + 1) := by
  have step : ∀ k, k ≤ W + 1 → (A.filter fun i => decide (∃ j, j < k ∧ j ≤ W ∧ At d.2.1 A (W - j) i)).length = sumN (cnt L) k := by
    intro k
    induction k with
    | zero => intro _; simp [sumN]
    | succ k ih =>
      intro hk
      have hfo := filter_or (l := A) (p := fun i => decide (∃ j, j < k ∧ j ≤ W ∧ At d.2.1 A (W - j) i)) (q := fun i => decide (At d.2.1 A (W - k) i)) (r := fun i => decide (∃ j, j < k + 1 ∧ j ≤ W ∧ At d.2.1 A (W - j) i)) (fun i _ => by
        rw [Bool.eq_iff_iff]
        simp only [decide_eq_true_eq, Bool.or_eq_true]
        constructor
        · rintro ⟨j, h1, h2, h3⟩
          by_cases e : j = k
          · subst e; exact .inr h3
          · exact .inl ⟨j, by omega, h2, h3⟩
        · rintro (⟨j, h1, h2, h3⟩ | h3)
          · exact ⟨j, by omega, h2, h3⟩
          · exact ⟨k, by omega, by omega, h3⟩) (fun i _ => by
        simp only [decide_eq_true_eq]
        rintro ⟨⟨j, h1, h2, h3⟩, h4⟩
        have := h3.uniq h4; omega)
      rw [hfo, ih (by omega), ← depth_ok I (show k + (W - k) = W by omega)]
      rfl
  rw [← step (W + 1) (by omega)]
  congr 1
  symm
  rw [List.filter_eq_self]
  intro i hi
  obtain ⟨h', hW', a⟩ := I.good.inv.good i hi
  simp only [decide_eq_true_eq]
  exact ⟨W - h', by omega, by omega, by rw [show W - (W - h') = h' by omega]; exact a⟩

theorem img_le {α β I : Type} [Inhabited I] (f : I → α) (g : I → β) (l : List I) {X : List α} {Y : List β} (hX : X.Nodup) (mX : ∀ x ∈ X, ∃ i ∈ l, f i = x) (mY : ∀ i ∈ l, g i ∈ Y) (h : ∀ i ∈ l, ∀ j ∈ l, g i = g j → f i = f j) : X.length ≤ Y.length := by
  have ch : ∀ x ∈ X, Classical.epsilon (fun i => i ∈ l ∧ f i = x) ∈ l ∧ f (Classical.epsilon (fun i => i ∈ l ∧ f i = x)) = x := fun x hx => by
    obtain ⟨i, hi, e⟩ := mX x hx
    exact Classical.epsilon_spec (p := fun i => i ∈ l ∧ f i = x) ⟨i, hi, e⟩
  have := len_le (l := X.map fun x => g (Classical.epsilon (fun i => i ∈ l ∧ f i = x))) (m := Y) (List.pairwise_map.2 (List.Pairwise.imp_of_mem (fun {x y} hx hy hne e => hne (by
    have h1 := h _ (ch x hx).1 _ (ch y hy).1 e
    rw [(ch x hx).2, (ch y hy).2] at h1; exact h1)) hX)) (fun y hy => by
    obtain ⟨x, hx, rfl⟩ := List.mem_map.1 hy
    exact mY _ (ch x hx).1)
  simpa using this
theorem img_eq {α β I : Type} [Inhabited I] (f : I → α) (g : I → β) (l : List I) {X : List α} {Y : List β} (hX : X.Nodup) (hY : Y.Nodup) (mX : ∀ x, x ∈ X ↔ ∃ i ∈ l, f i = x) (mY : ∀ y, y ∈ Y ↔ ∃ i ∈ l, g i = y) (h : ∀ i ∈ l, ∀ j ∈ l, f i = f j ↔ g i = g j) : X.length = Y.length :=
  Nat.le_antisymm (img_le f g l hX (fun x hx => (mX x).1 hx) (fun i hi => (mY _).2 ⟨i, hi, rfl⟩) fun i hi j hj => (h i hi j hj).2)
    (img_le g f l hY (fun x hx => (mY x).1 hx) (fun i hi => (mX _).2 ⟨i, hi, rfl⟩) fun i hi j hj => (h i hi j hj).1)

theorem ltw_app : ∀ (p : List Int) {x y : List Int}, ltw (p ++ x) (p ++ y) = ltw x y
  | [], _, _ => rfl
  | b :: p, x, y => by simp [ltw, ltw_app p]
def res (L : List (List Int)) (v : List Int) (k : Nat) : List (List Int) := (L.filter fun x => decide (x.take k = v.take k)).map (·.drop k)
theorem lefts_res (L : List (List Int)) (v : List Int) (k : Nat) : lefts L v k = (res L v k).flatMap strOf := by
  unfold lefts res; rw [List.flatMap_map]
theorem res_mem {L : List (List Int)} {W k : Nat} (hl : ∀ v ∈ L, v.length = W ∧ By v) (hk : k ≤ W) {v u : List Int} (hv : v.length = W) : u ∈ res L v k ↔ u.length = W - k ∧ v.take k ++ u ∈ L := by
  simp only [res, List.mem_map, List.mem_filter, decide_eq_true_eq]
  constructor
  · rintro ⟨x, ⟨hx, ht⟩, rfl⟩
    have := (hl x hx).1
    exact ⟨by simp; omega, by rw [← ht, List.take_append_drop]; exact hx⟩
  · rintro ⟨hu, hm⟩
    have hlen : (v.take k).length = k := by simp; omega
    exact ⟨v.take k ++ u, ⟨hm, by rw [List.take_left' hlen]⟩, by rw [List.drop_left' hlen]⟩
theorem res_sor {L : List (List Int)} (sL : Sor L) (v : List Int) (k : Nat) : Sor (res L v k) := by
  refine List.pairwise_map.2 (List.Pairwise.imp_of_mem ?_ (sL.filter _))
  intro x y hx hy h
  simp only [List.mem_filter, decide_eq_true_eq] at hx hy
  have e1 := List.take_append_drop k x
  have e2 := List.take_append_drop k y
  rw [hx.2] at e1; rw [hy.2] at e2
  rw [← e1, ← e2, ltw_app] at h
  exact h
theorem lefts_iff {L : List (List Int)} {W k : Nat} (sL : Sor L) (hl : ∀ v ∈ L, v.length = W ∧ By v) (hk : k ≤ W) {v v' : List Int} (hv : v ∈ L) (hv' : v' ∈ L) :
    lefts L v k = lefts L v' k ↔ ∀ u, u.length = W - k → (v.take k ++ u ∈ L ↔ v'.take k ++ u ∈ L) := by
  have l1 := hl v hv; have l2 := hl v' hv'
  rw [lefts_res, lefts_res]
  constructor
  · intro e u hu
    by_cases h : k = W
    · have : u = [] := List.length_eq_zero_iff.1 (by omega)
      subst this
      rw [List.append_nil, List.append_nil, List.take_of_length_le (by omega), List.take_of_length_le (by omega)]
      exact ⟨fun _ => hv', fun _ => hv⟩
    · have b : ∀ {x}, x ∈ L → ∀ u ∈ res L x k, u.length = W - k ∧ By u := fun {x} hx u hu => by
        have := (res_mem hl hk (hl x hx).1).1 hu
        exact ⟨this.1, fun b hb => (hl _ this.2).2 b (by simp [hb])⟩
      have e := blocks (by omega) (b hv) (b hv') e
      have h1 := res_mem hl hk l1.1 (u := u)
      have h2 := res_mem hl hk l2.1 (u := u)
      rw [e] at h1
      exact ⟨fun h => (h2.1 (h1.2 ⟨hu, h⟩)).2, fun h => (h1.1 (h2.2 ⟨hu, h⟩)).2⟩
  · intro h
    rw [sor_eq (res_sor sL v k) (res_sor sL v' k) fun u => ?_]
    rw [res_mem hl hk l1.1, res_mem hl hk l2.1]
    exact ⟨fun ⟨a, b⟩ => ⟨a, (h u a).1 b⟩, fun ⟨a, b⟩ => ⟨a, (h u a).2 b⟩⟩

/-! all beginnings with all ends -/
structure Prod (L S T : List (List Int)) (n m : Nat) : Prop where
  sL : Sor L
  sS : Sor S
  sT : Sor T
  lS : ∀ v ∈ S, v.length = n ∧ By v
  lT : ∀ v ∈ T, v.length = m ∧ By v
  lL : ∀ v ∈ L, v.length = n + m ∧ By v
  mem : ∀ v, v ∈ L ↔ v.length = n + m ∧ v.take n ∈ S ∧ v.drop n ∈ T
  nS : S ≠ []
  nT : T ≠ []
variable {L S T : List (List Int)} {n m : Nat}
theorem Prod.app (P : Prod L S T n m) {a b : List Int} (ha : a.length = n) : a ++ b ∈ L ↔ a ∈ S ∧ b ∈ T := by
  rw [P.mem, List.take_left' ha, List.drop_left' ha]
  exact ⟨fun h => h.2, fun h => ⟨by simp [ha, (P.lT b h.2).1], h⟩⟩
theorem Prod.fst (P : Prod L S T n m) {k : Nat} (hk : k ≤ n) : cnt L k = cnt S k := by
  obtain ⟨t, ht⟩ := List.exists_mem_of_ne_nil _ P.nT
  refine img_eq (I := List Int) (fun v => lefts L v k) (fun v => lefts S (v.take n) k) L (seenL_nodup .nil) (seenL_nodup .nil) (fun x => by rw [seenL_mem]; simp) (fun y => ?_) fun v hv v' hv' => ?_
  · rw [seenL_mem]
    simp only [List.not_mem_nil, false_or]
    constructor
    · rintro ⟨a, ha, rfl⟩
      exact ⟨a ++ t, (P.app (P.lS a ha).1).2 ⟨ha, ht⟩, by rw [List.take_left' (P.lS a ha).1]⟩
    · rintro ⟨v, hv, rfl⟩
      exact ⟨_, ((P.mem v).1 hv).2.1, rfl⟩
  · have h1 := (P.mem v).1 hv; have h2 := (P.mem v').1 hv'
    rw [lefts_iff P.sL P.lL (by omega) hv hv', lefts_iff P.sS P.lS hk h1.2.1 h2.2.1]
    have tk : ∀ v : List Int, (v.take n).take k = v.take k := fun v => by rw [List.take_take, Nat.min_eq_left hk]
    rw [tk, tk]
    have lk : ∀ {v : List Int}, v.length = n + m → (v.take k).length = k := fun h => by simp; omega
    constructor
    · intro h u hu
      have := h (u ++ t) (by simp [hu, (P.lT t ht).1]; omega)
      rw [← List.append_assoc, ← List.append_assoc, P.app (by simp [hu]; omega), P.app (by simp [hu]; omega)] at this
      exact ⟨fun x => (this.1 ⟨x, ht⟩).1, fun x => (this.2 ⟨x, ht⟩).1⟩
    · intro h u hu
      have e := List.take_append_drop (n - k) u
      have hu1 : (u.take (n - k)).length = n - k := by simp; omega
      rw [← e, ← List.append_assoc, ← List.append_assoc, P.app (by simp; omega), P.app (by simp; omega), h _ hu1]
theorem Prod.snd (P : Prod L S T n m) {k : Nat} (hk : k ≤ m) : cnt L (n + k) = cnt T k := by
  obtain ⟨s, hs⟩ := List.exists_mem_of_ne_nil _ P.nS
  refine img_eq (I := List Int) (fun v => lefts L v (n + k)) (fun v => lefts T (v.drop n) k) L (seenL_nodup .nil) (seenL_nodup .nil) (fun x => by rw [seenL_mem]; simp) (fun y => ?_) fun v hv v' hv' => ?_
  · rw [seenL_mem]
    simp only [List.not_mem_nil, false_or]
    constructor
    · rintro ⟨b, hb, rfl⟩
      exact ⟨s ++ b, (P.app (P.lS s hs).1).2 ⟨hs, hb⟩, by rw [List.drop_left' (P.lS s hs).1]⟩
    · rintro ⟨v, hv, rfl⟩
      exact ⟨_, ((P.mem v).1 hv).2.2, rfl⟩
  · have h1 := (P.mem v).1 hv; have h2 := (P.mem v').1 hv'
    rw [lefts_iff P.sL P.lL (by omega) hv hv', lefts_iff P.sT P.lT hk h1.2.2 h2.2.2]
    have key : ∀ {v u : List Int}, v.length = n + m → v.take n ∈ S → u.length = m - k → (v.take (n + k) ++ u ∈ L ↔ (v.drop n).take k ++ u ∈ T) := fun {v u} hv ha hu => by
      rw [List.take_add, List.append_assoc, P.app (by simp; omega)]
      exact ⟨fun h => h.2, fun h => ⟨ha, h⟩⟩
    constructor
    · intro h u hu
      have := h u (by omega)
      rwa [key h1.1 h1.2.1 hu, key h2.1 h2.2.1 hu] at this
    · intro h u hu
      rw [key h1.1 h1.2.1 (by omega), key h2.1 h2.2.1 (by omega)]
      exact h u (by omega)
/-- of all of a word one thing is left -/
theorem cnt_full {L : List (List Int)} {W : Nat} (sL : Sor L) (hl : ∀ v ∈ L, v.length = W ∧ By v) (h0 : L ≠ []) : cnt L W = 1 := by
  obtain ⟨t, ht⟩ := List.exists_mem_of_ne_nil _ h0
  have := img_eq (I := List Int) (fun v => lefts L v W) (fun _ => ()) L (X := seenL L W L []) (Y := [()]) (seenL_nodup .nil) (by simp) (fun x => by rw [seenL_mem]; simp) (fun y => by simp; exact ⟨t, ht⟩) fun v hv v' hv' => by
    simp only [iff_true]
    rw [lefts_iff sL hl (Nat.le_refl _) hv hv']
    intro u hu
    have : u = [] := List.length_eq_zero_iff.1 (by omega)
    subst this
    rw [List.append_nil, List.append_nil, List.take_of_length_le (by rw [(hl v hv).1]; omega), List.take_of_length_le (by rw [(hl v' hv').1]; omega)]
    exact ⟨fun _ => hv', fun _ => hv⟩
  exact this
theorem sumN_congr {f g : Nat → Nat} : ∀ {n : Nat}, (∀ k, k < n → f k = g k) → sumN f n = sumN g n
  | 0, _ => rfl
  | n + 1, h => by unfold sumN; rw [sumN_congr fun k hk => h k (by omega), h n (by omega)]
theorem sumN_add (f : Nat → Nat) (a : Nat) : ∀ b, sumN f (a + b) = sumN f a + sumN (fun k => f (a + k)) b
  | 0 => rfl
  | b + 1 => by
    show sumN f (a + b) + f (a + b) = _
    rw [sumN_add f a b]
    show _ = sumN f a + (sumN (fun k => f (a + k)) b + f (a + b))
    omega
/-- the size of all beginnings with all ends -/
theorem Prod.size (P : Prod L S T n m) : sumN (cnt L) (n + m + 1) + 1 = sumN (cnt S) (n + 1) + sumN (cnt T) (m + 1) := by
  rw [Nat.add_assoc, sumN_add, sumN_congr (g := cnt S) fun k hk => P.fst (by omega), sumN_congr (g := cnt T) (n := m + 1) fun k hk => P.snd (by omega)]
  have : sumN (cnt S) (n + 1) = sumN (cnt S) n + 1 := by
    show sumN (cnt S) n + cnt S n = _
    rw [cnt_full P.sS P.lS P.nS]
  omega
end Df
end Go.Proofs.Ytjappdgehmjomaa
