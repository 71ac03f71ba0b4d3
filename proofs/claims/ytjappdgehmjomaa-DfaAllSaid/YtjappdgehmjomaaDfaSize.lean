/-
  The size of an automaton is how many different sets are left. (own)
-/
import Derived.Test.YtjappdgehmjomaaDfaOldP
namespace Go.Proofs.Ytjappdgehmjomaa
namespace Df

theorem size_ok {d : D} {W m : Nat} {A : List Int} (G : Good d W m A) : dfa_Size d = some (A.length : Int) := by
  have I := G.inv
  have hnd := I.nd; have hr := I.rng
  simp only [List.append_nil] at hnd hr
  have h := len_eq hnd (m := (List.range d.2.1.length).map Int.ofNat) (List.pairwise_map.2 (List.nodup_range.imp fun {a b} h e => h (by have := Int.ofNat.inj e; exact this))) fun x => by
    rw [hr x]
    constructor
    · intro h; exact List.mem_map.2 ⟨x.toNat, by simp; omega, by simp; omega⟩
    · intro h
      obtain ⟨k, hk, rfl⟩ := List.mem_map.1 h
      simp at hk ⊢; omega
  simp only [List.length_append, List.length_map, List.length_range] at h
  have := G.long; have := G.m4
  unfold dfa_Size
  rw [w64 (by omega)]
  congr 1; omega

/-! what is left -/
def lefts (L : List (List Int)) (w : List Int) (k : Nat) : Str := (L.filter fun v => decide (v.take k = w.take k)).flatMap fun v => strOf (v.drop k)
theorem By.take {v : List Int} (h : By v) (k : Nat) : By (v.take k) := fun b hb => h b (List.mem_of_mem_take hb)
theorem lefts_len {W : Nat} : ∀ {L : List (List Int)} {w : List Int} {k : Nat}, (∀ v ∈ L, v.length = W) → (lefts L w k).length ≤ L.length * W
  | [], _, _, _ => by simp [lefts]
  | v :: L, w, k, h => by
    have ih := lefts_len (W := W) (L := L) (w := w) (k := k) fun u hu => h u (by simp [hu])
    have hv := h v (by simp)
    unfold lefts at ih ⊢
    rw [List.filter_cons, List.length_cons, Nat.add_mul, Nat.one_mul]
    split
    · rw [List.flatMap_cons, List.length_append]
      have : (strOf (v.drop k)).length ≤ W := by simp [strOf]; omega
      omega
    · omega
theorem lefts_snoc {p : List (List Int)} {v w : List Int} {k : Nat} : lefts (p ++ [v]) w k = if v.take k = w.take k then lefts p w k ++ strOf (v.drop k) else lefts p w k := by
  unfold lefts
  rw [List.filter_append]
  by_cases h : v.take k = w.take k <;> simp [h]
theorem left_loop {L : List (List Int)} {W k : Nat} {w : List Int} (hL : L.length < 100) (hW : W ≤ 64) (hl : ∀ v ∈ L, v.length = W ∧ By v) (hw : w.length = W ∧ By w) (hk : k ≤ W) (s1 : Int) : ∀ (q p : List (List Int)), L = p ++ q → ∀ n, q.length < n →
    fixN (scrutinyref09_left_L1 (s1, L) w (k : Int)) n (lefts p w k, (p.length : Int)) = some (lefts L w k)
  | [], p, h, n, hn => by
    obtain ⟨n, rfl⟩ : ∃ k, n = k + 1 := ⟨n - 1, by simp at hn; omega⟩
    rw [fixN_succ]
    generalize fixN (scrutinyref09_left_L1 (s1, L) w (k : Int)) n = g
    unfold scrutinyref09_left_L1
    dsimp only
    rw [lt_f h, cond_false, show L = p by simpa using h]
  | v :: q, p, h, n, hn => by
    obtain ⟨n, rfl⟩ : ∃ k, n = k + 1 := ⟨n - 1, by simp at hn; omega⟩
    rw [fixN_succ]
    have ih := left_loop hL hW hl hw hk s1 q (p ++ [v]) (by rw [h]; simp) n (by simp at hn; omega)
    have hp : p.length + 1 < 101 := by rw [h] at hL; simp at hL; omega
    have hv := hl v (by rw [h]; simp)
    have hb := lefts_len (W := W) (L := p) (w := w) (k := k) fun u hu => (hl u (by rw [h]; simp [hu])).1
    have hb2 : p.length * W ≤ 100 * 64 := Nat.mul_le_mul (by omega) hW
    generalize fixN (scrutinyref09_left_L1 (s1, L) w (k : Int)) n = g at ih ⊢
    rw [show ((p ++ [v]).length : Int) = ((p.length + 1 : Nat) : Int) by simp, lefts_snoc] at ih
    have c1 : cutL v 0 (k : Int) = v.take k := by simp [cutL]
    have c2 : cutL w 0 (k : Int) = w.take k := by simp [cutL]
    have c3 : cutL v (k : Int) ((List.length v : Nat) : Int) = v.drop k := by
      simp only [cutL, Int.toNat_natCast]
      rw [List.take_of_length_le (by simp)]
    unfold scrutinyref09_left_L1
    dsimp only
    rw [lt_t h, cond_true, idx_mid h]
    simp only [bind_s]
    rw [cutB_iff.2 (by omega), chk_t, cutB_iff.2 (by omega), chk_t, c1, c2, strOf_eq (hv.2.take k) (hw.2.take k), next_ix (by omega), cutB_iff.2 (by omega), chk_t, c3]
    by_cases e : v.take k = w.take k
    · rw [if_pos e] at ih
      rw [show decide (v.take k = w.take k) = true by simpa using e, cond_true]
      have hc : catB (lefts p w k) (strOf (v.drop k)) = true := by
        unfold catB
        exact Nat.ble_eq_true_of_le (by simp [strOf]; omega)
      rw [hc, chk_t]
      exact ih
    · rw [if_neg e] at ih
      rw [show decide (v.take k = w.take k) = false by simpa using e, cond_false]
      exact ih
theorem left_ok {L : List (List Int)} {W k : Nat} {w : List Int} (hL : L.length < 100) (hW : W ≤ 64) (hl : ∀ v ∈ L, v.length = W ∧ By v) (hw : w.length = W ∧ By w) (hk : k ≤ W) (s1 : Int) : scrutinyref09_left (s1, L) w (k : Int) = some (lefts L w k) := by
  have h := left_loop hL hW hl hw hk s1 L [] rfl FUEL (fuel_lt (by omega))
  rw [show lefts [] w k = [] from rfl, show ((List.length ([] : List (List Int)) : Nat) : Int) = 0 from rfl] at h
  unfold scrutinyref09_left
  rw [h]

/-! different ones -/
def addU (s : List Str) (r : Str) : List Str := if r ∈ s then s else s ++ [r]
theorem addU_mem {s : List Str} {r x : Str} : x ∈ addU s r ↔ x ∈ s ∨ x = r := by
  unfold addU; split
  · rename_i h; constructor
    · exact .inl
    · rintro (h' | h')
      · exact h'
      · rw [h']; exact h
  · simp
theorem addU_nodup {s : List Str} {r : Str} (h : s.Nodup) : (addU s r).Nodup := by
  unfold addU; split
  · exact h
  · rename_i hn
    refine List.nodup_append.2 ⟨h, by simp, fun a ha b hb e => ?_⟩
    simp at hb; subst hb; subst e; exact hn ha
theorem addU_len {s : List Str} {r : Str} : (addU s r).length ≤ s.length + 1 := by unfold addU; split <;> simp
theorem seen_loop {seen : List Str} {i : Int} {ag : (List Str × Int) → Option Int} {r : Str} (hs : seen.length < 100) : ∀ (q p : List Str), seen = p ++ q → ∀ n, q.length < n →
    fixN (scrutinyref09_Size_L3 seen i ag r) n (decide (r ∈ p), (p.length : Int)) = ag (addU seen r, IntKind.i64.wrap (i + 1))
  | [], p, h, n, hn => by
    obtain ⟨n, rfl⟩ : ∃ k, n = k + 1 := ⟨n - 1, by simp at hn; omega⟩
    rw [fixN_succ]
    generalize fixN (scrutinyref09_Size_L3 seen i ag r) n = g
    unfold scrutinyref09_Size_L3 addU
    dsimp only
    have e : seen = p := by simpa using h
    rw [lt_f h, cond_false, e]
    by_cases hm : r ∈ p
    · simp [hm]
    · simp only [hm, decide_false, Bool.not_false, cond_true, if_false]
      rw [room_t (by rw [← e]; simp; omega) (by rw [← e]; simp; omega), chk_t]
  | v :: q, p, h, n, hn => by
    obtain ⟨n, rfl⟩ : ∃ k, n = k + 1 := ⟨n - 1, by simp at hn; omega⟩
    rw [fixN_succ]
    have ih := seen_loop (i := i) (ag := ag) (r := r) hs q (p ++ [v]) (by rw [h]; simp) n (by simp at hn; omega)
    have hp : p.length < 100 := by rw [h] at hs; simp at hs; omega
    generalize fixN (scrutinyref09_Size_L3 seen i ag r) n = g at ih ⊢
    rw [show ((p ++ [v]).length : Int) = ((p.length + 1 : Nat) : Int) by simp] at ih
    unfold scrutinyref09_Size_L3
    dsimp only
    rw [lt_t h, cond_true, next_ix (by omega)]
    by_cases hm : r ∈ p
    · rw [show decide (r ∈ p ++ [v]) = true by simp [hm]] at ih
      rw [show decide (r ∈ p) = true by simp [hm]]
      simp only [Bool.not_true, callG_ff, letv_e, Bool.true_or]
      exact ih
    · rw [show decide (r ∈ p) = false by simp [hm]]
      simp only [Bool.not_false, callG_tt, letv_e, Bool.false_or]
      rw [idx_mid h]
      simp only [bind_s]
      rw [show (v == r) = decide (r ∈ p ++ [v]) by rw [Bool.eq_iff_iff, beq_iff_eq, decide_eq_true_eq]; simp [hm, eq_comm]]
      exact ih
def seenL (L : List (List Int)) (k : Nat) : List (List Int) → List Str → List Str
  | [], s => s
  | v :: q, s => seenL L k q (addU s (lefts L v k))
theorem seenL_mem {L : List (List Int)} {k : Nat} {x : Str} : ∀ {q : List (List Int)} {s : List Str}, x ∈ seenL L k q s ↔ x ∈ s ∨ ∃ v ∈ q, lefts L v k = x
  | [], s => by simp [seenL]
  | v :: q, s => by
    unfold seenL
    rw [seenL_mem, addU_mem]
    constructor
    · rintro ((h | h) | ⟨u, hu, h⟩)
      · exact .inl h
      · exact .inr ⟨v, by simp, h.symm⟩
      · exact .inr ⟨u, by simp [hu], h⟩
    · rintro (h | ⟨u, hu, h⟩)
      · exact .inl (.inl h)
      · rcases List.mem_cons.1 hu with e | hu
        · subst e; exact .inl (.inr h.symm)
        · exact .inr ⟨u, hu, h⟩
theorem seenL_nodup {L : List (List Int)} {k : Nat} : ∀ {q : List (List Int)} {s : List Str}, s.Nodup → (seenL L k q s).Nodup
  | [], _, h => h
  | v :: q, s, h => by
    unfold seenL
    exact seenL_nodup (addU_nodup h)
theorem seenL_len {L : List (List Int)} {k : Nat} : ∀ {q : List (List Int)} {s : List Str}, (seenL L k q s).length ≤ s.length + q.length
  | [], s => by simp [seenL]
  | v :: q, s => by
    unfold seenL
    have := seenL_len (L := L) (k := k) (q := q) (s := addU s (lefts L v k))
    have := addU_len (s := s) (r := lefts L v k)
    simp; omega
theorem lens_loop {L : List (List Int)} {W k : Nat} {n6 : Int} {ag : (Int × Int) → Option Int} (hL : L.length < 100) (hW : W ≤ 64) (hl : ∀ v ∈ L, v.length = W ∧ By v) (hk : k ≤ W) (s1 : Int) : ∀ (q p : List (List Int)), L = p ++ q → ∀ (s : List Str), s.length ≤ p.length → ∀ n, q.length < n →
    fixN (scrutinyref09_Size_L2 (s1, L) n6 (k : Int) ag) n (s, (p.length : Int)) = ag (IntKind.i64.wrap (n6 + ((seenL L k q s).length : Int)), IntKind.i64.wrap ((k : Int) + 1))
  | [], p, h, s, hs, n, hn => by
    obtain ⟨n, rfl⟩ : ∃ k, n = k + 1 := ⟨n - 1, by simp at hn; omega⟩
    rw [fixN_succ]
    generalize fixN (scrutinyref09_Size_L2 (s1, L) n6 (k : Int) ag) n = g
    unfold scrutinyref09_Size_L2
    dsimp only
    rw [lt_f h, cond_false]
    rfl
  | v :: q, p, h, s, hs, n, hn => by
    obtain ⟨n, rfl⟩ : ∃ k, n = k + 1 := ⟨n - 1, by simp at hn; omega⟩
    rw [fixN_succ]
    have hp : p.length < 100 := by rw [h] at hL; simp at hL; omega
    have hv := hl v (by rw [h]; simp)
    have := addU_len (s := s) (r := lefts L v k)
    have ih := lens_loop (n6 := n6) (ag := ag) hL hW hl hk s1 q (p ++ [v]) (by rw [h]; simp) (addU s (lefts L v k)) (by simp; omega) n (by simp at hn; omega)
    generalize fixN (scrutinyref09_Size_L2 (s1, L) n6 (k : Int) ag) n = g at ih ⊢
    rw [show ((p ++ [v]).length : Int) = ((p.length + 1 : Nat) : Int) by simp] at ih
    have hsl := seen_loop (i := (p.length : Int)) (ag := g) (r := lefts L v k) (show s.length < 100 by omega) s [] rfl FUEL (fuel_lt (by omega))
    rw [show decide (lefts L v k ∈ ([] : List Str)) = false by simp, show ((List.length ([] : List Str) : Nat) : Int) = 0 from rfl, next_ix (by omega), ih] at hsl
    unfold scrutinyref09_Size_L2
    dsimp only
    rw [lt_t h, cond_true, idx_mid h]
    simp only [bind_s]
    rw [left_ok hL hW hl hv hk]
    simp only [bind_s]
    rw [hsl]
    rfl

/-! nodes and what is left -/
theorem wd_by {N : List Nd} {A : List Int} : ∀ {h : Nat} {i : Int}, At N A h i → ∀ v ∈ wd N h i, v.length = h ∧ By v
  | 0, _, _, v, hv => by simp [wd] at hv; subst hv; simp [By]
  | h + 1, i, a, v, hv => by
    simp only [wd, List.mem_flatMap, List.mem_map] at hv
    obtain ⟨e, he, u, hu, rfl⟩ := hv
    have := wd_by (a.2.2.2 e he) u hu
    refine ⟨by simp [this.1], fun b hb => ?_⟩
    rcases List.mem_cons.1 hb with rfl | hb
    · exact a.2.2.1.2 e he
    · exact this.2 b hb
def phi (N : List Nd) (h : Nat) (i : Int) : Str := (wd N h i).flatMap strOf
theorem blocks {h : Nat} (h0 : 0 < h) : ∀ {l m : List (List Int)}, (∀ v ∈ l, v.length = h ∧ By v) → (∀ v ∈ m, v.length = h ∧ By v) → l.flatMap strOf = m.flatMap strOf → l = m
  | [], [], _, _, _ => rfl
  | [], v :: m, _, hm, e => by
    have := congrArg List.length e
    have hv := (hm v (by simp)).1
    simp only [List.flatMap_nil, List.flatMap_cons, List.length_nil, List.length_append, strOf, List.length_map] at this; omega
  | v :: l, [], hl, _, e => by
    have := congrArg List.length e
    have hv := (hl v (by simp)).1
    simp only [List.flatMap_nil, List.flatMap_cons, List.length_nil, List.length_append, strOf, List.length_map] at this; omega
  | v :: l, u :: m, hl, hm, e => by
    rw [List.flatMap_cons, List.flatMap_cons] at e
    have hv := hl v (by simp); have hu := hm u (by simp)
    obtain ⟨e1, e2⟩ := List.append_inj e (by simp [strOf, hv.1, hu.1])
    rw [strOf_inj hv.2 hu.2 e1, blocks h0 (fun x hx => hl x (by simp [hx])) (fun x hx => hm x (by simp [hx])) e2]
theorem phi_inj {N : List Nd} {A : List Int} (hd : ∀ i ∈ A, ∀ j ∈ A, nx N i = nx N j → i = j) {h : Nat} {i j : Int} (a : At N A h i) (b : At N A h j) (e : phi N h i = phi N h j) : i = j := by
  refine At.inj hd a b fun w hw => ?_
  cases h with
  | zero =>
    have : w = [] := List.length_eq_zero_iff.1 hw
    subst this; simp [acc]
  | succ h =>
    have e := blocks (by omega) (wd_by a) (wd_by b) e
    have h1 := wd_mem (N := N) (h := h + 1) (i := i) (v := w)
    have h2 := wd_mem (N := N) (h := h + 1) (i := j) (v := w)
    rw [e] at h1
    exact ⟨fun x => (h2.1 (h1.2 ⟨hw, x⟩)).2, fun x => (h1.1 (h2.2 ⟨hw, x⟩)).2⟩
/-- a beginning of a word leads to a node -/
theorem reach {N : List Nd} {A : List Int} {h : Nat} : ∀ {p : List Int} {i : Int} {u : List Int}, At N A (p.length + h) i → u.length = h → acc N (p ++ u) i → ∃ j, At N A h j ∧ ∀ u, acc N (p ++ u) i ↔ acc N u j
  | [], i, u, a, _, _ => ⟨i, by simpa using a, fun u => Iff.rfl⟩
  | b :: p, i, u, a, hu, ha => by
    have a : At N A ((p.length + h) + 1) i := by
      rw [show p.length + h + 1 = (b :: p).length + h by simp; omega]; exact a
    obtain ⟨e, he, heb, hacc⟩ := ha
    obtain ⟨j, aj, hj⟩ := reach (a.2.2.2 e he) hu hacc
    exact ⟨j, aj, fun u => by
      rw [List.cons_append, acc_cons a.2.2.1 he heb]; exact hj u⟩
/-- each live node is reached by a beginning of a word -/
theorem reached {N : List Nd} {F A : List Int} {W : Nat} {root : Int} (I : Inv N F [] A [root] [] W) (ar : At N A W root) : ∀ {k h : Nat} {i : Int}, k + h = W → At N A h i → ∃ p : List Int, p.length = k ∧ ∀ u, acc N (p ++ u) root ↔ acc N u i := by
  have led : ∀ i ∈ A, i = root ∨ ∃ j ∈ A, i ∈ tg N j := fun i hi => by
    have h0 : rf N i ≠ 0 := fun h => by have := I.top i hi h; cases this
    rw [I.cnt] at h0
    have : 0 < (A.flatMap (tg N) ++ [root]).count i := by omega
    have := List.count_pos_iff.1 this
    simp only [List.mem_append, List.mem_flatMap, List.mem_singleton] at this
    rcases this with h | h
    · exact .inr h
    · exact .inl h
  intro k
  induction k with
  | zero =>
    intro h i hk a
    have : h = W := by omega
    subst this
    rcases led i a.mem with rfl | ⟨j, hj, ht⟩
    · exact ⟨[], rfl, fun u => Iff.rfl⟩
    · obtain ⟨e, he, rfl⟩ := List.mem_map.1 ht
      obtain ⟨h', hW, b⟩ := I.good j hj
      cases h' with
      | zero => rw [b.2] at he; cases he
      | succ h' => have := (b.2.2.2 e he).uniq a; omega
  | succ k ih =>
    intro h i hk a
    rcases led i a.mem with rfl | ⟨j, hj, ht⟩
    · have := a.uniq ar; omega
    · obtain ⟨e, he, rfl⟩ := List.mem_map.1 ht
      obtain ⟨h', hW, b⟩ := I.good j hj
      cases h' with
      | zero => rw [b.2] at he; cases he
      | succ h' =>
        have : h' = h := (b.2.2.2 e he).uniq a
        subst this
        obtain ⟨p, hp, hq⟩ := ih (by omega) b
        exact ⟨p ++ [e.1], by simp [hp], fun u => by
          rw [List.append_assoc, hq, List.singleton_append, acc_cons b.2.2.1 he rfl]⟩
theorem lefts_node {d : D} {W : Nat} {L : List (List Int)} {A : List Int} (I : Is d W L A) (h0 : d.2.2.1 ≠ -1) {k h : Nat} (hk : k + h = W) {p : List Int} (hp : p.length = k) {j : Int} (a : At d.2.1 A h j) (hq : ∀ u, acc d.2.1 (p ++ u) d.2.2.1 ↔ acc d.2.1 u j) {v : List Int} (hv : v.take k = p) :
    lefts L v k = phi d.2.1 h j := by
  have key : L.filter (fun x => decide (x.take k = v.take k)) = (Df.wd d.2.1 h j).map (p ++ ·) := by
    refine sor_eq (I.sor.filter _) (List.pairwise_map.2 ((wd_sor a).imp ?_)) fun x => ?_
    · intro x y hxy
      have : ∀ p : List Int, ltw (p ++ x) (p ++ y) = true := by
        intro p
        induction p with
        | nil => exact hxy
        | cons b p ih => simp [ltw, ih]
      exact this p
    · simp only [List.mem_filter, decide_eq_true_eq, List.mem_map, hv]
      constructor
      · rintro ⟨hx, ht⟩
        have hl := (I.len x hx).1
        have ha := ((I.mem x hl).2 hx).2
        have e : p ++ x.drop k = x := by rw [← ht]; exact List.take_append_drop k x
        refine ⟨x.drop k, wd_mem.2 ⟨by simp; omega, ?_⟩, e⟩
        rw [← hq, e]; exact ha
      · rintro ⟨u, hu, rfl⟩
        have hu := wd_mem.1 hu
        have hl : (p ++ u).length = W := by simp [hu.1]; omega
        exact ⟨(I.mem _ hl).1 ⟨h0, (hq u).2 hu.2⟩, by rw [← hp]; simp⟩
  unfold lefts phi
  rw [key, List.flatMap_map]
  congr 1
  funext u
  rw [← hp]; simp
open Classical in
theorem depth_ok {d : D} {W : Nat} {L : List (List Int)} {A : List Int} (I : Is d W L A) {k h : Nat} (hk : k + h = W) : (seenL L k L []).length = (A.filter fun i => decide (At d.2.1 A h i)).length := by
  by_cases h0 : d.2.2.1 = -1
  · have hA : A = [] := by
      rcases I.good.root with h | h
      · exact h.2
      · have := I.good.inv.range h.mem; omega
    rw [I.empty h0, hA]; rfl
  · have ar := I.good.root.resolve_left fun h => h0 h.1
    have inv := I.good.inv
    rw [if_neg h0] at inv
    have ndA : A.Nodup := (List.nodup_append.1 (List.nodup_append.1 inv.nd).1).1
    have e := len_eq (l := seenL L k L []) (m := (A.filter fun i => decide (At d.2.1 A h i)).map (phi d.2.1 h)) (seenL_nodup .nil) ?_ ?_
    · rw [e, List.length_map]
    · refine List.pairwise_map.2 ?_
      have := (ndA.filter (fun i => decide (At d.2.1 A h i)))
      refine List.Pairwise.imp_of_mem ?_ this
      intro x y hx hy hne e
      simp only [List.mem_filter, decide_eq_true_eq] at hx hy
      exact hne (phi_inj inv.dist hx.2 hy.2 e)
    · intro x
      rw [seenL_mem]
      simp only [List.not_mem_nil, false_or, List.mem_map, List.mem_filter, decide_eq_true_eq]
      constructor
      · rintro ⟨v, hv, rfl⟩
        have hl := (I.len v hv).1
        have ha := ((I.mem v hl).2 hv).2
        have e := List.take_append_drop k v
        have htk : (v.take k).length = k := by simp; omega
        obtain ⟨j, aj, hj⟩ := reach (N := d.2.1) (A := A) (h := h) (p := v.take k) (i := d.2.2.1) (u := v.drop k) (by rw [htk, hk]; exact ar) (by simp; omega) (by rw [e]; exact ha)
        exact ⟨j, ⟨aj.mem, aj⟩, (lefts_node I h0 hk htk aj hj rfl).symm⟩
      · rintro ⟨i, ⟨_, a⟩, rfl⟩
        obtain ⟨p, hp, hq⟩ := reached inv ar hk a
        obtain ⟨u, hu, hacc⟩ := a.some
        have hl : (p ++ u).length = W := by simp; omega
        have hm := (I.mem (p ++ u) hl).1 ⟨h0, (hq u).2 hacc⟩
        exact ⟨p ++ u, hm, lefts_node I h0 hk hp a hq (by rw [← hp]; simp)⟩
theorem filter_or {α : Type} {p q r : α → Bool} : ∀ {l : List α}, (∀ x ∈ l, r x = (p x || q x)) → (∀ x ∈ l, ¬ (p x = true ∧ q x = true)) → (l.filter r).length = (l.filter p).length + (l.filter q).length
  | [], _, _ => rfl
  | x :: l, h1, h2 => by
    have ih := filter_or (l := l) (fun y hy => h1 y (by simp [hy])) (fun y hy => h2 y (by simp [hy]))
    have a := h1 x (by simp); have b := h2 x (by simp)
    cases hp : p x <;> cases hq : q x <;> simp_all <;> omega
open Classical in
theorem refsize_loop {d : D} {W : Nat} {L : List (List Int)} {A : List Int} (I : Is d W L A) (hL : L.length < 100) : ∀ (n k : Nat), k ≤ W + 1 → W + 1 - k < n →
    fixN (scrutinyref09_Size_L1 ((W : Int), L)) n (((A.filter fun i => decide (∃ j, j < k ∧ j ≤ W ∧ At d.2.1 A (W - j) i)).length : Int), (k : Int)) = some (A.length : Int)
  | 0, _, _, h => by omega
  | n + 1, k, hk, hn => by
    rw [fixN_succ]
    have hW := I.good.w1
    have ih := refsize_loop I hL n (k + 1)
    have hAl : A.length ≤ 300000 := by
      have := I.good.long; have := I.good.m4
      have hnd := (List.nodup_append.1 (List.nodup_append.1 I.good.inv.nd).1).1
      have := len_le hnd (m := (List.range d.2.1.length).map Int.ofNat) fun x hx => by
        have := I.good.inv.range hx
        exact List.mem_map.2 ⟨x.toNat, by simp; omega, by simp; omega⟩
      simp at this; omega
    have hfl : (A.filter fun i => decide (∃ j, j < k ∧ j ≤ W ∧ At d.2.1 A (W - j) i)).length ≤ A.length := List.length_filter_le _ _
    generalize hg : fixN (scrutinyref09_Size_L1 ((W : Int), L)) n = g at ih ⊢
    unfold scrutinyref09_Size_L1
    dsimp only
    by_cases h : k ≤ W
    · rw [show decide ((k : Int) ≤ (W : Int)) = true by simpa using h, cond_true]
      have hll := lens_loop (n6 := ((A.filter fun i => decide (∃ j, j < k ∧ j ≤ W ∧ At d.2.1 A (W - j) i)).length : Int)) (ag := g) hL hW.2 (fun v hv => I.len v hv) h (W : Int) L [] rfl [] (by simp) FUEL (fuel_lt (by omega))
      rw [show ((List.length ([] : List (List Int)) : Nat) : Int) = 0 from rfl] at hll
      rw [hll, depth_ok I (show k + (W - k) = W by omega)]
      have hfo := filter_or (l := A) (p := fun i => decide (∃ j, j < k ∧ j ≤ W ∧ At d.2.1 A (W - j) i)) (q := fun i => decide (At d.2.1 A (W - k) i)) (r := fun i => decide (∃ j, j < k + 1 ∧ j ≤ W ∧ At d.2.1 A (W - j) i)) (fun i _ => by
        rw [Bool.eq_iff_iff]
        simp only [decide_eq_true_eq, Bool.or_eq_true]
        constructor
        · rintro ⟨j, h1, h2, h3⟩
          by_cases e : j = k
          · subst e; exact .inr h3
          · exact .inl ⟨j, by omega, h2, h3⟩
        · rintro (⟨j, h1, h2, h3⟩ | h3)
          · exact ⟨j, by omega, h2, h3⟩
          · exact ⟨k, by omega, h, h3⟩) (fun i _ => by
        simp only [decide_eq_true_eq]
        rintro ⟨⟨j, h1, h2, h3⟩, h4⟩
        have := h3.uniq h4; omega)
      have hfl2 : (A.filter fun i => decide (At d.2.1 A (W - k) i)).length ≤ A.length := List.length_filter_le _ _
      rw [w64 (by omega), next_ix (by omega)]
      rw [show ∀ a b : Nat, (a : Int) + (b : Int) = ((a + b : Nat) : Int) from fun a b => by omega, ← hfo]
      exact ih (by omega) (by omega)
    · rw [show decide ((k : Int) ≤ (W : Int)) = false by simpa using h, cond_false]
      congr 2
      rw [List.filter_eq_self.2]
      intro i hi
      obtain ⟨h', hW', a⟩ := I.good.inv.good i hi
      simp only [decide_eq_true_eq]
      exact ⟨W - h', by omega, by omega, by rw [show W - (W - h') = h' by omega]; exact a⟩
open Classical in
theorem refsize_ok {d : D} {W : Nat} {L : List (List Int)} {A : List Int} (I : Is d W L A) (hL : L.length < 100) : scrutinyref09_Size ((W : Int), L) = some (A.length : Int) := by
  have hW := I.good.w1
  have h := refsize_loop I hL FUEL 0 (by omega) (fuel_lt (by omega))
  have e : (A.filter fun i => decide (∃ j, j < 0 ∧ j ≤ W ∧ At d.2.1 A (W - j) i)).length = 0 := by simp
  rw [e] at h
  unfold scrutinyref09_Size
  rw [show (0 : Int) = ((0 : Nat) : Int) from rfl, h]
end Df
end Go.Proofs.Ytjappdgehmjomaa
