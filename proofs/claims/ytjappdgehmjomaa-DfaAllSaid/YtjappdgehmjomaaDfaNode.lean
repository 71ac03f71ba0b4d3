/-
  A node of these edges: the same, or a new one. (own)
-/
import Derived.Test.YtjappdgehmjomaaDfaFind
namespace Go.Proofs.Ytjappdgehmjomaa
namespace Df

theorem rise_len {l : List (Int × Int)} (h : Rise l) : l.length ≤ 256 := by
  have h1 : (l.map (·.1)).Nodup := by
    refine List.pairwise_map.2 (h.1.imp ?_)
    intro a b h; omega
  have := len_le h1 (m := (List.range 256).map Int.ofNat) fun x hx => by
    obtain ⟨e, he, rfl⟩ := List.mem_map.1 hx
    have := h.2 e he
    exact List.mem_map.2 ⟨e.1.toNat, by simp; omega, by simp; omega⟩
  simpa using this
theorem mget_mset {l : List (Int × Bool)} {r i : Int} : mget (mset l r true) i = if i = r then some true else mget l i := by
  induction l with
  | nil =>
    by_cases h : i = r
    · subst h; simp [mset, mget]
    · simp [mset, mget, h, show (i == r) = false by simpa using h]
  | cons p l ih =>
    unfold mset
    by_cases h : r = p.1
    · subst h
      simp only [beq_self_eq_true, cond_true]
      by_cases h' : i = p.1
      · subst h'; simp [mget]
      · simp [mget, h', show (i == p.1) = false by simpa using h']
    · simp only [show (r == p.1) = false by simpa using h, cond_false]
      by_cases h' : i = p.1
      · subst h'; simp [mget, Ne.symm h]
      · simp only [mget, show (i == p.1) = false by simpa using h', cond_false, ih]
theorem mgetD_mset {l : List (Int × Bool)} {r i : Int} : mgetD (some (mset l r true)) i false = true ↔ i = r ∨ mgetD (some l) i false = true := by
  unfold mgetD
  simp only [Option.getD_some, mget_mset]
  by_cases h : i = r <;> simp [h]

theorem fresh_ok {N : List Nd} {F A X T : List Int} {W : Nat} (I : Inv N F [] A X T W) (hN : N.length < 1048575) (wi ro ma : Int) (y : Option (List (Int × Bool))) :
    ∃ i N1 F1, dfa_work_fresh wi N ro ma F y = some (i, N1, F1) ∧ (i :: (A ++ F1)).Nodup ∧ (∀ j, j ∈ i :: (A ++ F1) ↔ 0 ≤ j ∧ j < N1.length) ∧ (∀ j, j ≠ i → nx N1 j = nx N j ∧ rf N1 j = rf N j) ∧ rf N i = 0 ∧ N1.length ≤ N.length + 1 := by
  unfold dfa_work_fresh
  have hnd := I.nd; have hr := I.rng
  simp only [List.append_nil] at hnd hr
  by_cases h0 : F = []
  · subst h0
    simp only [List.append_nil] at hnd hr
    rw [show ((List.length ([] : List Int) : Int) == 0) = true from rfl, cond_true, room_t (by simp; omega) (by simp; omega), chk_t]
    have hn : ((N.length : Nat) : Int) ∉ A := fun h => by have := (hr _).1 h; omega
    refine ⟨(N.length : Nat), N ++ [([], 0)], [], ?_, ?_, ?_, ?_, I.dead _ hn, by simp⟩
    · rw [w64 (by simp; omega)]; simp
    · simp only [List.append_nil]; exact List.nodup_cons.2 ⟨hn, hnd⟩
    · intro j
      simp only [List.append_nil, List.mem_cons, hr j, List.length_append, List.length_cons, List.length_nil]
      omega
    · intro j hj
      have : idx (N ++ [([], 0)]) j = idx N j := by
        unfold idx
        split
        · by_cases h : j.toNat < N.length
          · rw [List.getElem?_append_left h]
          · rw [List.getElem?_eq_none (by simp; omega), List.getElem?_eq_none (by omega)]
        · rfl
      unfold nx rf
      rw [this]; exact ⟨rfl, rfl⟩
  · rw [show ((List.length F : Int) == 0) = false by simpa using h0, cond_false]
    have hF : F.length ≤ N.length := by
      have := len_le (l := F) (List.nodup_append.1 hnd).2.1 (m := (List.range N.length).map Int.ofNat) fun x hx => by
        have := (hr x).1 (by simp [hx])
        exact List.mem_map.2 ⟨x.toNat, by simp; omega, by simp; omega⟩
      simpa using this
    obtain ⟨x, F1, h, p⟩ := pop_ok h0 (by omega)
    rw [h, bind_s]
    have p2 : (x :: (A ++ F1)).Perm (A ++ F) := (List.perm_middle.symm).trans (List.Perm.append_left A p)
    refine ⟨x, N, F1, rfl, p2.nodup_iff.2 hnd, fun j => (p2.mem_iff).trans (hr j), fun _ _ => ⟨rfl, rfl⟩, I.dead x ?_, by omega⟩
    intro hx
    have := (List.nodup_cons.1 (p2.nodup_iff.2 hnd)).1
    exact this (by simp [hx])

/-- each end of an edge has one more that leads to it -/
theorem incs {next : List (Int × Int)} {r : Int × List Nd × List Int} {m : List (Int × Bool)} (hx : next.length < 1048576) : ∀ (q p : List (Int × Int)), next = p ++ q → ∀ (l : List Nd), (∀ e ∈ q, 0 ≤ e.2 ∧ e.2 < l.length) → (∀ j, 0 ≤ rf l j ∧ rf l j + q.length < 1099511627776) →
    ∀ n, q.length < n → ∃ l', fixN (dfa_work_node_L1 next r m) n (l, (p.length : Int)) = some (r.1, l', r.2.2, some (mset m r.1 true)) ∧ l'.length = l.length ∧ (∀ j, nx l' j = nx l j) ∧ ∀ j, rf l' j = rf l j + ((q.map (·.2)).count j : Nat)
  | [], p, h, l, _, _, n, hn => by
    obtain ⟨n, rfl⟩ : ∃ k, n = k + 1 := ⟨n - 1, by simp at hn; omega⟩
    rw [fixN_succ]
    unfold dfa_work_node_L1
    dsimp only
    rw [lt_f h, cond_false]
    exact ⟨l, rfl, rfl, fun _ => rfl, fun _ => by simp⟩
  | e :: q, p, h, l, hq, hb, n, hn => by
    obtain ⟨n, rfl⟩ : ∃ k, n = k + 1 := ⟨n - 1, by simp at hn; omega⟩
    rw [fixN_succ]
    unfold dfa_work_node_L1
    have he := hq e (by simp)
    have hbe := hb e.2
    simp only [List.length_cons] at hb hbe
    dsimp only
    rw [lt_t h, cond_true, idx_mid h]
    simp only [bind_s]
    rw [idx_nd he.1 he.2]
    simp only [bind_s]
    have hp : p.length < 1048576 := by rw [h] at hx; simp at hx; omega
    rw [next_ix (by omega), w64 (by omega)]
    have hnx : ∀ j, nx (l.set e.2.toNat (nx l e.2, rf l e.2 + 1)) j = nx l j := fun j => by
      rw [nx_set he.1 he.2]; split
      · rename_i h; rw [h]
      · rfl
    have hrf : ∀ j, rf (l.set e.2.toNat (nx l e.2, rf l e.2 + 1)) j = if j = e.2 then rf l j + 1 else rf l j := fun j => by
      rw [rf_set he.1 he.2]; split
      · rename_i h; rw [h]
      · rfl
    obtain ⟨l', h1, h2, h3, h4⟩ := incs (r := r) (m := m) hx q (p ++ [e]) (by rw [h]; simp) (l.set e.2.toNat (nx l e.2, rf l e.2 + 1)) (fun x hx => by
      rw [List.length_set]; exact hq x (by simp [hx])) (fun j => by
      rw [hrf]; have := hb j; split <;> omega) n (by simp at hn; omega)
    refine ⟨l', ?_, by rw [h2, List.length_set], fun j => (h3 j).trans (hnx j), fun j => ?_⟩
    · rw [show ((p.length + 1 : Nat) : Int) = ((p ++ [e]).length : Int) by simp]; exact h1
    · rw [h4, hrf, List.map_cons, List.count_cons]
      by_cases hj : j = e.2
      · subst hj; simp; omega
      · have hj' : ¬ e.2 = j := fun h => hj h.symm
        simp [hj, hj']

theorem node_ok {N : List Nd} {F A X T : List Int} {W h : Nat} {y : List (Int × Bool)} {next : List (Int × Int)} (I : Inv N F [] A X T W) (hN : N.length < 1048575) (hb : ∀ j, rf N j < 1073741824)
    (hy1 : ∀ i, mgetD (some y) i false = true → i ∈ A) (hy2 : ∀ i ∈ A, rf N i = 0 → mgetD (some y) i false = true)
    (hr : Rise next) (hW : h ≤ W) (hk : (h = 0 ∧ next = []) ∨ ∃ k, h = k + 1 ∧ next ≠ [] ∧ ∀ e ∈ next, At N A k e.2) (hT : ∀ t ∈ T, t ∈ next.map (·.2)) (wi ro ma : Int) :
    ∃ r N' F' y' A', dfa_work_node next wi N ro ma F (some y) = some (r, N', F', some y') ∧ Inv N' F' [] A' X [r] W ∧ nx N' r = next ∧ (∀ j ∈ A, j ∈ A' ∧ nx N' j = nx N j) ∧ At N' A' h r ∧
      (∀ i, mgetD (some y') i false = true → i ∈ A') ∧ (∀ i ∈ A', rf N' i = 0 → mgetD (some y') i false = true) ∧ N'.length ≤ N.length + 1 ∧ ∀ j, rf N' j ≤ 256 + rf N j := by
  have hlen := rise_len hr
  have hkA : ∀ e ∈ next, e.2 ∈ A := by
    rcases hk with ⟨_, rfl⟩ | ⟨k, _, _, h⟩
    · intro e he; cases he
    · exact fun e he => (h e he).mem
  have hat : ∀ {N' A'}, (∀ j ∈ A, j ∈ A') → (∀ j ∈ A, nx N' j = nx N j) → ∀ r ∈ A', nx N' r = next → At N' A' h r := by
    intro N' A' h1 h2 r hr' hn
    rcases hk with ⟨rfl, h⟩ | ⟨k, rfl, hne, h⟩
    · exact ⟨hr', by rw [hn, h]⟩
    · exact ⟨hr', by rw [hn]; exact hne, by rw [hn]; exact hr, fun e he => by rw [hn] at he; exact (h e he).grow h1 h2⟩
  unfold dfa_work_node
  have hv : ∀ i : Int, 0 ≤ i → i < N.length → ((0 < rf N i ∨ mgetD (some y) i false = true) ↔ i ∈ A) := fun i _ _ => by
    constructor
    · rintro (h | h)
      · by_cases ha : i ∈ A
        · exact ha
        · have := I.dead i ha; omega
      · exact hy1 i h
    · intro ha
      have := I.pos i
      by_cases h0 : rf N i = 0
      · exact .inr (hy2 i ha h0)
      · exact .inl (by omega)
  have hs := same_loop (next := next) hv (fun i hi => by
    obtain ⟨k, _, a⟩ := I.good i hi
    have := rise_len a.rise; omega) (by omega) FUEL 0 (by omega) (by show _ < 2 ^ 64; omega)
  have he : dfa_work_same next wi N ro ma F (some y) = fixN (dfa_work_same_L1 next N (some y)) FUEL ((0 : Nat) : Int) := rfl
  rw [he]
  rcases hs with ⟨i, h1, h2, h3, h4, h5⟩ | ⟨h1, h2⟩
  · rw [h1]
    refine ⟨i, N, F, y, A, rfl, ⟨I.nd, I.rng, I.cnt, I.dead, fun j hj h0 => ?_, I.dist, I.good⟩, h5, fun j hj => ⟨hj, rfl⟩, hat (fun _ h => h) (fun _ _ => rfl) i h2 h5, hy1, hy2, by omega, fun j => by omega⟩
    have := hT j (I.top j hj h0)
    have := I.led h2 (i := j) (by unfold tg; rw [h5]; exact this)
    omega
  · rw [h1]
    simp only [bind_s, cond_false]
    obtain ⟨i, N1, F1, g1, g2, g3, g4, g5, g6⟩ := fresh_ok I hN wi ro ma (some y)
    rw [g1]
    simp only [bind_s]
    have hi := (g3 i).1 (by simp)
    obtain ⟨x, hx⟩ := idx_in hi.1 hi.2
    rw [hx]
    simp only [bind_s]
    have hiA : i ∉ A := fun h => (List.nodup_cons.1 g2).1 (by simp [h])
    have n1 : ∀ j, nx (N1.set i.toNat (next, 0)) j = if j = i then next else nx N j := fun j => by
      rw [nx_set hi.1 hi.2]; split
      · rfl
      · rename_i h; exact (g4 j h).1
    have r1 : ∀ j, rf (N1.set i.toNat (next, 0)) j = rf N j := fun j => by
      rw [rf_set hi.1 hi.2]; split
      · rename_i h; rw [h, g5]
      · rename_i h; exact (g4 j h).2
    obtain ⟨N', e1, e2, e3, e4⟩ := incs (next := next) (r := (i, N1, F1)) (m := y) (by omega) next [] rfl (N1.set i.toNat (next, 0)) (fun e he => by
      rw [List.length_set]; exact (g3 _).1 (by simp [hkA e he])) (fun j => by
      rw [r1]; have := I.pos j; have := hb j; omega) FUEL (by show _ < 2 ^ 64; omega)
    have e1 : fixN (dfa_work_node_L1 next (i, N1, F1) y) FUEL (N1.set i.toNat (next, 0), 0) = some (i, N', F1, some (mset y i true)) := e1
    rw [e1]
    have nA : ∀ j ∈ A, nx N' j = nx N j := fun j hj => by
      rw [e3, n1, if_neg (fun h => hiA (by rw [← h]; exact hj))]
    have nI : nx N' i = next := by rw [e3, n1, if_pos rfl]
    have rJ : ∀ j, rf N' j = rf N j + ((next.map (·.2)).count j : Nat) := fun j => by rw [e4, r1]
    have tJ : ∀ j ∈ A, tg N' j = tg N j := fun j hj => by unfold tg; rw [nA j hj]
    have tA : A.flatMap (tg N') = A.flatMap (tg N) := by rw [List.flatMap_def, List.flatMap_def, List.map_congr_left tJ]
    have cI : ∀ j, rf N' j = (((i :: A).flatMap (tg N') ++ X).count j : Nat) := fun j => by
      rw [rJ, I.cnt, List.flatMap_cons, tA, List.append_assoc, List.count_append (l₁ := tg N' i)]
      unfold tg; rw [nI]; omega
    refine ⟨i, N', F1, mset y i true, i :: A, rfl, ⟨?_, ?_, cI, ?_, ?_, ?_, ?_⟩, nI, fun j hj => ⟨by simp [hj], nA j hj⟩, hat (fun j hj => by simp [hj]) nA i (by simp) nI, ?_, ?_, ?_, ?_⟩
    · simp only [List.append_nil]; exact g2
    · intro j; simp only [List.append_nil]; rw [e2, List.length_set]; exact g3 j
    · intro j hj
      simp only [List.mem_cons, not_or] at hj
      rw [rJ, I.dead j hj.2, List.count_eq_zero.2]
      · rfl
      · intro h
        obtain ⟨e, he, rfl⟩ := List.mem_map.1 h
        exact hj.2 (hkA e he)
    · intro j hj h0
      rcases List.mem_cons.1 hj with rfl | hj
      · simp
      · have := rJ j
        have := I.pos j
        have h := hT j (I.top j hj (by omega))
        have := List.count_pos_iff.2 h
        omega
    · intro a ha b hb' hab
      rcases List.mem_cons.1 ha with h4 | h4 <;> rcases List.mem_cons.1 hb' with h5 | h5
      · rw [h4, h5]
      · rw [h4, nI, nA b h5] at hab
        exact absurd hab.symm (h2 b h5 (by have := I.range h5; omega) (I.range h5).2)
      · rw [h5, nI, nA a h4] at hab
        exact absurd hab (h2 a h4 (by have := I.range h4; omega) (I.range h4).2)
      · rw [nA a h4, nA b h5] at hab
        exact I.dist a h4 b h5 hab
    · intro j hj
      rcases List.mem_cons.1 hj with rfl | hj
      · exact ⟨h, hW, hat (fun j hj => by simp [hj]) nA _ (by simp) nI⟩
      · obtain ⟨k, hk, a⟩ := I.good j hj
        exact ⟨k, hk, a.grow (fun j hj => by simp [hj]) nA⟩
    · intro j hj
      rcases mgetD_mset.1 hj with rfl | hj
      · simp
      · simp [hy1 j hj]
    · intro j hj h0
      rw [mgetD_mset]
      rcases List.mem_cons.1 hj with rfl | hj
      · exact .inl rfl
      · have := rJ j
        have := I.pos j
        exact .inr (hy2 j hj (by omega))
    · rw [e2, List.length_set]; exact g6
    · intro j
      rw [rJ]
      have := List.count_le_length (a := j) (l := next.map (·.2))
      simp at this; omega
end Df
end Go.Proofs.Ytjappdgehmjomaa
