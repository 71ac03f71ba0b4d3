/-
  Leave: a node that one less leads to. (own)
-/
import Derived.Test.YtjappdgehmjomaaDfaPut
namespace Go.Proofs.Ytjappdgehmjomaa
namespace Df

abbrev SL := Int × Int × List Nd × Int × Int × List Int × Option (List (Int × Bool))
abbrev RL := List Nd × List Int
def LEAVE (k : SL → Option RL) (s : SL) : Option RL := dfa_work_leave_F k s.1 s.2.1 s.2.2.1 s.2.2.2.1 s.2.2.2.2.1 s.2.2.2.2.2.1 s.2.2.2.2.2.2
theorem leave_eq (i wi : Int) (N : List Nd) (ro ma : Int) (F : List Int) (y : Option (List (Int × Bool))) : dfa_work_leave i wi N ro ma F y = fixN LEAVE FUEL (i, wi, N, ro, ma, F, y) := rfl

/-- what leave gives -/
def Leaves (N : List Nd) (Z A X : List Int) (W : Nat) (res : Option RL) : Prop :=
  ∃ N' F' A', res = some (N', F') ∧ Inv N' F' Z A' X [] W ∧ N'.length = N.length ∧ (∀ j ∈ A', j ∈ A ∧ nx N' j = nx N j) ∧ ∀ j, rf N' j ≤ rf N j

theorem Inv.free_len {N : List Nd} {F Z A X T : List Int} {W : Nat} (I : Inv N F Z A X T W) : F.length ≤ N.length := by
  have := len_le (l := F) (List.nodup_append.1 (List.nodup_append.1 I.nd).1).2.1 (m := (List.range N.length).map Int.ofNat) fun x hx => by
    have := (I.rng x).1 (by simp [hx])
    exact List.mem_map.2 ⟨x.toNat, by simp; omega, by simp; omega⟩
  simpa using this
theorem Inv.perm {N : List Nd} {F Z A X X' T : List Int} {W : Nat} (I : Inv N F Z A X T W) (p : X'.Perm X) : Inv N F Z A X' T W :=
  ⟨I.nd, I.rng, fun i => by rw [I.cnt i, List.count_append, List.count_append, p.count_eq], I.dead, I.top, I.dist, I.good⟩

theorem leave_loop {W k n : Nat} {wi ro ma i : Int} {y : Option (List (Int × Bool))} {Z X : List Int} {x : Nd}
    (ih : x.1 ≠ [] → ∀ (i : Int) (N : List Nd) (F Z A X : List Int), At N A k i → Inv N F Z A (i :: X) [] W → N.length < 1048575 → (∀ j, rf N j < 1073741824) → Leaves N Z A X W (fixN LEAVE n (i, wi, N, ro, ma, F, y))) (hx : x.1.length < 1048576) :
    ∀ (q p : List (Int × Int)), x.1 = p ++ q → ∀ (l : List Nd) (F A : List Int), (∀ e ∈ q, e.2 ∈ A → At l A k e.2) → Inv l F (i :: Z) A (q.map (·.2) ++ X) [] W → l.length < 1048575 → (∀ j, rf l j < 1073741824) → ∀ m, q.length < m →
      Leaves l Z A X W (fixN (dfa_work_leave_L1 (fixN LEAVE n) i wi ro ma y x) m (l, F, (p.length : Int)))
  | [], p, h, l, F, A, _, I, hl, hr, m, hm => by
    obtain ⟨m, rfl⟩ : ∃ k, m = k + 1 := ⟨m - 1, by simp at hm; omega⟩
    rw [fixN_succ]
    unfold dfa_work_leave_L1
    dsimp only
    rw [lt_f h, cond_false]
    have hi : 0 ≤ i ∧ i < l.length := (I.rng i).1 (by simp)
    have hiA : i ∉ A := fun h => by
      have := (List.nodup_append.1 I.nd).2.2 i (by simp [h]) i (by simp)
      exact this rfl
    rw [idx_nd hi.1 hi.2, bind_s]
    obtain ⟨F', hF, pF⟩ := push_ok i (h := F) (by have := I.free_len; omega)
    rw [hF, bind_s]
    have nJ : ∀ j, j ≠ i → nx (l.set i.toNat ([], 0)) j = nx l j := fun j h => by rw [nx_set hi.1 hi.2, if_neg h]
    have nA : ∀ j ∈ A, nx (l.set i.toNat ([], 0)) j = nx l j := fun j h => nJ j fun e => hiA (e ▸ h)
    have rJ : ∀ j, rf (l.set i.toNat ([], 0)) j = rf l j := fun j => by
      rw [rf_set hi.1 hi.2]; split
      · rename_i h; rw [h, I.dead i hiA]
      · rfl
    have tJ : ∀ j ∈ A, tg (l.set i.toNat ([], 0)) j = tg l j := fun j hj => by unfold tg; rw [nA j hj]
    have tA : A.flatMap (tg (l.set i.toNat ([], 0))) = A.flatMap (tg l) := by rw [List.flatMap_def, List.flatMap_def, List.map_congr_left tJ]
    have pp : (A ++ F' ++ Z).Perm (A ++ F ++ (i :: Z)) := by
      refine List.Perm.trans ?_ (List.perm_middle (l₁ := A ++ F) (a := i) (l₂ := Z)).symm
      rw [List.append_assoc]
      refine (List.Perm.append_left A (List.Perm.append_right Z pF)).trans ?_
      rw [List.append_assoc]
      exact List.perm_middle
    refine ⟨l.set i.toNat ([], 0), F', A, rfl, ⟨pp.nodup_iff.2 I.nd, fun j => ?_, fun j => ?_, fun j hj => ?_, fun j hj h => ?_, fun a ha b hb h => ?_, fun j hj => ?_⟩, by simp, fun j hj => ⟨hj, nA j hj⟩, fun j => by rw [rJ]; omega⟩
    · rw [pp.mem_iff, I.rng, List.length_set]
    · rw [rJ, tA, I.cnt]; rfl
    · rw [rJ, I.dead j hj]
    · rw [rJ] at h; exact I.top j hj h
    · rw [nA a ha, nA b hb] at h; exact I.dist a ha b hb h
    · obtain ⟨h, hW, a⟩ := I.good j hj
      exact ⟨h, hW, a.grow (fun _ h => h) nA⟩
  | e :: q, p, h, l, F, A, ha, I, hl, hr, m, hm => by
    obtain ⟨m, rfl⟩ : ∃ k, m = k + 1 := ⟨m - 1, by simp at hm; omega⟩
    rw [fixN_succ]
    have I : Inv l F (i :: Z) A (e.2 :: (q.map (·.2) ++ X)) [] W := I
    have heA := I.ext (i := e.2) (by simp)
    obtain ⟨N', F', A', h1, h2, h3, h4, h5⟩ := ih (by rw [h]; simp) e.2 l F (i :: Z) A _ (ha e (by simp) heA) I hl hr
    have hp : p.length < 1048576 := by rw [h] at hx; simp at hx; omega
    obtain ⟨N2, F2, A2, g1, g2, g3, g4, g5⟩ := leave_loop ih hx q (p ++ [e]) (by rw [h]; simp) N' F' A' (fun z hz hzA => by
      have := ha z (by simp [hz]) (h4 _ hzA).1
      exact this.keep (fun j hj _ => (h4 j hj).2) (fun j hj _ u hu _ => by
        have : u ∈ nx N' j := by rw [(h4 j hj).2]; exact hu
        exact h2.closed hj this) hzA) h2 (by omega) (fun j => by have := h5 j; have := hr j; omega) m (by simp at hm; omega)
    refine ⟨N2, F2, A2, ?_, g2, by omega, fun j hj => ⟨(h4 j (g4 j hj).1).1, by rw [(g4 j hj).2, (h4 j (g4 j hj).1).2]⟩, fun j => by have := h5 j; have := g5 j; omega⟩
    unfold dfa_work_leave_L1
    dsimp only
    rw [lt_t h, cond_true, idx_mid h]
    simp only [bind_s]
    rw [h1]
    simp only [bind_s]
    rw [next_ix (by omega), show ((p.length + 1 : Nat) : Int) = ((p ++ [e]).length : Int) by simp]
    exact g1

theorem leave_ok {W : Nat} {wi ro ma : Int} {y : Option (List (Int × Bool))} : ∀ (h n : Nat), h < n → ∀ (i : Int) (N : List Nd) (F Z A X : List Int), At N A h i → Inv N F Z A (i :: X) [] W → N.length < 1048575 → (∀ j, rf N j < 1073741824) → Leaves N Z A X W (fixN LEAVE n (i, wi, N, ro, ma, F, y)) := by
  intro h
  induction h with
  | zero => ?_
  | succ k ih => ?_
  all_goals
    intro n hn i N F Z A X a I hN hr
    obtain ⟨n, rfl⟩ : ∃ k, n = k + 1 := ⟨n - 1, by omega⟩
    rw [fixN_succ]
    unfold LEAVE dfa_work_leave_F
    dsimp only
    have hi := I.range a.mem
    have hpos : 0 < rf N i := by
      rw [I.cnt]
      have : 0 < (A.flatMap (tg N) ++ i :: X).count i := List.count_pos_iff.2 (by simp)
      omega
    rw [idx_nd hi.1 hi.2]
    simp only [bind_s]
    rw [w64 (x := rf N i - 1) (by have := hr i; omega)]
    have n1 : nx (N.set i.toNat (nx N i, rf N i - 1)) = nx N := by
      funext j; rw [nx_set hi.1 hi.2]; split
      · rename_i h; rw [h]
      · rfl
    have r1 : ∀ j, rf (N.set i.toNat (nx N i, rf N i - 1)) j = if j = i then rf N i - 1 else rf N j := fun j => by rw [rf_set hi.1 hi.2]
    have l1 : (N.set i.toNat (nx N i, rf N i - 1)).length = N.length := by simp
    have t1 : tg (N.set i.toNat (nx N i, rf N i - 1)) = tg N := by unfold tg; rw [n1]
    have c1 : ∀ j, rf (N.set i.toNat (nx N i, rf N i - 1)) j = ((A.flatMap (tg N) ++ X).count j : Nat) := fun j => by
      rw [r1]
      have hc := I.cnt j
      rw [List.count_append, List.count_cons] at hc
      rw [List.count_append]
      split
      · rename_i h; subst h; simp at hc; omega
      · rename_i h
        have : (i == j) = false := by simp; exact fun e => h e.symm
        rw [this] at hc; simp at hc; omega
    rw [idx_nd (N := N.set i.toNat (nx N i, rf N i - 1)) hi.1 (by rw [l1]; exact hi.2)]
    simp only [bind_s]
    rw [r1, if_pos rfl, n1]
    have n1' : ∀ j, nx (N.set i.toNat (nx N i, rf N i - 1)) j = nx N j := fun j => by rw [n1]
    generalize N.set i.toNat (nx N i, rf N i - 1) = N1 at *
    by_cases hz : 0 < rf N i - 1
    · rw [show decide (0 < rf N i - 1) = true by simpa using hz, cond_true]
      refine ⟨N1, F, A, rfl, ⟨I.nd, fun j => by rw [l1]; exact I.rng j, fun j => by rw [t1]; exact c1 j, fun j hj => ?_, fun j hj h => ?_, fun u hu v hv h => ?_, fun j hj => ?_⟩, l1, fun j hj => ⟨hj, n1' j⟩, fun j => by rw [r1]; split <;> rename_i h <;> first | (rw [h]; omega) | omega⟩
      · rw [r1, if_neg (fun h => hj (by rw [h]; exact a.mem))]; exact I.dead j hj
      · rw [r1] at h
        split at h
        · omega
        · exact I.top j hj h
      · rw [n1] at h; exact I.dist u hu v hv h
      · obtain ⟨k, hk, a⟩ := I.good j hj
        exact ⟨k, hk, a.grow (fun _ h => h) fun j _ => n1' j⟩
    · rw [show decide (0 < rf N i - 1) = false by simpa using hz, cond_false]
      have h1 : rf N i = 1 := by omega
      have hc0 : (A.flatMap (tg N) ++ X).count i = 0 := by
        have := c1 i; rw [r1, if_pos rfl] at this; omega
      have hn0 := List.count_eq_zero.1 hc0
      have pA : A.Perm (i :: A.erase i) := List.perm_cons_erase a.mem
      have ndA : A.Nodup := (List.nodup_append.1 (List.nodup_append.1 I.nd).1).1
      have hiE : i ∉ A.erase i := (List.nodup_cons.1 (pA.nodup_iff.1 ndA)).1
      have mE : ∀ j, j ∈ A.erase i → j ∈ A := fun j hj => List.mem_of_mem_erase hj
      have mN : ∀ j, j ∈ A → j ≠ i → j ∈ A.erase i := fun j hj h => (List.mem_erase_of_ne h).2 hj
      have pp : (A.erase i ++ F ++ (i :: Z)).Perm (A ++ F ++ Z) := by
        refine List.perm_middle.trans ?_
        rw [List.append_assoc, List.append_assoc]
        exact (List.Perm.append_right (F ++ Z) pA).symm
      have kp : ∀ {h : Nat} {j : Int}, At N A h j → j ∈ A.erase i → At N1 (A.erase i) h j := fun b hb => b.keep (fun j _ _ => n1' j) (fun j _ hj e he heA => mN _ heA fun h => hn0 (by
        simp only [List.mem_append, List.mem_flatMap]
        exact .inl ⟨j, hj, List.mem_map.2 ⟨e, he, h⟩⟩)) hb
      have I1 : Inv N1 F (i :: Z) (A.erase i) ((nx N i).map (·.2) ++ X) [] W := ⟨pp.nodup_iff.2 I.nd, fun j => by rw [pp.mem_iff, I.rng, l1], fun j => by
          rw [c1, t1]
          have := (pA.flatMap_right (tg N)).count_eq j
          rw [List.flatMap_cons, List.count_append] at this
          rw [List.count_append, List.count_append, List.count_append, this]
          unfold tg; omega, fun j hj => by
          rw [r1]; split
          · omega
          · rename_i h; exact I.dead j fun hj' => hj (mN j hj' h), fun j hj h => by
          rw [r1, if_neg (fun h => hiE (by have h2 := hj; rw [h] at h2; exact h2))] at h
          exact I.top j (mE j hj) h, fun u hu v hv h => by
          rw [n1] at h; exact I.dist u (mE u hu) v (mE v hv) h, fun j hj => by
          obtain ⟨k, hk, b⟩ := I.good j (mE j hj)
          exact ⟨k, hk, kp b hj⟩⟩
      have hl := rise_len a.rise
      obtain ⟨k', hk', ih'⟩ : ∃ k', (∀ e ∈ nx N i, At N A k' e.2) ∧ (nx N i ≠ [] → ∀ (i : Int) (N : List Nd) (F Z A X : List Int), At N A k' i → Inv N F Z A (i :: X) [] W → N.length < 1048575 → (∀ j, rf N j < 1073741824) → Leaves N Z A X W (fixN LEAVE n (i, wi, N, ro, ma, F, y))) := by
        first
        | exact ⟨0, by rw [a.2]; simp, fun h => absurd a.2 h⟩
        | exact ⟨k, a.2.2.2, fun _ => ih n (by omega)⟩
      obtain ⟨N', F', A', g1, g2, g3, g4, g5⟩ := leave_loop (x := (nx N i, rf N i - 1)) (p := []) (q := nx N i) ih' (by simp only []; omega) rfl N1 F (A.erase i) (fun e he heA => kp (hk' e he) heA) I1 (by omega) (fun j => by rw [r1]; have := hr j; have := hr i; split <;> omega) FUEL (by show _ < 2 ^ 64; omega)
      exact ⟨N', F', A', g1, g2, by omega, fun j hj => ⟨mE j (g4 j hj).1, by rw [(g4 j hj).2, n1]⟩, fun j => by
        have := g5 j
        rw [r1] at this
        split at this
        · rename_i h; rw [h] at this ⊢; omega
        · exact this⟩
end Df
end Go.Proofs.Ytjappdgehmjomaa
