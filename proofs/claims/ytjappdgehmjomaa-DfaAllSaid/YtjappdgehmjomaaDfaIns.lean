/-
  New, Has and Insert, plainly. (own)
-/
import Derived.Test.YtjappdgehmjomaaDfaLeave
namespace Go.Proofs.Ytjappdgehmjomaa
namespace Df

abbrev D := Int × List Nd × Int × Int × List Int
/-- a set of words so long is in order; so many words at most -/
structure Good (d : D) (W m : Nat) (A : List Int) : Prop where
  wide : d.1 = W
  w1 : 1 ≤ W ∧ W ≤ 64
  m4 : m ≤ 4000
  inv : Inv d.2.1 d.2.2.2.2 [] A (if d.2.2.1 = -1 then [] else [d.2.2.1]) [] W
  root : (d.2.2.1 = -1 ∧ A = []) ∨ At d.2.1 A W d.2.2.1
  long : d.2.1.length ≤ 66 * m
  refs : ∀ j, rf d.2.1 j ≤ 16896 * (m : Int)
  many : d.2.2.2.1 = m
def takes (d : D) (v : List Int) : Prop := d.2.2.1 ≠ -1 ∧ acc d.2.1 v d.2.2.1

theorem new_ok {W : Nat} (h : 1 ≤ W ∧ W ≤ 64) : dfa_New (W : Int) = some (((W : Int), [], -1, 0, []), 0) := by
  unfold dfa_New
  simp only [letv_e]
  rw [show decide ((W : Int) < 1) = false by simp; omega, show decide (64 < (W : Int)) = false by simp; omega]
  rfl
theorem new_good {W : Nat} (h : 1 ≤ W ∧ W ≤ 64) : Good ((W : Int), [], -1, 0, []) W 0 [] where
  wide := rfl
  w1 := h
  m4 := by omega
  inv := ⟨by simp, fun i => by simp; try omega, fun i => by simp [rf, idx], fun i _ => by simp [rf, idx], by simp, by simp, by simp⟩
  root := .inl ⟨rfl, rfl⟩
  long := by simp
  refs := fun j => by simp [rf, idx]
  many := rfl

theorem has_loop {d : D} {F Z A X T : List Int} {W : Nat} (I : Inv d.2.1 F Z A X T W) {w : List Int} (hw : w.length < 1048576) : ∀ (q p : List Int), w = p ++ q → ∀ at_ : Int, (at_ = -1 ∨ ∃ h, At d.2.1 A h at_) → ∀ n, q.length < n →
    ∃ r, fixN (dfa_Has_L1 d w) n (at_, (p.length : Int)) = some (((w.length : Int) == d.1 && decide (0 < d.1)) && r) ∧ (∀ h, At d.2.1 A h at_ → q.length = h → (r = true ↔ acc d.2.1 q at_)) ∧ (at_ = -1 → r = false)
  | [], p, h, at_, ha, n, hn => by
    obtain ⟨n, rfl⟩ : ∃ k, n = k + 1 := ⟨n - 1, by simp at hn; omega⟩
    rw [fixN_succ]
    unfold dfa_Has_L1
    dsimp only
    rw [lt_f h, cond_false]
    refine ⟨at_ != -1, rfl, fun h a _ => ?_, fun h => by simp [h]⟩
    have := I.range a.mem
    simp only [acc, iff_true, bne_iff_ne, ne_eq]; omega
  | b :: q, p, h, at_, ha, n, hn => by
    obtain ⟨n, rfl⟩ : ∃ k, n = k + 1 := ⟨n - 1, by simp at hn; omega⟩
    rw [fixN_succ]
    have hp : p.length < 1048576 := by rw [h] at hw; simp at hw; omega
    have go : ∀ at2 : Int, (at2 = -1 ∨ ∃ h, At d.2.1 A h at2) → dfa_to d at_ b = some at2 → (∀ h, At d.2.1 A (h + 1) at_ → (at2 = -1 ∧ ∀ e ∈ nx d.2.1 at_, e.1 ≠ b) ∨ ((b, at2) ∈ nx d.2.1 at_ ∧ At d.2.1 A h at2)) → (at_ = -1 → at2 = -1) →
        ∃ r, dfa_Has_L1 d w (fixN (dfa_Has_L1 d w) n) (at_, (p.length : Int)) = some (((w.length : Int) == d.1 && decide (0 < d.1)) && r) ∧ (∀ h, At d.2.1 A h at_ → (b :: q).length = h → (r = true ↔ acc d.2.1 (b :: q) at_)) ∧ (at_ = -1 → r = false) := by
      intro at2 ha2 hto hk hneg
      obtain ⟨r, h1, h2, h3⟩ := has_loop I hw q (p ++ [b]) (by rw [h]; simp) at2 ha2 n (by simp at hn; omega)
      refine ⟨r, ?_, fun k a hq => ?_, fun h => h3 (hneg h)⟩
      · unfold dfa_Has_L1
        dsimp only
        rw [lt_t h, cond_true, idx_mid h]
        simp only [bind_s]
        rw [hto]
        simp only [bind_s]
        rw [next_ix (by omega), show ((p.length + 1 : Nat) : Int) = ((p ++ [b]).length : Int) by simp]
        exact h1
      · obtain ⟨k, rfl⟩ : ∃ j, k = j + 1 := ⟨k - 1, by simp at hq; omega⟩
        rcases hk k a with ⟨rfl, hno⟩ | ⟨he, a2⟩
        · rw [h3 rfl]
          simp only [Bool.false_eq_true, false_iff]
          rintro ⟨e, he, heb, _⟩
          exact hno e he heb
        · rw [h2 k a2 (by simpa using hq), acc_cons a.2.2.1 he rfl]
    by_cases h0 : at_ = -1
    · subst h0
      exact go (-1) (.inl rfl) rfl (fun h a => by have := I.range a.mem; omega) (fun _ => rfl)
    · obtain ⟨k, a⟩ := ha.resolve_left h0
      have hm := I.range a.mem
      have hl := rise_len a.rise
      rcases to_ok (d := d) b hm.1 hm.2 a.rise (by omega) with ⟨e, he, heb, hto⟩ | ⟨hno, hto⟩
      · obtain ⟨k, rfl⟩ : ∃ j, k = j + 1 := by
          cases k with
          | zero => rw [a.2] at he; cases he
          | succ j => exact ⟨j, rfl⟩
        exact go e.2 (.inr ⟨k, a.2.2.2 e he⟩) hto (fun k' a' => .inr ⟨by rw [← heb]; exact he, a'.2.2.2 e he⟩) (fun h => absurd h h0)
      · exact go (-1) (.inl rfl) hto (fun k' a' => .inl ⟨rfl, hno⟩) (fun h => absurd h h0)
theorem has_ok {d : D} {W m : Nat} {A : List Int} (G : Good d W m A) {w : List Int} (hw : w.length < 1048576) : ∃ r, dfa_Has d w = some r ∧ (r = true ↔ w.length = W ∧ takes d w) := by
  have hr := G.root
  obtain ⟨r, h1, h2, h3⟩ := has_loop (d := d) G.inv hw w [] rfl d.2.2.1 (by rcases hr with h | h; exact .inl h.1; exact .inr ⟨W, h⟩) FUEL (by show _ < 2 ^ 64; omega)
  refine ⟨_, h1, ?_⟩
  have := G.w1
  rw [G.wide]
  simp only [Bool.and_eq_true, beq_iff_eq, decide_eq_true_eq]
  constructor
  · rintro ⟨⟨hl, _⟩, hr1⟩
    have hl : w.length = W := by omega
    refine ⟨hl, ?_⟩
    rcases hr with h | h
    · rw [h3 h.1] at hr1; cases hr1
    · have := G.inv.range h.mem
      exact ⟨by omega, (h2 W h hl).1 hr1⟩
  · rintro ⟨hl, h0, ha⟩
    refine ⟨⟨by omega, by omega⟩, (h2 W (hr.resolve_left fun h => h0 h.1) hl).2 ha⟩

theorem ins_ok {d : D} {W m : Nat} {A : List Int} (G : Good d W m A) (hm : m < 4000) {w : List Int} (hb : ∀ b ∈ w, 0 ≤ b ∧ b < 256) (hl : w.length < 1048576) :
    (w.length ≠ W ∧ dfa_Insert d w = some (d, false, 1)) ∨ (w.length = W ∧ takes d w ∧ dfa_Insert d w = some (d, false, 0)) ∨
    (w.length = W ∧ ¬ takes d w ∧ ∃ d' A', dfa_Insert d w = some (d', true, 0) ∧ Good d' W (m + 1) A' ∧ ∀ v, v.length = W → (takes d' v ↔ v = w ∨ takes d v)) := by
  have hW := G.w1
  obtain ⟨r, hr, hrt⟩ := has_ok G hl
  by_cases hlen : ¬ w.length = W
  · left
    refine ⟨hlen, ?_⟩
    unfold dfa_Insert
    simp only [letv_e]
    rw [G.wide, show ((w.length : Int) != (W : Int)) = true by simp only [bne_iff_ne, ne_eq]; omega]
    rfl
  replace hlen : w.length = W := Decidable.not_not.1 hlen
  right
  have pre : dfa_Insert d w = (dfa_Has d w).bind fun r21 => bif r21 then (some (d, false, 0)) else ((slices_Clone_api_Node_api_Node d.2.1).bind fun r32 =>
      (slices_Clone_int_int d.2.2.2.2).bind fun r37 =>
      (dfa_work_put d.2.2.1 w d.1 r32 d.2.2.1 d.2.2.2.1 r37 (some [] : (Option (List (Int × Bool))))).bind fun r44 =>
      (idx r44.2.1 r44.1).bind fun e54 =>
      (idx r44.2.1 r44.1).bind fun e60 =>
      bif (d.2.2.1 != (-1)) then (
      (dfa_work_leave d.2.2.1 d.1 (List.set r44.2.1 (Int.toNat r44.1) (e60.1, (IntKind.i64.wrap (e54.2 + 1)))) r44.1 d.2.2.2.1 r44.2.2.1 r44.2.2.2).bind fun r75 =>
      dfa_Insert_K1 d r44 r75.1 r75.2)
      else (
      dfa_Insert_K1 d r44 (List.set r44.2.1 (Int.toNat r44.1) (e60.1, (IntKind.i64.wrap (e54.2 + 1)))) r44.2.2.1)) := by
    unfold dfa_Insert
    simp only [letv_e]
    rw [G.wide, show ((w.length : Int) != (W : Int)) = false by simp; omega, show ((W : Int) == 0) = false by simp; omega]
    rfl
  rw [pre, hr]
  simp only [bind_s]
  by_cases ht : takes d w
  · left
    exact ⟨hlen, ht, by rw [hrt.2 ⟨hlen, ht⟩]; rfl⟩
  right
  refine ⟨hlen, ht, ?_⟩
  have hrf : r = false := by
    rw [← Bool.not_eq_true]; intro h; exact ht (hrt.1 h).2
  rw [hrf, cond_false]
  have hN := G.long
  have hR := G.refs
  have hF := G.inv.free_len
  unfold slices_Clone_api_Node_api_Node slices_Clone_int_int
  rw [room_t (by simp; omega) (by simp; omega), chk_t, room_t (by simp; omega) (by simp; omega), chk_t]
  simp only [bind_s, List.nil_append]
  have hroot : d.2.2.1 = -1 ∨ At d.2.1 A w.length d.2.2.1 := by
    rcases G.root with h | h
    · exact .inl h.1
    · exact .inr (by rw [hlen]; exact h)
  obtain ⟨r, N', F', y', A', h1, h2, h3, h4, h5, h6, h7, h8, h9⟩ := put_ok (W := W) d.1 d.2.2.1 d.2.2.2.1 w d.2.2.1 d.2.1 d.2.2.2.2 A [] hb (by omega) hroot G.inv (fun i h => by simp [mgetD, mget] at h) (fun i hi h0 => absurd (G.inv.top i hi h0) (by simp)) (by omega) (fun j => by have := hR j; omega) FUEL (by show _ < 2 ^ 64; omega)
  rw [put_eq, h1]
  simp only [bind_s]
  have hrA := h4.mem
  have hir := h2.range hrA
  rw [idx_nd hir.1 hir.2]
  simp only [bind_s]
  have hrr := h8 r
  have hrr2 := hR r
  have hrr3 := h2.pos r
  rw [w64 (x := rf N' r + 1) (by omega)]
  have n1 : nx (N'.set r.toNat (nx N' r, rf N' r + 1)) = nx N' := by
    funext j; rw [nx_set hir.1 hir.2]; split
    · rename_i h; rw [h]
    · rfl
  have r1 : ∀ j, rf (N'.set r.toNat (nx N' r, rf N' r + 1)) j = if j = r then rf N' r + 1 else rf N' j := fun j => by rw [rf_set hir.1 hir.2]
  have l1 : (N'.set r.toNat (nx N' r, rf N' r + 1)).length = N'.length := by simp
  have t1 : tg (N'.set r.toNat (nx N' r, rf N' r + 1)) = tg N' := by unfold tg; rw [n1]
  have n1' : ∀ j, nx (N'.set r.toNat (nx N' r, rf N' r + 1)) j = nx N' j := fun j => by rw [n1]
  generalize N'.set r.toNat (nx N' r, rf N' r + 1) = N1 at *
  -- one more leads to the new root
  have I1 : Inv N1 F' [] A' (r :: (if d.2.2.1 = -1 then [] else [d.2.2.1])) [] W := ⟨h2.nd, fun j => by rw [l1]; exact h2.rng j, fun j => by
      rw [r1, t1]
      have hc := h2.cnt j
      rw [List.count_append] at hc
      rw [List.count_append, List.count_cons]
      split
      · rename_i h; subst h; simp; omega
      · rename_i h
        have : (r == j) = false := by simp; exact fun e => h e.symm
        rw [this]; simp; omega, fun j hj => by
      rw [r1, if_neg (fun h => hj (by rw [h]; exact hrA))]; exact h2.dead j hj, fun j hj h => by
      rw [r1] at h
      have := h2.pos j
      split at h
      · omega
      · rename_i hne
        have := h2.top j hj h
        simp at this; exact absurd this hne, fun u hu v hv h => by rw [n1] at h; exact h2.dist u hu v hv h, fun j hj => by
      obtain ⟨k, hk, a⟩ := h2.good j hj
      exact ⟨k, hk, a.grow (fun _ h => h) fun j _ => n1' j⟩⟩
  have a1 : At N1 A' w.length r := h4.grow (fun _ h => h) fun j _ => n1' j
  have hr0 : r ≠ -1 := by omega
  have acc1 : ∀ v : List Int, v.length = w.length → (acc N1 v r ↔ v = w ∨ takes d v) := fun v hv => by
    rw [acc.same (A := A') (N := N') (fun j _ => n1' j) h4 hv]; exact h9 v hv
  have mm : IntKind.i64.wrap (d.2.2.2.1 + 1) = ((m + 1 : Nat) : Int) := by rw [G.many, w64 (by omega)]; omega
  by_cases h0 : d.2.2.1 = -1
  · rw [show (d.2.2.1 != -1) = false by simp [h0], cond_false]
    refine ⟨(d.1, N1, r, IntKind.i64.wrap (d.2.2.2.1 + 1), F'), A', rfl, ⟨G.wide, hW, by omega, ?_, .inr (by rw [← hlen]; exact a1), by simp only []; omega, fun j => ?_, mm⟩, fun v hv => ?_⟩
    · simp only [if_neg hr0]
      simp only [if_pos h0] at I1
      exact I1
    · simp only []
      rw [r1]
      have := h8 j; have := hR j
      split <;> omega
    · show (r ≠ -1 ∧ acc N1 v r) ↔ _
      rw [acc1 v (by omega)]
      exact ⟨fun h => h.2, fun h => ⟨hr0, h⟩⟩
  · rw [show (d.2.2.1 != -1) = true by simpa [bne_iff_ne] using h0, cond_true]
    simp only [if_neg h0] at I1
    have aR := G.root.resolve_left fun h => h0 h.1
    have aR1 : At N1 A' W d.2.2.1 := aR.grow (fun j hj => (h3 j hj).1) fun j hj => by rw [n1, (h3 j hj).2]
    have I2 : Inv N1 F' [] A' (d.2.2.1 :: [r]) [] W := I1.perm (List.Perm.swap r d.2.2.1 [])
    obtain ⟨N2, F2, A2, g1, g2, g3, g4, g5⟩ := leave_ok (W := W) (wi := d.1) (ro := r) (ma := d.2.2.2.1) (y := some y') W FUEL (by show _ < 2 ^ 64; omega) d.2.2.1 N1 F' [] A' [r] aR1 I2 (by omega) (fun j => by rw [r1]; have := h8 j; have := hR j; split <;> omega)
    rw [leave_eq, g1]
    have rA2 := g2.ext (i := r) (by simp)
    have a2 : At N2 A2 W r := by
      rw [← hlen]
      exact a1.keep (fun j hj _ => (g4 j hj).2) (fun j hj _ e he _ => g2.closed hj (by rw [(g4 j hj).2]; exact he)) rA2
    have acc2 : ∀ v : List Int, v.length = W → (acc N1 v r ↔ acc N2 v r) := fun v hv => acc.same (N := N2) (N' := N1) (A := A2) (fun j hj => (g4 j hj).2.symm) a2 hv
    refine ⟨(d.1, N2, r, IntKind.i64.wrap (d.2.2.2.1 + 1), F2), A2, rfl, ⟨G.wide, hW, by omega, ?_, .inr a2, by simp only []; omega, fun j => ?_, mm⟩, fun v hv => ?_⟩
    · simp only [if_neg hr0]; exact g2
    · simp only []
      have g := g5 j
      rw [r1] at g
      have := h8 j; have := hR j
      split at g <;> omega
    · show (r ≠ -1 ∧ acc N2 v r) ↔ _
      rw [← acc2 v hv, acc1 v (by omega)]
      exact ⟨fun h => h.2, fun h => ⟨hr0, h⟩⟩
end Df
end Go.Proofs.Ytjappdgehmjomaa
