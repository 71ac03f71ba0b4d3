/-
  DfaTails, plainly. (own)
-/
import Derived.Test.YtjappdgehmjomaaDfaCount
import Derived.Test.YtjappdgehmjomaaDfaTellsP
namespace Go.Proofs.Ytjappdgehmjomaa
namespace Df

theorem ltw_pre : ∀ {a a' b b' : List Int}, a.length = a'.length → ltw a a' = true → ltw (a ++ b) (a' ++ b') = true
  | [], [], _, _, _, h => by simp [ltw] at h
  | [], _ :: _, _, _, hl, _ => by simp at hl
  | _ :: _, [], _, _, hl, _ => by simp at hl
  | x :: a, y :: a', b, b', hl, h => by
    simp only [List.cons_append, ltw, Bool.or_eq_true, decide_eq_true_eq, Bool.and_eq_true, beq_iff_eq] at *
    rcases h with h | ⟨h1, h2⟩
    · exact .inl h
    · exact .inr ⟨h1, ltw_pre (by simpa using hl) h2⟩
theorem prod_len {S T : List (List Int)} : (S.flatMap fun a => T.map (a ++ ·)).length = S.length * T.length := by
  induction S with
  | nil => simp
  | cons a S ih => rw [List.flatMap_cons, List.length_append, ih, List.length_map, List.length_cons, Nat.add_mul]; omega
theorem Prod.len {L S T : List (List Int)} {n m : Nat} (P : Prod L S T n m) : L.length = S.length * T.length := by
  rw [← prod_len]
  congr 1
  refine sor_eq P.sL (List.pairwise_flatMap.2 ⟨fun a _ => List.pairwise_map.2 (P.sT.imp fun {x y} h => by rw [ltw_app]; exact h), List.Pairwise.imp_of_mem ?_ P.sS⟩) fun v => ?_
  · intro a a' ha ha' h x hx y hy
    obtain ⟨b, _, rfl⟩ := List.mem_map.1 hx
    obtain ⟨b', _, rfl⟩ := List.mem_map.1 hy
    exact ltw_pre (by rw [(P.lS a ha).1, (P.lS a' ha').1]) h
  · simp only [List.mem_flatMap, List.mem_map]
    constructor
    · intro h
      have := (P.mem v).1 h
      exact ⟨_, this.2.1, _, this.2.2, List.take_append_drop n v⟩
    · rintro ⟨a, ha, b, hb, rfl⟩
      exact (P.app (P.lS a ha).1).2 ⟨ha, hb⟩

/-- the document's set has an automaton -/
theorem both_ok {d : D} {W : Nat} {L : List (List Int)} {A : List Int} (I : Is d W L A) (hL : L.length < 50) {v : List Int} (bv : By v) (hv : v.length = W) :
    ∃ d' A' L' b, scrutinyref09_Insert ((W : Int), L) v = some (((W : Int), L'), b, 0) ∧ Is d' W L' A' ∧ L'.length ≤ L.length + 1 ∧ ∀ x, x ∈ L' ↔ x = v ∨ x ∈ L := by
  have hW := I.good.w1
  rcases rins_ok (W := W) (show L.length < 100 by omega) I.sor (fun v hv => (I.len v hv).2) bv (by omega) with ⟨g1, _⟩ | ⟨_, g2, g3⟩ | ⟨_, g2, g3⟩
  · exact absurd hv g1
  · exact ⟨d, A, L, _, g3, I, by omega, fun x => ⟨.inr, fun h => by rcases h with rfl | h; exact g2; exact h⟩⟩
  · rcases insL_ok I (by omega) bv (by omega) with ⟨h1, _⟩ | ⟨_, h2, _⟩ | ⟨_, _, d', A', _, I'⟩
    · exact absurd hv h1
    · exact absurd h2 g2
    · exact ⟨d', A', _, _, g3, I', by rw [insW_len]; omega, fun x => insW_mem⟩

abbrev St := Int × List Nd × Int × Int × List Int × Int
theorem tails_in {a b : List (List Int)} {i n m : Nat} {x : List Int} (hi : i < a.length) (hx : a[i] = x) (hb : b.length ≤ 8) (lx : x.length = n ∧ By x) (lb : ∀ v ∈ b, v.length = m ∧ By v) {ag : St → Option Bool} {r : Option Bool}
    {out : List (List Int)} (hr : ∀ (d : D) (L : List (List Int)) (A : List Int), Is d (n + m) L A → L.length ≤ out.length + b.length → (∀ v, v ∈ L ↔ v ∈ out ∨ ∃ y ∈ b, v = x ++ y) → ag (d.1, d.2.1, d.2.2.1, d.2.2.2.1, d.2.2.2.2, IntKind.i64.wrap ((i : Int) + 1)) = r) (ho : out.length ≤ 64) : ∀ (q p : List (List Int)), b = p ++ q → ∀ (d : D) (L : List (List Int)) (A : List Int), Is d (n + m) L A → L.length ≤ out.length + p.length → (∀ v, v ∈ L ↔ v ∈ out ∨ ∃ y ∈ p, v = x ++ y) → ∀ k, q.length < k →
    fixN (scrutinylaw09_DfaTails_L4 a b (i : Int) ag) k (d.1, d.2.1, d.2.2.1, d.2.2.2.1, d.2.2.2.2, (p.length : Int)) = r
  | [], p, h, d, L, A, I, hL, mL, k, hk => by
    obtain ⟨k, rfl⟩ : ∃ j, k = j + 1 := ⟨k - 1, by simp at hk; omega⟩
    rw [fixN_succ]
    generalize fixN (scrutinylaw09_DfaTails_L4 a b (i : Int) ag) k = g
    have e : b = p := by simpa using h
    have := hr d L A I (by rw [e]; exact hL) (by rw [e]; exact mL)
    unfold scrutinylaw09_DfaTails_L4
    dsimp only
    rw [lt_f h, cond_false, this]
  | y :: q, p, h, d, L, A, I, hL, mL, k, hk => by
    obtain ⟨k, rfl⟩ : ∃ j, k = j + 1 := ⟨k - 1, by simp at hk; omega⟩
    rw [fixN_succ]
    have hp : p.length + 1 ≤ 8 := by rw [h] at hb; simp at hb; omega
    have ly := lb y (by rw [h]; simp)
    have hW := I.good.w1
    obtain ⟨d', f, L', A', g1, I', k1, m1⟩ := insW_ok I (by omega) (w := x ++ y) (fun c hc => by
      rcases List.mem_append.1 hc with hc | hc
      · exact lx.2 c hc
      · exact ly.2 c hc) (by simp [lx.1, ly.1])
    have ih := tails_in hi hx hb lx lb hr ho q (p ++ [y]) (by rw [h]; simp) d' L' A' I' (by simp; omega) (fun v => by
      rw [m1, mL]
      simp only [List.mem_append, List.mem_singleton]
      constructor
      · rintro (h | h | ⟨z, hz, e⟩)
        · exact .inr ⟨y, .inr rfl, h⟩
        · exact .inl h
        · exact .inr ⟨z, .inl hz, e⟩
      · rintro (h | ⟨z, hz | hz, e⟩)
        · exact .inr (.inl h)
        · exact .inr (.inr ⟨z, hz, e⟩)
        · subst hz; exact .inl e) k (by simp at hk; omega)
    generalize fixN (scrutinylaw09_DfaTails_L4 a b (i : Int) ag) k = g at ih ⊢
    rw [show ((p ++ [y]).length : Int) = ((p.length + 1 : Nat) : Int) by simp] at ih
    unfold scrutinylaw09_DfaTails_L4
    dsimp only
    rw [lt_t h, cond_true, idx_lt hi, idx_mid h, hx]
    simp only [bind_p, List.nil_append]
    rw [room_t (by simp; omega) (by simp; omega), chk_t, room_t (by omega) (by omega), chk_t, show (d.1, d.2.1, d.2.2.1, d.2.2.2.1, d.2.2.2.2) = d from rfl, g1]
    simp only [bind_p, bne_self_eq_false, cond_false]
    rw [next_ix (by omega), ih]

theorem tails_end {a : List (List Int)} {b : List (List Int)} {r64 : D × Int} (h64 : r64.2 = 0) {n m : Nat} {d dS dT : D} {L S T : List (List Int)} {A AS AT : List Int} (I : Is d (n + m) L A) (IS : Is dS n S AS) (IT : Is dT m T AT) (hS : S.length ≤ 8) (hT : T.length ≤ 8) (P : Prod L S T n m) {i : Int} (hi : decide (i < (a.length : Int)) = false) (g : St → Option Bool) :
    scrutinylaw09_DfaTails_L3 a b true r64 (n : Int) S (m : Int) T g (d.1, d.2.1, d.2.2.1, d.2.2.2.1, d.2.2.2.2, i) = some true := by
  have hl := P.len
  have hs := P.size
  rw [← size_sum I, ← size_sum IS, ← size_sum IT] at hs
  have b1 := IS.good.inv
  have lim : ∀ {d : D} {W : Nat} {L : List (List Int)} {A : List Int}, Is d W L A → A.length ≤ 300000 := fun {d W L A} I => by
    have := I.good.long; have := I.good.m4
    have hnd := (List.nodup_append.1 (List.nodup_append.1 I.good.inv.nd).1).1
    have := len_le hnd (m := (List.range d.2.1.length).map Int.ofNat) fun x hx => by
      have := I.good.inv.range hx
      exact List.mem_map.2 ⟨x.toNat, by simp; omega, by simp; omega⟩
    simp at this; omega
  have l1 := lim IS; have l2 := lim IT
  have hm : S.length * T.length ≤ 8 * 8 := Nat.mul_le_mul hS hT
  have e1 : IntKind.i64.wrap ((S.length : Int) * (T.length : Int)) = (L.length : Int) := by
    rw [hl, w64 (by rw [show (S.length : Int) * (T.length : Int) = ((S.length * T.length : Nat) : Int) by simp]; omega)]; simp
  have e2 : IntKind.i64.wrap (IntKind.i64.wrap ((AS.length : Int) + (AT.length : Int)) - 1) = (A.length : Int) := by
    rw [w64 (x := (AS.length : Int) + (AT.length : Int)) (by omega), w64 (by omega)]; omega
  have y1 := many_ok I
  have y2 := size_ok I.good
  have y3 := refsize_ok IS (by omega)
  have y4 := refsize_ok IT (by omega)
  unfold scrutinylaw09_DfaTails_L3
  dsimp only
  rw [hi, cond_false]
  rw [show (d.1, d.2.1, d.2.2.1, d.2.2.2.1, d.2.2.2.2) = d from rfl]
  generalize dfa_Many d = q1 at y1 ⊢
  generalize dfa_Size d = q2 at y2 ⊢
  generalize scrutinyref09_Size ((n : Int), S) = q3 at y3 ⊢
  generalize scrutinyref09_Size ((m : Int), T) = q4 at y4 ⊢
  subst y1 y2 y3 y4
  simp only [letv_p, h64, beq_self_eq_true, Bool.true_and, callG_p, bind_p, e1, e2]

theorem tails_out {a b : List (List Int)} {n m : Nat} (hW : 1 ≤ n + m ∧ n + m ≤ 64) (ha : a.length ≤ 8) (hb : b.length ≤ 8) (a0 : a ≠ []) (b0 : b ≠ []) (la : ∀ v ∈ a, v.length = n ∧ By v) (lb : ∀ v ∈ b, v.length = m ∧ By v) {dS dT : D} {S T : List (List Int)} {AS AT : List Int} (IS : Is dS n S AS) (IT : Is dT m T AT) (mS : ∀ v, v ∈ S ↔ v ∈ a) (mT : ∀ v, v ∈ T ↔ v ∈ b) (hS : S.length ≤ 8) (hT : T.length ≤ 8) {r64 : D × Int} (h64 : r64.2 = 0) :
    ∀ (q p : List (List Int)), a = p ++ q → ∀ (d : D) (L : List (List Int)) (A : List Int), Is d (n + m) L A → L.length ≤ p.length * b.length → (∀ v, v ∈ L ↔ ∃ x ∈ p, ∃ y ∈ b, v = x ++ y) → ∀ k, q.length < k →
    fixN (scrutinylaw09_DfaTails_L3 a b true r64 (n : Int) S (m : Int) T) k (d.1, d.2.1, d.2.2.1, d.2.2.2.1, d.2.2.2.2, (p.length : Int)) = some true
  | [], p, h, d, L, A, I, hL, mL, k, hk => by
    obtain ⟨k, rfl⟩ : ∃ j, k = j + 1 := ⟨k - 1, by simp at hk; omega⟩
    rw [fixN_succ]
    have e : a = p := by simpa using h
    obtain ⟨x0, hx0⟩ := List.exists_mem_of_ne_nil _ a0
    obtain ⟨y0, hy0⟩ := List.exists_mem_of_ne_nil _ b0
    refine tails_end h64 I IS IT hS hT ⟨I.sor, IS.sor, IT.sor, IS.len, IT.len, I.len, fun v => ?_, fun h => ?_, fun h => ?_⟩ (lt_f h) _
    · rw [mL]
      constructor
      · rintro ⟨x, hx, y, hy, rfl⟩
        rw [← e] at hx
        have lx := (la x hx).1; have ly := (lb y hy).1
        exact ⟨by simp [lx, ly], by rw [List.take_left' lx, mS]; exact hx, by rw [List.drop_left' lx, mT]; exact hy⟩
      · rintro ⟨_, h1, h2⟩
        rw [mS] at h1; rw [mT] at h2
        exact ⟨_, by rw [← e]; exact h1, _, h2, (List.take_append_drop n v).symm⟩
    · have := (mS x0).2 hx0; rw [h] at this; cases this
    · have := (mT y0).2 hy0; rw [h] at this; cases this
  | x :: q, p, h, d, L, A, I, hL, mL, k, hk => by
    obtain ⟨k, rfl⟩ : ∃ j, k = j + 1 := ⟨k - 1, by simp at hk; omega⟩
    rw [fixN_succ]
    have hp : p.length + 1 ≤ 8 := by rw [h] at ha; simp at ha; omega
    have ih := fun d L A I hL mL => tails_out hW ha hb a0 b0 la lb IS IT mS mT hS hT h64 q (p ++ [x]) (by rw [h]; simp) d L A I hL mL k (by simp at hk; omega)
    generalize fixN (scrutinylaw09_DfaTails_L3 a b true r64 (n : Int) S (m : Int) T) k = g at ih ⊢
    rw [show ((p ++ [x]).length : Int) = ((p.length + 1 : Nat) : Int) by simp] at ih
    have hlt : p.length < a.length := by rw [h]; simp
    have hpx : a[p.length] = x := by simp [h]
    have hm : p.length * b.length ≤ 8 * 8 := Nat.mul_le_mul (by omega) hb
    have r := tails_in (i := p.length) hlt hpx hb (la x (by rw [h]; simp)) lb (ag := g) (r := some true) (out := L) (fun d' L' A' I' hL' mL' => by
      rw [next_ix (by omega)]
      refine ih d' L' A' I' ?_ fun v => ?_
      · rw [List.length_append, List.length_singleton, Nat.add_mul]; omega
      · rw [mL', mL]
        simp only [List.mem_append, List.mem_singleton]
        constructor
        · rintro (⟨x', hx', y, hy, e⟩ | ⟨y, hy, e⟩)
          · exact ⟨x', .inl hx', y, hy, e⟩
          · exact ⟨x, .inr rfl, y, hy, e⟩
        · rintro ⟨x', hx' | hx', y, hy, e⟩
          · exact .inl ⟨x', hx', y, hy, e⟩
          · subst hx'; exact .inr ⟨y, hy, e⟩) (by omega) b [] rfl d L A I (by simp) (by simp) FUEL (fuel_lt (by omega))
    rw [show ((List.length ([] : List (List Int)) : Nat) : Int) = 0 from rfl] at r
    unfold scrutinylaw09_DfaTails_L3
    dsimp only
    rw [lt_t h, cond_true, r]
end Df
end Go.Proofs.Ytjappdgehmjomaa
