/-
  DfaAll, plainly: the loops. (own)
-/
import Derived.Test.YtjappdgehmjomaaDfaAllC
import Derived.Test.YtjappdgehmjomaaDfaTellsP
namespace Go.Proofs.Ytjappdgehmjomaa
namespace Df

def code (k : Nat) : Nat → Nat → List Int
  | 0, _ => []
  | n + 1, i => ((i % k : Nat) : Int) :: code k n (i / k)
def val (k : Nat) : List Int → Nat
  | [] => 0
  | b :: v => b.toNat + k * val k v
theorem code_len {k : Nat} : ∀ {n i : Nat}, (code k n i).length = n
  | 0, _ => rfl
  | n + 1, i => by simp [code, code_len (n := n)]
theorem code_dig {k : Nat} (hk : 0 < k) : ∀ {n i : Nat}, Dig k (code k n i)
  | 0, _ => by simp [code, Dig]
  | n + 1, i => by
    intro b hb
    rcases List.mem_cons.1 hb with rfl | hb
    · have := Nat.mod_lt i hk; omega
    · exact code_dig hk b hb
theorem val_code {k : Nat} (hk : 0 < k) : ∀ {n i : Nat}, i < k ^ n → val k (code k n i) = i
  | 0, i, h => by simp at h; subst h; rfl
  | n + 1, i, h => by
    have : i / k < k ^ n := Nat.div_lt_of_lt_mul (by rw [Nat.pow_succ] at h; rw [Nat.mul_comm]; exact h)
    simp only [code, val, val_code hk this, Int.toNat_natCast]
    exact Nat.mod_add_div i k
theorem code_val {k : Nat} : ∀ {n : Nat} {v : List Int}, v.length = n → Dig k v → code k n (val k v) = v ∧ val k v < k ^ n
  | 0, v, h, _ => by
    have : v = [] := List.length_eq_zero_iff.1 h
    subst this; exact ⟨rfl, by simp [val]⟩
  | n + 1, b :: v, h, hd => by
    have hb := hd b (by simp)
    obtain ⟨h1, h2⟩ := code_val (n := n) (v := v) (by simpa using h) fun c hc => hd c (by simp [hc])
    have hk : 0 < k := by omega
    have e1 : (b.toNat + k * val k v) % k = b.toNat := by rw [Nat.add_mul_mod_self_left]; exact Nat.mod_eq_of_lt (by omega)
    have e2 : (b.toNat + k * val k v) / k = val k v := by rw [Nat.add_mul_div_left _ _ hk, Nat.div_eq_of_lt (by omega)]; omega
    refine ⟨?_, ?_⟩
    · simp only [code, val, e1, e2, h1]; congr 1; omega
    · simp only [val]
      have : k * (val k v + 1) ≤ k * k ^ n := Nat.mul_le_mul_left k h2
      rw [Nat.pow_succ, Nat.mul_comm (k ^ n) k]
      rw [Nat.mul_add] at this; omega
theorem code_inj {k n i j : Nat} (hk : 0 < k) (hi : i < k ^ n) (hj : j < k ^ n) (e : code k n i = code k n j) : i = j := by
  rw [← val_code hk hi, e, val_code hk hj]
theorem Dig.by {k : Nat} (hk : k ≤ 4) {v : List Int} (h : Dig k v) : By v := fun b hb => by have := h b hb; omega

abbrev S6 := Int × List Nd × Int × Int × List Int × Int
/-- a word is built -/
theorem word_loop {signs wide total c : Int} {d : D} {ag : S6 → Option Bool} {k n : Nat} (hk : 2 ≤ k ∧ k ≤ 4) (hn : 1 ≤ n ∧ n ≤ 4) (eK : IntKind.i64.wrap (2 + (Int.tmod (IntKind.i64.wrap signs) 3)) = (k : Int)) (eN : IntKind.i64.wrap (1 + (Int.tmod (IntKind.i64.wrap wide) 4)) = (n : Int)) {w : List Int} {r : Option Bool}
    (hr : ∀ (g : (List Int × Int × Int) → Option Bool) (v : Int), scrutinylaw09_DfaAll_L4 signs wide total d.1 d.2.1 d.2.2.1 d.2.2.2.1 d.2.2.2.2 c ag g (w, v, (n : Int)) = r) : ∀ (rest : Nat) (p : List Int) (v : Nat), p.length + rest = n → v < 1000 → p ++ code k rest v = w → ∀ m, rest < m →
    fixN (scrutinylaw09_DfaAll_L4 signs wide total d.1 d.2.1 d.2.2.1 d.2.2.2.1 d.2.2.2.2 c ag) m (p ++ List.replicate rest 0, (v : Int), (p.length : Int)) = r
  | 0, p, v, hp, hv, hw, m, hm => by
    obtain ⟨m, rfl⟩ : ∃ j, m = j + 1 := ⟨m - 1, by omega⟩
    rw [fixN_succ]
    have := hr (fixN (scrutinylaw09_DfaAll_L4 signs wide total d.1 d.2.1 d.2.2.1 d.2.2.2.1 d.2.2.2.2 c ag) m) (v : Int)
    simp only [code, List.append_nil] at hw
    rw [show p ++ List.replicate 0 0 = w by simp [hw], show p.length = n by omega, this]
  | rest + 1, p, v, hp, hv, hw, m, hm => by
    obtain ⟨m, rfl⟩ : ∃ j, m = j + 1 := ⟨m - 1, by omega⟩
    rw [fixN_succ]
    have hlt := Nat.mod_lt v (show 0 < k by omega)
    have hdv : v / k ≤ v := Nat.div_le_self v k
    simp only [code] at hw
    have ih := word_loop hk hn eK eN hr rest (p ++ [((v % k : Nat) : Int)]) (v / k) (by simp; omega) (by omega) (by rw [← hw]; simp) m (by omega)
    have t1 : Int.tmod (v : Int) (k : Int) = ((v % k : Nat) : Int) := rfl
    have t2 : Int.tdiv (v : Int) (k : Int) = ((v / k : Nat) : Int) := rfl
    generalize v % k = x at *
    generalize v / k = y at *
    generalize fixN (scrutinylaw09_DfaAll_L4 signs wide total d.1 d.2.1 d.2.2.1 d.2.2.2.1 d.2.2.2.2 c ag) m = g at ih ⊢
    rw [show ((p ++ [(x : Int)]).length : Int) = ((p.length + 1 : Nat) : Int) by simp] at ih
    have u8 : IntKind.u8.wrap (x : Int) = (x : Int) := by
      show (x : Int) % (2 ^ 8) = _
      omega
    have st : (p ++ List.replicate (rest + 1) 0).set (Int.toNat (p.length : Int)) (x : Int) = p ++ [(x : Int)] ++ List.replicate rest 0 := by
      rw [List.replicate_succ]; simp
    unfold scrutinylaw09_DfaAll_L4
    dsimp only
    rw [eK, eN, show decide ((p.length : Int) < (n : Int)) = true by simp; omega, cond_true, show ((k : Int) != 0) = true by simp; omega, chk_t, idx_mid (pre := p) (x := 0) (r := List.replicate rest 0) (by rw [List.replicate_succ])]
    simp only [bind_p]
    rw [chk_t, next_ix (by omega), t1, t2, w64 (x := (y : Int)) (by omega), u8, st, ih]
end Df
end Go.Proofs.Ytjappdgehmjomaa
