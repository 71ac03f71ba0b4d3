/-
  The automaton, plainly: edges, counts, heights, words. (own)
-/
import Derived.Test.YtjappdgehmjomaaDfaBase
namespace Go.Proofs.Ytjappdgehmjomaa
namespace Df

abbrev Nd := List (Int × Int) × Int
def nx (N : List Nd) (i : Int) : List (Int × Int) := ((idx N i).getD ([], 0)).1
def rf (N : List Nd) (i : Int) : Int := ((idx N i).getD ([], 0)).2
def tg (N : List Nd) (i : Int) : List Int := (nx N i).map (·.2)
theorem idx_nd {N : List Nd} {i : Int} (h0 : 0 ≤ i) (h : i < N.length) : idx N i = some (nx N i, rf N i) := by
  obtain ⟨x, hx⟩ := idx_in h0 h
  simp [nx, rf, hx]
theorem nx_set {N : List Nd} {i j : Int} {x : Nd} (h0 : 0 ≤ i) (hi : i < N.length) : nx (N.set i.toNat x) j = if j = i then x.1 else nx N j := by
  unfold nx; rw [idx_set h0 hi]; split <;> rfl
theorem rf_set {N : List Nd} {i j : Int} {x : Nd} (h0 : 0 ≤ i) (hi : i < N.length) : rf (N.set i.toNat x) j = if j = i then x.2 else rf N j := by
  unfold rf; rw [idx_set h0 hi]; split <;> rfl

/-- edges rise, by bytes -/
def Rise (l : List (Int × Int)) : Prop := l.Pairwise (fun a b => a.1 < b.1) ∧ ∀ e ∈ l, 0 ≤ e.1 ∧ e.1 < 256
/-- a live node so many bytes ahead of the end -/
def At (N : List Nd) (A : List Int) : Nat → Int → Prop
  | 0, i => i ∈ A ∧ nx N i = []
  | h + 1, i => i ∈ A ∧ nx N i ≠ [] ∧ Rise (nx N i) ∧ ∀ e ∈ nx N i, At N A h e.2
theorem At.mem {N : List Nd} {A : List Int} : ∀ {h : Nat} {i : Int}, At N A h i → i ∈ A
  | 0, _, a => a.1
  | _ + 1, _, a => a.1
theorem At.rise {N : List Nd} {A : List Int} : ∀ {h : Nat} {i : Int}, At N A h i → Rise (nx N i)
  | 0, _, a => by rw [a.2]; exact ⟨List.Pairwise.nil, by simp⟩
  | _ + 1, _, a => a.2.2.1
theorem At.uniq {N : List Nd} {A : List Int} : ∀ {h k : Nat} {i : Int}, At N A h i → At N A k i → h = k
  | 0, 0, _, _, _ => rfl
  | 0, _ + 1, _, a, b => absurd a.2 b.2.1
  | _ + 1, 0, _, a, b => absurd b.2 a.2.1
  | h + 1, k + 1, i, a, b => by
    obtain ⟨e, he⟩ := List.exists_mem_of_ne_nil _ a.2.1
    rw [At.uniq (a.2.2.2 e he) (b.2.2.2 e he)]
/-- what stays of nodes that stay -/
theorem At.keep {N N' : List Nd} {A A' : List Int} (hn : ∀ j ∈ A', j ∈ A → nx N' j = nx N j) (hc : ∀ j ∈ A', j ∈ A → ∀ e ∈ nx N j, e.2 ∈ A → e.2 ∈ A') : ∀ {h : Nat} {i : Int}, At N A h i → i ∈ A' → At N' A' h i
  | 0, _, a, m => ⟨m, by rw [hn _ m a.1]; exact a.2⟩
  | h + 1, i, a, m => by
    have e := hn i m a.1
    exact ⟨m, by rw [e]; exact a.2.1, by rw [e]; exact a.2.2.1, fun x hx => by
      rw [e] at hx
      exact At.keep hn hc (a.2.2.2 x hx) (hc i m a.1 x hx (a.2.2.2 x hx).mem)⟩
theorem At.grow {N N' : List Nd} {A A' : List Int} (hs : ∀ j ∈ A, j ∈ A') (hn : ∀ j ∈ A, nx N' j = nx N j) {h : Nat} {i : Int} (a : At N A h i) : At N' A' h i :=
  a.keep (fun j _ hj => hn j hj) (fun _ _ _ _ _ h => hs _ h) (hs _ a.mem)

/-- does this node take the word? (of its length) -/
def acc (N : List Nd) : List Int → Int → Prop
  | [], _ => True
  | b :: w, i => ∃ e ∈ nx N i, e.1 = b ∧ acc N w e.2
theorem acc.same {N N' : List Nd} {A : List Int} (hn : ∀ j ∈ A, nx N' j = nx N j) : ∀ {h : Nat} {i : Int}, At N A h i → ∀ {w : List Int}, w.length = h → (acc N' w i ↔ acc N w i)
  | 0, _, _, [], _ => Iff.rfl
  | h + 1, i, a, b :: w, hw => by
    unfold acc
    rw [hn i a.1]
    exact exists_congr fun e => ⟨fun ⟨m, x, y⟩ => ⟨m, x, (acc.same hn (a.2.2.2 e m) (by simpa using hw)).1 y⟩, fun ⟨m, x, y⟩ => ⟨m, x, (acc.same hn (a.2.2.2 e m) (by simpa using hw)).2 y⟩⟩
theorem rise_one {l : List (Int × Int)} (h : Rise l) {a b : Int × Int} (ha : a ∈ l) (hb : b ∈ l) (e : a.1 = b.1) : a = b := by
  replace h := h.1
  induction l with
  | nil => cases ha
  | cons x l ih =>
    have hp := List.pairwise_cons.1 h
    rcases List.mem_cons.1 ha with h1 | h1 <;> rcases List.mem_cons.1 hb with h2 | h2
    · rw [h1, h2]
    · have := hp.1 b h2; rw [h1] at e; omega
    · have := hp.1 a h1; rw [h2] at e; omega
    · exact ih h1 h2 hp.2
theorem acc_cons {N : List Nd} {i b : Int} {w : List Int} (hr : Rise (nx N i)) {e : Int × Int} (he : e ∈ nx N i) (hb : e.1 = b) : acc N (b :: w) i ↔ acc N w e.2 :=
  ⟨fun ⟨x, hx, hxb, h⟩ => by rw [rise_one hr he hx (by omega)]; exact h, fun h => ⟨e, he, hb, h⟩⟩
/-- each live node takes some word -/
theorem At.some {N : List Nd} {A : List Int} : ∀ {h : Nat} {i : Int}, At N A h i → ∃ w, w.length = h ∧ acc N w i
  | 0, _, _ => ⟨[], rfl, trivial⟩
  | h + 1, i, a => by
    obtain ⟨e, he⟩ := List.exists_mem_of_ne_nil _ a.2.1
    obtain ⟨w, hw, ha⟩ := (a.2.2.2 e he).some
    exact ⟨e.1 :: w, by simp [hw], e, he, rfl, ha⟩
theorem rise_eq' {l m : List (Int × Int)} (hl : Rise l) (hm : Rise m) (h : ∀ x, x ∈ l ↔ x ∈ m) : l = m :=
  rise_eq (R := fun a b => a.1 < b.1) (fun a => by omega) (fun a b => by omega) hl.1 hm.1 h
/-- nodes of the same words are one -/
theorem At.inj {N : List Nd} {A : List Int} (hd : ∀ i ∈ A, ∀ j ∈ A, nx N i = nx N j → i = j) : ∀ {h : Nat} {i j : Int}, At N A h i → At N A h j → (∀ w, w.length = h → (acc N w i ↔ acc N w j)) → i = j
  | 0, i, j, a, b, _ => hd i a.1 j b.1 (by rw [a.2, b.2])
  | h + 1, i, j, a, b, e => hd i a.1 j b.1 (by
    have half : ∀ {i j : Int}, At N A (h + 1) i → At N A (h + 1) j → (∀ w, w.length = h + 1 → (acc N w i ↔ acc N w j)) → ∀ x ∈ nx N i, x ∈ nx N j := by
      intro i j a b e x hx
      obtain ⟨w, hw, hacc⟩ := (a.2.2.2 x hx).some
      obtain ⟨y, hy, hyx, _⟩ := (e (x.1 :: w) (by simp [hw])).1 ⟨x, hx, rfl, hacc⟩
      have : x.2 = y.2 := At.inj hd (a.2.2.2 x hx) (b.2.2.2 y hy) fun v hv => by
        have := e (x.1 :: v) (by simp [hv])
        rwa [acc_cons a.2.2.1 hx rfl, acc_cons b.2.2.1 hy hyx] at this
      have : x = y := Prod.ext hyx.symm this
      rw [this]; exact hy
    exact rise_eq' a.2.2.1 b.2.2.1 fun x => ⟨half a b e x, half b a (fun w hw => (e w hw).symm) x⟩)

/-- all is in order: live nodes A, free ones F, ones that are being left Z, tokens X that lead in from outside, live ones T to which nothing leads -/
structure Inv (N : List Nd) (F Z A X T : List Int) (W : Nat) : Prop where
  nd : (A ++ F ++ Z).Nodup
  rng : ∀ i, i ∈ A ++ F ++ Z ↔ 0 ≤ i ∧ i < N.length
  cnt : ∀ i, rf N i = ((A.flatMap (tg N) ++ X).count i : Nat)
  dead : ∀ i, i ∉ A → rf N i = 0
  top : ∀ i ∈ A, rf N i = 0 → i ∈ T
  dist : ∀ i ∈ A, ∀ j ∈ A, nx N i = nx N j → i = j
  good : ∀ i ∈ A, ∃ h, h ≤ W ∧ At N A h i
variable {N : List Nd} {F Z A X T : List Int} {W : Nat}
theorem Inv.range (I : Inv N F Z A X T W) {i : Int} (h : i ∈ A) : 0 ≤ i ∧ i < N.length := (I.rng i).1 (by simp [h])
theorem Inv.closed (I : Inv N F Z A X T W) {i : Int} (h : i ∈ A) {e : Int × Int} (he : e ∈ nx N i) : e.2 ∈ A := by
  obtain ⟨k, _, a⟩ := I.good i h
  cases k with
  | zero => rw [a.2] at he; cases he
  | succ k => exact (a.2.2.2 e he).mem
theorem Inv.ext (I : Inv N F Z A X T W) {i : Int} (h : i ∈ X) : i ∈ A := by
  by_cases ha : i ∈ A
  · exact ha
  · have h1 := I.dead i ha
    have h2 := I.cnt i
    have : 0 < X.count i := List.count_pos_iff.2 h
    rw [List.count_append] at h2; omega
theorem Inv.pos (I : Inv N F Z A X T W) (i : Int) : 0 ≤ rf N i := by rw [I.cnt]; omega
/-- what leads to something is counted -/
theorem Inv.led (I : Inv N F Z A X T W) {j i : Int} (hj : j ∈ A) (h : i ∈ tg N j) : 0 < rf N i := by
  rw [I.cnt]
  have : 0 < (A.flatMap (tg N) ++ X).count i := List.count_pos_iff.2 (by simp only [List.mem_append, List.mem_flatMap]; exact .inl ⟨j, hj, h⟩)
  omega
end Df
end Go.Proofs.Ytjappdgehmjomaa
