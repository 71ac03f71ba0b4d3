/-
  The words of an automaton, rising. (own)
-/
import Derived.Test.YtjappdgehmjomaaDfaIns
namespace Go.Proofs.Ytjappdgehmjomaa
namespace Df

def ltw : List Int → List Int → Bool
  | _, [] => false
  | [], _ :: _ => true
  | a :: x, b :: y => decide (a < b) || (a == b && ltw x y)
theorem ltw_irr : ∀ x, ¬ ltw x x = true
  | [] => by simp [ltw]
  | a :: x => by simp [ltw, ltw_irr x]
theorem ltw_trans : ∀ {x y z : List Int}, ltw x y = true → ltw y z = true → ltw x z = true
  | _, [], _, h, _ => by simp [ltw] at h
  | _, _ :: _, [], _, h => by simp [ltw] at h
  | [], _ :: _, _ :: _, _, _ => by simp [ltw]
  | a :: x, b :: y, c :: z, h1, h2 => by
    simp only [ltw, Bool.or_eq_true, decide_eq_true_eq, Bool.and_eq_true, beq_iff_eq] at *
    rcases h1 with h1 | ⟨h1, h3⟩ <;> rcases h2 with h2 | ⟨h2, h4⟩
    · left; omega
    · left; omega
    · left; omega
    · right; exact ⟨by omega, ltw_trans h3 h4⟩
theorem ltw_asymm {x y : List Int} (h : ltw x y = true) : ¬ ltw y x = true := fun h' => ltw_irr _ (ltw_trans h h')
theorem ltw_tri : ∀ x y : List Int, ltw x y = true ∨ x = y ∨ ltw y x = true
  | [], [] => by simp
  | [], _ :: _ => by simp [ltw]
  | _ :: _, [] => by simp [ltw]
  | a :: x, b :: y => by
    simp only [ltw, Bool.or_eq_true, decide_eq_true_eq, Bool.and_eq_true, beq_iff_eq, List.cons.injEq]
    rcases ltw_tri x y with h | h | h <;> rcases Int.lt_trichotomy a b with h' | h' | h' <;> simp_all
abbrev Sor (l : List (List Int)) : Prop := l.Pairwise fun x y => ltw x y = true
theorem sor_eq {l m : List (List Int)} (hl : Sor l) (hm : Sor m) (h : ∀ x, x ∈ l ↔ x ∈ m) : l = m := rise_eq (R := fun x y => ltw x y = true) ltw_irr (fun _ _ => ltw_asymm) hl hm h
theorem sor_nodup {l : List (List Int)} (h : Sor l) : l.Nodup := by
  refine List.Pairwise.imp ?_ h
  intro a b h e; rw [e] at h; exact ltw_irr b h
/-- a word is laid among words -/
def insW (w : List Int) (l : List (List Int)) : List (List Int) := l.filter (fun v => ltw v w) ++ w :: l.filter (fun v => !ltw v w)
theorem insW_mem {w v : List Int} {l : List (List Int)} : v ∈ insW w l ↔ v = w ∨ v ∈ l := by
  simp only [insW, List.mem_append, List.mem_filter, List.mem_cons, Bool.not_eq_true']
  cases ltw v w <;> simp
  exact ⟨fun h => h.symm, fun h => h.symm⟩
theorem insW_sor {w : List Int} {l : List (List Int)} (h : Sor l) (hn : w ∉ l) : Sor (insW w l) := by
  refine List.pairwise_append.2 ⟨h.filter _, List.pairwise_cons.2 ⟨fun v hv => ?_, h.filter _⟩, fun u hu v hv => ?_⟩
  · simp only [List.mem_filter, Bool.not_eq_true'] at hv
    rcases ltw_tri w v with h | h | h
    · exact h
    · exact absurd (h ▸ hv.1) hn
    · rw [hv.2] at h; cases h
  · simp only [List.mem_filter, List.mem_cons, Bool.not_eq_true'] at hu hv
    rcases hv with rfl | hv
    · exact hu.2
    · rcases ltw_tri w v with h | h | h
      · exact ltw_trans hu.2 h
      · exact absurd (h ▸ hv.1) hn
      · rw [hv.2] at h; cases h
theorem insW_len {w : List Int} {l : List (List Int)} : (insW w l).length = l.length + 1 := by
  have : ∀ l : List (List Int), (l.filter (fun v => ltw v w)).length + (l.filter (fun v => !ltw v w)).length = l.length := by
    intro l
    induction l with
    | nil => rfl
    | cons v l ih => cases h : ltw v w <;> simp [h] <;> omega
  simp only [insW, List.length_append, List.length_cons]
  have := this l; omega

/-- the words that a node takes -/
def wd (N : List Nd) : Nat → Int → List (List Int)
  | 0, _ => [[]]
  | h + 1, i => (nx N i).flatMap fun e => (wd N h e.2).map (e.1 :: ·)
theorem wd_mem {N : List Nd} : ∀ {h : Nat} {i : Int} {v : List Int}, v ∈ wd N h i ↔ v.length = h ∧ acc N v i
  | 0, i, v => by
    simp only [wd, List.mem_singleton]
    exact ⟨fun h => by subst h; simp [acc], fun h => List.length_eq_zero_iff.1 h.1⟩
  | h + 1, i, v => by
    simp only [wd, List.mem_flatMap, List.mem_map]
    constructor
    · rintro ⟨e, he, u, hu, rfl⟩
      have := wd_mem.1 hu
      exact ⟨by simp [this.1], e, he, rfl, this.2⟩
    · cases v with
      | nil => intro h; simp at h
      | cons b v =>
        rintro ⟨hl, e, he, hb, ha⟩
        exact ⟨e, he, v, wd_mem.2 ⟨by simpa using hl, ha⟩, by rw [hb]⟩
theorem wd_sor {N : List Nd} {A : List Int} : ∀ {h : Nat} {i : Int}, At N A h i → Sor (wd N h i)
  | 0, _, _ => by simp [wd, Sor]
  | h + 1, i, a => by
    refine List.pairwise_flatMap.2 ⟨fun e he => List.pairwise_map.2 ((wd_sor (a.2.2.2 e he)).imp ?_), a.2.2.1.1.imp ?_⟩
    · intro x y h; simp [ltw, h]
    · intro e f hef x hx y hy
      obtain ⟨x, _, rfl⟩ := List.mem_map.1 hx
      obtain ⟨y, _, rfl⟩ := List.mem_map.1 hy
      simp [ltw, hef]

abbrev SW := Int × List Int × Int × List Nd × Int × Int × List Int × List (List Int)
def WALK (k : SW → Option (List (List Int))) (s : SW) : Option (List (List Int)) := dfa_Words_c1_F k s.1 s.2.1 s.2.2.1 s.2.2.2.1 s.2.2.2.2.1 s.2.2.2.2.2.1 s.2.2.2.2.2.2.1 s.2.2.2.2.2.2.2
theorem walk_eq (i : Int) (b : List Int) (wi : Int) (N : List Nd) (ro ma : Int) (F : List Int) (o : List (List Int)) : dfa_Words_c1 i b wi N ro ma F o = fixN WALK FUEL (i, b, wi, N, ro, ma, F, o) := rfl
theorem words_loop {N : List Nd} {A : List Int} {k n W : Nat} {ro ma : Int} {F : List Int} {x : Nd} {b : List Int} (hx : x.1.length < 1048576) (hb : b.length + 1 + k = W) (hW : W ≤ 64)
    (ih : ∀ (i : Int) (b : List Int) (o : List (List Int)), At N A k i → b.length + k = W → o.length + (wd N k i).length ≤ 100000 → fixN WALK n (i, b, W, N, ro, ma, F, o) = some (o ++ (wd N k i).map (b ++ ·))) :
    ∀ (q p : List (Int × Int)), x.1 = p ++ q → (∀ e ∈ q, At N A k e.2) → ∀ (o : List (List Int)), o.length + (q.flatMap fun e => (wd N k e.2).map (e.1 :: ·)).length ≤ 100000 → ∀ m, q.length < m →
      fixN (dfa_Words_c1_L2 (fixN WALK n) b W N ro ma F x) m (o, (p.length : Int)) = some (o ++ (q.flatMap fun e => (wd N k e.2).map (e.1 :: ·)).map (b ++ ·))
  | [], p, h, _, o, _, m, hm => by
    obtain ⟨m, rfl⟩ : ∃ k, m = k + 1 := ⟨m - 1, by simp at hm; omega⟩
    rw [fixN_succ]
    unfold dfa_Words_c1_L2
    dsimp only
    rw [lt_f h, cond_false]; simp
  | e :: q, p, h, ha, o, ho, m, hm => by
    obtain ⟨m, rfl⟩ : ∃ k, m = k + 1 := ⟨m - 1, by simp at hm; omega⟩
    rw [fixN_succ]
    have hp : p.length < 1048576 := by rw [h] at hx; simp at hx; omega
    simp only [List.flatMap_cons, List.length_append, List.length_map] at ho
    have r2 := words_loop hx hb hW ih q (p ++ [e]) (by rw [h]; simp) (fun e he => ha e (by simp [he])) (o ++ (wd N k e.2).map ((b ++ [e.1]) ++ ·)) (by simp only [List.length_append, List.length_map]; omega) m (by simp at hm; omega)
    generalize fixN (dfa_Words_c1_L2 (fixN WALK n) b W N ro ma F x) m = g at r2 ⊢
    unfold dfa_Words_c1_L2
    dsimp only
    rw [lt_t h, cond_true, idx_mid h]
    simp only [bind_s]
    unfold slices_Clip_byte_byte
    rw [cut3B_iff.2 (by omega), chk_t]
    simp only [bind_s]
    rw [show cutL b 0 ((b.length : Nat) : Int) = b by simp [cutL], room_t (by simp; omega) (by simp; omega), chk_t, ih e.2 (b ++ [e.1]) o (ha e (by simp)) (by simp; omega) (by omega)]
    simp only [bind_s]
    rw [next_ix (by omega), show ((p.length + 1 : Nat) : Int) = ((p ++ [e]).length : Int) by simp]
    refine Eq.trans r2 ?_
    simp [List.map_map, Function.comp_def]
theorem words_none {g : SW → Option (List (List Int))} {b : List Int} {wi : Int} {N : List Nd} {ro ma : Int} {F : List Int} {x : Nd} (hx : x.1 = []) (o : List (List Int)) : ∀ m, 0 < m → fixN (dfa_Words_c1_L2 g b wi N ro ma F x) m (o, 0) = some o
  | m + 1, _ => by
    rw [fixN_succ]
    unfold dfa_Words_c1_L2
    dsimp only
    rw [hx]; rfl
theorem walk_zero {N : List Nd} {A : List Int} {W : Nat} {ro ma : Int} {F : List Int} (hr : ∀ i ∈ A, 0 ≤ i ∧ i < N.length) (hW : W ≤ 64) {g : SW → Option (List (List Int))} {i : Int} {b : List Int} {o : List (List Int)} (a : At N A 0 i) (hb : b.length = W) (ho : o.length + 1 ≤ 100000) : WALK g (i, b, W, N, ro, ma, F, o) = some (o ++ [b]) := by
  have hi := hr i a.mem
  have e1 : slices_Clone_byte_byte b = some b := by
    unfold slices_Clone_byte_byte
    rw [room_t (by simp; omega) (by simp; omega)]; rfl
  have e2 : roomB (List.length o + List.length ([b] : List (List Int))) 24 = true := room_t (by simp; omega) (by simp; omega)
  have e3 : ((b.length : Int) == (W : Int)) = true := by simp; omega
  unfold WALK dfa_Words_c1_F dfa_Words_c1_K1
  dsimp only
  rw [e3, cond_true, e1]
  simp only [bind_s]
  rw [e2, chk_t, idx_nd hi.1 hi.2]
  simp only [bind_s]
  have h0 : nx N i = [] := a.2
  have hp : 0 < FUEL := Nat.two_pow_pos 64
  generalize FUEL = fu at hp ⊢
  rw [words_none (x := (nx N i, rf N i)) h0 (o ++ [b]) fu hp]
theorem walk_succ {N : List Nd} {A : List Int} {k W : Nat} {ro ma : Int} {F : List Int} (hr : ∀ i ∈ A, 0 ≤ i ∧ i < N.length) {g : SW → Option (List (List Int))} {i : Int} {b : List Int} {o : List (List Int)} {r : Option (List (List Int))} (a : At N A (k + 1) i) (hb : b.length + (k + 1) = W)
    (h : fixN (dfa_Words_c1_L2 g b W N ro ma F (nx N i, rf N i)) FUEL (o, 0) = r) : WALK g (i, b, W, N, ro, ma, F, o) = r := by
  unfold WALK dfa_Words_c1_F dfa_Words_c1_K1
  dsimp only
  have hi := hr i a.mem
  rw [show ((b.length : Int) == (W : Int)) = false by simp; omega, cond_false, idx_nd hi.1 hi.2]
  simp only [bind_s]
  exact h
theorem walk_ok {N : List Nd} {A : List Int} {W : Nat} {ro ma : Int} {F : List Int} (hr : ∀ i ∈ A, 0 ≤ i ∧ i < N.length) (hW : W ≤ 64) : ∀ (h n : Nat), h < n → ∀ (i : Int) (b : List Int) (o : List (List Int)), At N A h i → b.length + h = W → o.length + (wd N h i).length ≤ 100000 → fixN WALK n (i, b, W, N, ro, ma, F, o) = some (o ++ (wd N h i).map (b ++ ·)) := by
  intro h
  induction h with
  | zero =>
    intro n hn i b o a hb ho
    obtain ⟨n, rfl⟩ : ∃ k, n = k + 1 := ⟨n - 1, by omega⟩
    rw [fixN_succ, walk_zero hr hW a (by omega) (by simpa [wd] using ho)]
    simp [wd]
  | succ k ih =>
    intro n hn i b o a hb ho
    obtain ⟨n, rfl⟩ : ∃ k, n = k + 1 := ⟨n - 1, by omega⟩
    rw [fixN_succ]
    have hl := rise_len a.rise
    exact walk_succ hr a hb (words_loop (x := (nx N i, rf N i)) (ro := ro) (ma := ma) (F := F) (b := b) (by simp only []; omega) (by omega) hW (fun i b o a hb ho => ih n (by omega) i b o a hb ho) (nx N i) [] rfl a.2.2.2 o ho FUEL (by show _ < 2 ^ 64; omega))

/-- a set of these words, that rise -/
structure Is (d : D) (W : Nat) (L : List (List Int)) (A : List Int) : Prop where
  good : Good d W L.length A
  sor : Sor L
  len : ∀ v ∈ L, v.length = W ∧ ∀ b ∈ v, 0 ≤ b ∧ b < 256
  mem : ∀ v, v.length = W → (takes d v ↔ v ∈ L)
theorem new_is {W : Nat} (h : 1 ≤ W ∧ W ≤ 64) : Is ((W : Int), [], -1, 0, []) W [] [] := ⟨new_good h, .nil, by simp, fun v _ => by simp [takes]⟩
theorem Is.wd {d : D} {W : Nat} {L : List (List Int)} {A : List Int} (I : Is d W L A) (h0 : d.2.2.1 ≠ -1) : wd d.2.1 W d.2.2.1 = L := by
  have a := I.good.root.resolve_left fun h => h0 h.1
  refine sor_eq (wd_sor a) I.sor fun v => ?_
  rw [wd_mem]
  constructor
  · rintro ⟨h1, h2⟩; exact (I.mem v h1).1 ⟨h0, h2⟩
  · intro h; exact ⟨(I.len v h).1, ((I.mem v (I.len v h).1).2 h).2⟩
theorem Is.empty {d : D} {W : Nat} {L : List (List Int)} {A : List Int} (I : Is d W L A) (h0 : d.2.2.1 = -1) : L = [] := by
  refine List.eq_nil_iff_forall_not_mem.2 fun v h => ?_
  exact ((I.mem v (I.len v h).1).2 h).1 h0
theorem words_ok {d : D} {W : Nat} {L : List (List Int)} {A : List Int} (I : Is d W L A) : dfa_Words d = some L := by
  unfold dfa_Words
  simp only [letv_e]
  have hw := I.good.w1
  have h4 := I.good.m4
  by_cases h0 : d.2.2.1 = -1
  · rw [h0, I.empty h0]; rfl
  · rw [show (d.2.2.1 == -1) = false by simpa using h0, show (d.1 == 0) = false by rw [I.good.wide]; simp; omega]
    simp only [Bool.or_false, cond_false]
    have a := I.good.root.resolve_left fun h => h0 h.1
    rw [walk_eq, I.good.wide, walk_ok (A := A) (fun i hi => I.good.inv.range hi) hw.2 W FUEL (by show _ < 2 ^ 64; omega) d.2.2.1 [] [] a (by simp) (by rw [I.wd h0]; simp; omega), I.wd h0]
    simp
theorem many_ok {d : D} {W : Nat} {L : List (List Int)} {A : List Int} (I : Is d W L A) : dfa_Many d = some (L.length : Int) := by
  unfold dfa_Many; rw [I.good.many]
theorem hasL_ok {d : D} {W : Nat} {L : List (List Int)} {A : List Int} (I : Is d W L A) {w : List Int} (hw : w.length < 1048576) : dfa_Has d w = some (decide (w ∈ L)) := by
  obtain ⟨r, h1, h2⟩ := has_ok I.good hw
  rw [h1]; congr 1
  rw [Bool.eq_iff_iff, h2, decide_eq_true_eq]
  exact ⟨fun h => (I.mem w h.1).1 h.2, fun h => ⟨(I.len w h).1, (I.mem w (I.len w h).1).2 h⟩⟩
theorem insL_ok {d : D} {W : Nat} {L : List (List Int)} {A : List Int} (I : Is d W L A) (hm : L.length < 4000) {w : List Int} (hb : ∀ b ∈ w, 0 ≤ b ∧ b < 256) (hl : w.length < 1048576) :
    (w.length ≠ W ∧ dfa_Insert d w = some (d, false, 1)) ∨ (w.length = W ∧ w ∈ L ∧ dfa_Insert d w = some (d, false, 0)) ∨
    (w.length = W ∧ w ∉ L ∧ ∃ d' A', dfa_Insert d w = some (d', true, 0) ∧ Is d' W (insW w L) A') := by
  rcases ins_ok I.good hm hb hl with h | ⟨h1, h2, h3⟩ | ⟨h1, h2, d', A', h3, h4, h5⟩
  · exact .inl h
  · exact .inr (.inl ⟨h1, (I.mem w h1).1 h2, h3⟩)
  · have hn : w ∉ L := fun h => h2 ((I.mem w h1).2 h)
    refine .inr (.inr ⟨h1, hn, d', A', h3, by rw [insW_len]; exact h4, insW_sor I.sor hn, fun v hv => ?_, fun v hv => ?_⟩)
    · rcases insW_mem.1 hv with rfl | hv
      · exact ⟨h1, hb⟩
      · exact I.len v hv
    · rw [h5 v hv, insW_mem, I.mem v hv]
end Df
end Go.Proofs.Ytjappdgehmjomaa
