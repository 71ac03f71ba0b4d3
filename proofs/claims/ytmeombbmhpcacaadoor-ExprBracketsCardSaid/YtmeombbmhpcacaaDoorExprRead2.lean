/-
  How the program reads tokens as a tree: all lines, one over the other; and the whole. (own)
-/
import Derived.Test.YtmeombbmhpcacaaDoorExprRead
namespace Go.Proofs.YtmeombbmhpcacaaDoor
namespace Pa
open Job

section
variable (names : List Str) (l : List Tok) (N : Nat)
/-- a reader of a line is right where so many tokens are left -/
def Gd (s : Nat) (n : Nat) (f : Int → Int → Int → Option R5) : Prop :=
  ∀ (a : Nat) (d pl : Int), 0 ≤ d → d ≤ 320 → Ends (l.drop a) → (l.drop a).length ≤ n → Snd names l (line s) d (l.drop a) pl (f (a : Int) d pl)
abbrev PF := (List Tok × Int × List Str × Int × Int × Int) → Option R5
def Gk (s : Nat) (n : Nat) (k : PF) : Prop := Gd names l s n fun a d pl => k (l, a, names, d, 0, pl)
end
variable {names : List Str} {l : List Tok} {n : Nat}

theorem Gd.le {s m n : Nat} {f} (h : Gd names l s n f) (hm : m ≤ n) : Gd names l s m f := fun a d pl h0 h1 h2 h3 => h a d pl h0 h1 h2 (by omega)
theorem len_le (a : Nat) : (l.drop a).length ≤ l.length := by simp
theorem gd_one (hn : names.length < 4611686018427387904) (hl : l.length < 4611686018427387904) {k : PF} (hk : Gk names l 1 n k) : Gd names l 11 (n + 1) fun a d pl => expr_read_one k l a names d 0 pl :=
  fun a d pl h0 h1 h2 h3 => snd_one hn hl h2 (fun b hb1 hb2 => hk b d pl h0 h1 hb1 (by omega))

theorem gd_rec {s : Nat} {F : PF → PF} (h : ∀ m k, m ≤ n → Gk names l s m k → Gk names l s (m + 1) (F k)) : ∀ m, m ≤ n + 1 → Gk names l s m (fixN F m) := by
  intro m
  induction m with
  | zero =>
    intro _ a d pl _ _ h2 h3
    obtain ⟨t, r, hr⟩ := h2.ne
    rw [hr] at h3; simp at h3
  | succ m ih => intro hm; exact h m _ (by omega) (ih (by omega))
theorem gd_fuel {s : Nat} {F : PF → PF} (hl : l.length < 4611686018427387904) (h : ∀ m k, m ≤ n → Gk names l s m k → Gk names l s (m + 1) (F k)) : Gk names l s (n + 1) (fixN F FUEL) := by
  by_cases hf : FUEL ≤ n + 1
  · intro a d pl h0 h1 h2 h3
    have := len_le (l := l) a
    exact gd_rec (n := n) h FUEL hf a d pl h0 h1 h2 (by show _ ≤ 2 ^ 64; omega)
  · -- a fuel beyond the length: the length alone counts
    intro a d pl h0 h1 h2 h3
    have : ∀ m, n + 1 ≤ m → Gk names l s (n + 1) (fixN F m) := by
      intro m
      induction m with
      | zero => intro hm; omega
      | succ m ih =>
        intro hm
        by_cases he : n + 1 ≤ m
        · exact h n _ (Nat.le_refl _) ((ih he).le (by omega))
        · exact gd_rec (n := n) h (m + 1) (by omega) |>.le (by omega)
    exact this FUEL (by omega) a d pl h0 h1 h2 h3

theorem gd_s5 (hn : names.length < 4611686018427387904) (hl : l.length < 4611686018427387904) {k : PF} (hk : Gk names l 1 n k) : Gd names l 10 (n + 1) fun a d pl => expr_read_deepNeg k l a names d 0 pl := by
  have hF : ∀ m k5, m ≤ n → Gk names l 10 m k5 → Gk names l 10 (m + 1) (fun s => expr_read_lower_s5_F k k5 s.1 s.2.1 s.2.2.1 s.2.2.2.1 s.2.2.2.2.1 s.2.2.2.2.2) := by
    intro m k5 hm h5 a d pl h0 h1 h2 h3
    have hg : ∀ D, expr_read_neg k k5 l a names D 0 pl = gBefore names l (ops 10) a D 0 pl (expr_read_one k l a names D 0 pl) (fun a d b p => k5 (l, a, names, d, b, p)) := fun D => by
      unfold expr_read_neg; rw [bind_eta]; rfl
    show Snd names l (line 10) d (l.drop a) pl (gLower names l a d 0 pl (fun D => expr_read_neg k k5 l a names D 0 pl))
    refine snd_lower rfl h0 h1 h2 (fun hd => ?_)
    show SndI names l 10 (d + 1) (l.drop a) pl (expr_read_neg k k5 l a names (d + 1) 0 pl)
    rw [hg]
    exact snd_before rfl hl h2 (gd_one hn hl hk a (d + 1) pl (by omega) (by omega) h2 (by omega)) (fun b hb1 hb2 => h5 b (d + 1) pl (by omega) (by omega) hb1 (by omega))
  intro a d pl h0 h1 h2 h3
  show Snd names l (line 10) d (l.drop a) pl (expr_read_deepNeg k l a names d 0 pl)
  unfold expr_read_deepNeg
  rw [bind_eta]
  exact gd_fuel (n := n) hl hF a d pl h0 h1 h2 h3
theorem gd_prod (hn : names.length < 4611686018427387904) (hl : l.length < 4611686018427387904) {k : PF} (hk : Gk names l 1 n k) : Gd names l 9 (n + 1) fun a d pl => expr_read_prod k l a names d 0 pl := by
  intro a d pl h0 h1 h2 h3
  have hg : expr_read_prod k l a names d 0 pl = gLeft names l (ops 9) (expr_read_deepNeg k l a names d 0 pl) (fun a d b p => expr_read_deepNeg k l a names d b p) := by
    unfold expr_read_prod; rw [bind_eta]; rfl
  show Snd names l (line 9) d (l.drop a) pl (expr_read_prod k l a names d 0 pl)
  rw [hg]
  exact snd_left rfl hl h2 (len_le a) (gd_s5 hn hl hk a d pl h0 h1 h2 h3) (fun b hb1 hb2 => gd_s5 hn hl hk b d pl h0 h1 hb1 (by omega))
theorem gd_sum (hn : names.length < 4611686018427387904) (hl : l.length < 4611686018427387904) {k : PF} (hk : Gk names l 1 n k) : Gd names l 8 (n + 1) fun a d pl => expr_read_sum k l a names d 0 pl := by
  intro a d pl h0 h1 h2 h3
  have hg : expr_read_sum k l a names d 0 pl = gLeft names l (ops 8) (expr_read_prod k l a names d 0 pl) (fun a d b p => expr_read_prod k l a names d b p) := by
    unfold expr_read_sum; rw [bind_eta]; rfl
  show Snd names l (line 8) d (l.drop a) pl (expr_read_sum k l a names d 0 pl)
  rw [hg]
  exact snd_left rfl hl h2 (len_le a) (gd_prod hn hl hk a d pl h0 h1 h2 h3) (fun b hb1 hb2 => gd_prod hn hl hk b d pl h0 h1 hb1 (by omega))
theorem gd_cmp (hn : names.length < 4611686018427387904) (hl : l.length < 4611686018427387904) {k : PF} (hk : Gk names l 1 n k) : Gd names l 7 (n + 1) fun a d pl => expr_read_cmp k l a names d 0 pl := by
  intro a d pl h0 h1 h2 h3
  have hg : expr_read_cmp k l a names d 0 pl = gRight names l (ops 7) (expr_read_sum k l a names d 0 pl) (fun a d b p => expr_read_sum k l a names d b p) := rfl
  show Snd names l (line 7) d (l.drop a) pl (expr_read_cmp k l a names d 0 pl)
  rw [hg]
  obtain ⟨r, hp, hr⟩ := snd_right (s := 7) (whole := fun a d b p => expr_read_sum k l a names d b p) rfl hl h2 (gd_sum hn hl hk a d pl h0 h1 h2 h3) (fun b hb1 hb2 => gd_sum hn hl hk b d pl h0 h1 hb1 (by omega))
  exact ⟨r, hp d rfl rfl, hr⟩
theorem gd_s4 (hn : names.length < 4611686018427387904) (hl : l.length < 4611686018427387904) {k : PF} (hk : Gk names l 1 n k) : Gd names l 6 (n + 1) fun a d pl => expr_read_deepPre k l a names d 0 pl := by
  have hF : ∀ m k5, m ≤ n → Gk names l 6 m k5 → Gk names l 6 (m + 1) (fun s => expr_read_lower_s4_F k k5 s.1 s.2.1 s.2.2.1 s.2.2.2.1 s.2.2.2.2.1 s.2.2.2.2.2) := by
    intro m k5 hm h5 a d pl h0 h1 h2 h3
    have hg : ∀ D, expr_read_pre k k5 l a names D 0 pl = gBefore names l (ops 6) a D 0 pl (expr_read_cmp k l a names D 0 pl) (fun a d b p => k5 (l, a, names, d, b, p)) := fun D => by
      unfold expr_read_pre; rw [bind_eta]; rfl
    show Snd names l (line 6) d (l.drop a) pl (gLower names l a d 0 pl (fun D => expr_read_pre k k5 l a names D 0 pl))
    refine snd_lower rfl h0 h1 h2 (fun hd => ?_)
    show SndI names l 6 (d + 1) (l.drop a) pl (expr_read_pre k k5 l a names (d + 1) 0 pl)
    rw [hg]
    exact snd_before rfl hl h2 (gd_cmp hn hl hk a (d + 1) pl (by omega) (by omega) h2 (by omega)) (fun b hb1 hb2 => h5 b (d + 1) pl (by omega) (by omega) hb1 (by omega))
  intro a d pl h0 h1 h2 h3
  show Snd names l (line 6) d (l.drop a) pl (expr_read_deepPre k l a names d 0 pl)
  unfold expr_read_deepPre
  rw [bind_eta]
  exact gd_fuel (n := n) hl hF a d pl h0 h1 h2 h3
theorem gd_s3 (hn : names.length < 4611686018427387904) (hl : l.length < 4611686018427387904) {k : PF} (hk : Gk names l 1 n k) : Gd names l 5 (n + 1) fun a d pl => expr_read_deepUntil k l a names d 0 pl := by
  have hF : ∀ m k5, m ≤ n → Gk names l 5 m k5 → Gk names l 5 (m + 1) (fun s => expr_read_lower_s3_F k k5 s.1 s.2.1 s.2.2.1 s.2.2.2.1 s.2.2.2.2.1 s.2.2.2.2.2) := by
    intro m k5 hm h5 a d pl h0 h1 h2 h3
    have hg : ∀ D, expr_read_until k k5 l a names D 0 pl = gRight names l (ops 5) (expr_read_deepPre k l a names D 0 pl) (fun a d b p => k5 (l, a, names, d, b, p)) := fun D => by
      unfold expr_read_until; rw [bind_eta]; rfl
    show Snd names l (line 5) d (l.drop a) pl (gLower names l a d 0 pl (fun D => expr_read_until k k5 l a names D 0 pl))
    refine snd_lower rfl h0 h1 h2 (fun hd => ?_)
    show SndI names l 5 (d + 1) (l.drop a) pl (expr_read_until k k5 l a names (d + 1) 0 pl)
    rw [hg]
    exact snd_right rfl hl h2 (gd_s4 hn hl hk a (d + 1) pl (by omega) (by omega) h2 (by omega)) (fun b hb1 hb2 => h5 b (d + 1) pl (by omega) (by omega) hb1 (by omega))
  intro a d pl h0 h1 h2 h3
  show Snd names l (line 5) d (l.drop a) pl (expr_read_deepUntil k l a names d 0 pl)
  unfold expr_read_deepUntil
  rw [bind_eta]
  exact gd_fuel (n := n) hl hF a d pl h0 h1 h2 h3
theorem gd_and (hn : names.length < 4611686018427387904) (hl : l.length < 4611686018427387904) {k : PF} (hk : Gk names l 1 n k) : Gd names l 4 (n + 1) fun a d pl => expr_read_and k l a names d 0 pl := by
  intro a d pl h0 h1 h2 h3
  have hg : expr_read_and k l a names d 0 pl = gLeft names l (ops 4) (expr_read_deepUntil k l a names d 0 pl) (fun a d b p => expr_read_deepUntil k l a names d b p) := by
    unfold expr_read_and; rw [bind_eta]; rfl
  show Snd names l (line 4) d (l.drop a) pl (expr_read_and k l a names d 0 pl)
  rw [hg]
  exact snd_left rfl hl h2 (len_le a) (gd_s3 hn hl hk a d pl h0 h1 h2 h3) (fun b hb1 hb2 => gd_s3 hn hl hk b d pl h0 h1 hb1 (by omega))
theorem gd_or (hn : names.length < 4611686018427387904) (hl : l.length < 4611686018427387904) {k : PF} (hk : Gk names l 1 n k) : Gd names l 3 (n + 1) fun a d pl => expr_read_or k l a names d 0 pl := by
  intro a d pl h0 h1 h2 h3
  have hg : expr_read_or k l a names d 0 pl = gLeft names l (ops 3) (expr_read_and k l a names d 0 pl) (fun a d b p => expr_read_and k l a names d b p) := by
    unfold expr_read_or; rw [bind_eta]; rfl
  show Snd names l (line 3) d (l.drop a) pl (expr_read_or k l a names d 0 pl)
  rw [hg]
  exact snd_left rfl hl h2 (len_le a) (gd_and hn hl hk a d pl h0 h1 h2 h3) (fun b hb1 hb2 => gd_and hn hl hk b d pl h0 h1 hb1 (by omega))
theorem gd_s2 (hn : names.length < 4611686018427387904) (hl : l.length < 4611686018427387904) {k : PF} (hk : Gk names l 1 n k) : Gd names l 2 (n + 1) fun a d pl => expr_read_deepImp k l a names d 0 pl := by
  have hF : ∀ m k5, m ≤ n → Gk names l 2 m k5 → Gk names l 2 (m + 1) (fun s => expr_read_lower_s2_F k k5 s.1 s.2.1 s.2.2.1 s.2.2.2.1 s.2.2.2.2.1 s.2.2.2.2.2) := by
    intro m k5 hm h5 a d pl h0 h1 h2 h3
    have hg : ∀ D, expr_read_imp k k5 l a names D 0 pl = gRight names l (ops 2) (expr_read_or k l a names D 0 pl) (fun a d b p => k5 (l, a, names, d, b, p)) := fun D => by
      unfold expr_read_imp; rw [bind_eta]; rfl
    show Snd names l (line 2) d (l.drop a) pl (gLower names l a d 0 pl (fun D => expr_read_imp k k5 l a names D 0 pl))
    refine snd_lower rfl h0 h1 h2 (fun hd => ?_)
    show SndI names l 2 (d + 1) (l.drop a) pl (expr_read_imp k k5 l a names (d + 1) 0 pl)
    rw [hg]
    exact snd_right rfl hl h2 (gd_or hn hl hk a (d + 1) pl (by omega) (by omega) h2 (by omega)) (fun b hb1 hb2 => h5 b (d + 1) pl (by omega) (by omega) hb1 (by omega))
  intro a d pl h0 h1 h2 h3
  show Snd names l (line 2) d (l.drop a) pl (expr_read_deepImp k l a names d 0 pl)
  unfold expr_read_deepImp
  rw [bind_eta]
  exact gd_fuel (n := n) hl hF a d pl h0 h1 h2 h3
theorem gk_F (hn : names.length < 4611686018427387904) (hl : l.length < 4611686018427387904) {k : PF} (hk : Gk names l 1 n k) : Gk names l 1 (n + 1) (fun s => expr_read_lower_F k s.1 s.2.1 s.2.2.1 s.2.2.2.1 s.2.2.2.2.1 s.2.2.2.2.2) := by
  intro a d pl h0 h1 h2 h3
  have hg : ∀ D, expr_read_iff k l a names D 0 pl = gRight names l (ops 1) (expr_read_deepImp k l a names D 0 pl) (fun a d b p => k (l, a, names, d, b, p)) := fun D => by
    unfold expr_read_iff; rw [bind_eta]; rfl
  show Snd names l (line 1) d (l.drop a) pl (gLower names l a d 0 pl (fun D => expr_read_iff k l a names D 0 pl))
  refine snd_lower rfl h0 h1 h2 (fun hd => ?_)
  show SndI names l 1 (d + 1) (l.drop a) pl (expr_read_iff k l a names (d + 1) 0 pl)
  rw [hg]
  exact snd_right rfl hl h2 (gd_s2 hn hl hk a (d + 1) pl (by omega) (by omega) h2 (by omega)) (fun b hb1 hb2 => hk b (d + 1) pl (by omega) (by omega) hb1 (by omega))
theorem lower_snd (hn : names.length < 4611686018427387904) (hl : l.length < 4611686018427387904) {a : Nat} {d pl : Int} (h0 : 0 ≤ d) (h1 : d ≤ 320) (he : Ends (l.drop a)) :
    Snd names l (line 1) d (l.drop a) pl (expr_read_lower l (a : Int) names d 0 pl) := by
  have := gd_fuel (names := names) (l := l) (n := l.length) (s := 1) (F := fun k s => expr_read_lower_F k s.1 s.2.1 s.2.2.1 s.2.2.2.1 s.2.2.2.2.1 s.2.2.2.2.2) hl (fun m k _ hk => gk_F hn hl hk)
  exact this a d pl h0 h1 he (by have := len_le (l := l) a; omega)

/-- what comes of reading, as the program tells it -/
def told (l : List Tok) : Out → Ex × Int × Int × Int
  | .ok p => (p.1, ((l.length - p.2.length : Nat) : Int), 0, 0)
  | .error e => (.mk 0 0 0 [], 0, e.1, e.2)
theorem Parse_eq (hn : names.length < 4611686018427387904) (hl : l.length < 4611686018427387904) {a : Nat} (he : Ends (l.drop a)) : ∃ r, P names (line 1) 0 (l.drop a) r ∧ expr_Parse l (a : Int) names = some (told l r) := by
  obtain ⟨r, hp, hr⟩ := lower_snd (pl := 0) hn hl (Int.le_refl 0) (by omega) he
  refine ⟨r, hp, ?_⟩
  unfold expr_Parse
  cases r with
  | error e =>
    obtain ⟨x, k, hk, hm⟩ := hr
    rw [hm]
    simp only [bind_s, err_ne hp, cond_true]
    rfl
  | ok p =>
    obtain ⟨k, hk, hm⟩ := hr
    obtain ⟨e1, e2⟩ := hp.ends he _ rfl
    rw [hm]
    obtain ⟨t, r1, hts⟩ := e1.ne
    have hlt := (drop_cons (hk.trans hts)).2.2
    simp only [bind_s, show ((0 : Int) != 0) = false from rfl, cond_false, told]
    rw [← hk, List.length_drop, show l.length - (l.length - k) = k by omega]
end Pa
end Go.Proofs.YtmeombbmhpcacaaDoor
