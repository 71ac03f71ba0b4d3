/-
  How tokens are read as a tree: a relation of a place's tokens and what comes of them; it is a function; what is read is shorter. (own)
-/
import Derived.Test.YtmeombbmhpcacaaDoorExprTells2
namespace Go.Proofs.YtmeombbmhpcacaaDoor
namespace Pa

abbrev Tok := Int × Str × Int × Int
abbrev Out := Except (Int × Int) (Ex × List Tok)

def key (s : Str) : Bool := keysL.contains s
def sgn (t : Tok) : Bool := t.1 == 3 || (t.1 == 1 && key t.2.1)
def ops : Nat → List Int
  | 1 => [19]
  | 2 => [18]
  | 3 => [17]
  | 4 => [16]
  | 5 => [23, 24]
  | 6 => [15, 20, 21, 22]
  | 7 => [7, 8, 9, 10, 11, 12]
  | 8 => [3, 4]
  | 9 => [5]
  | 10 => [6]
  | 11 => [13, 14]
  | _ => []
def fnd (l : List Int) (t : Tok) : Option Int := bif sgn t then l.find? (fun o => txt o == t.2.1) else none
def opOf (s : Nat) (t : Tok) : Option Int := fnd (ops s) t
def kd : Nat → Nat
  | 6 => 0
  | 10 => 0
  | 1 => 1
  | 2 => 1
  | 5 => 1
  | 7 => 1
  | 3 => 2
  | 4 => 2
  | 8 => 2
  | 9 => 2
  | 11 => 3
  | _ => 4
def counted (s : Nat) : Bool := s == 1 || s == 2 || s == 5 || s == 6 || s == 10
def dn (s : Nat) (d : Int) : Int := bif counted s then d + 1 else d
def deepB (s : Nat) (d : Int) : Bool := counted s && decide (320 ≤ d)
def nx (s : Nat) : Nat := bif s == 7 then 8 else s
/-- where a name stands first -/
def at_ (names : List Str) (v : Str) : Option Nat := names.findIdx? (fun x => v == x)
def open_ (t : Tok) : Bool := t.1 == 3 && t.2.1 == [40]
def close_ (t : Tok) : Bool := t.1 == 3 && t.2.1 == [41]
def name_ (t : Tok) : Bool := t.1 == 1 && !key t.2.1
def one' (k : Int) (a : Int) (r : Out) : Out := r.map fun p => (.mk k 0 a [p.1], p.2)
def two' (k : Int) (a : Int) (x : Ex) (r : Out) : Out := r.map fun p => (.mk k 0 a [x, p.1], p.2)

inductive Job where
  | line (s : Nat)
  | loop (s : Nat) (a : Ex)
open Job
inductive P (names : List Str) : Job → Int → List Tok → Out → Prop
  | big {s d t ts} : deepB s d = true → P names (line s) d (t :: ts) (.error (9, t.2.2.2))
  | pre {s d t ts k r} : kd s = 0 → deepB s d = false → opOf s t = some k → P names (line s) (dn s d) ts r → P names (line s) d (t :: ts) (one' k t.2.2.2 r)
  | other {s d t ts r} : kd s = 0 → deepB s d = false → opOf s t = none → P names (line (s + 1)) (dn s d) (t :: ts) r → P names (line s) d (t :: ts) r
  | rErr {s d ts e} : kd s = 1 → deepB s d = false → P names (line (s + 1)) (dn s d) ts (.error e) → P names (line s) d ts (.error e)
  | rOne {s d ts a t ts'} : kd s = 1 → deepB s d = false → P names (line (s + 1)) (dn s d) ts (.ok (a, t :: ts')) → opOf s t = none → P names (line s) d ts (.ok (a, t :: ts'))
  | rTwo {s d ts a t ts' k r} : kd s = 1 → deepB s d = false → P names (line (s + 1)) (dn s d) ts (.ok (a, t :: ts')) → opOf s t = some k → P names (line (nx s)) (dn s d) ts' r → P names (line s) d ts (two' k t.2.2.2 a r)
  | lErr {s d ts e} : kd s = 2 → P names (line (s + 1)) d ts (.error e) → P names (line s) d ts (.error e)
  | lGo {s d ts a ts' r} : kd s = 2 → P names (line (s + 1)) d ts (.ok (a, ts')) → P names (loop s a) d ts' r → P names (line s) d ts r
  | lpEnd {s a d t ts} : opOf s t = none → P names (loop s a) d (t :: ts) (.ok (a, t :: ts))
  | lpErr {s a d t ts k e} : opOf s t = some k → P names (line (s + 1)) d ts (.error e) → P names (loop s a) d (t :: ts) (.error e)
  | lpGo {s a d t ts k b ts' r} : opOf s t = some k → P names (line (s + 1)) d ts (.ok (b, ts')) → P names (loop s (.mk k 0 t.2.2.2 [a, b])) d ts' r → P names (loop s a) d (t :: ts) r
  | oWord {s d t ts k} : kd s = 3 → opOf s t = some k → P names (line s) d (t :: ts) (.ok (.mk k 0 t.2.2.2 [], ts))
  | oNum {s d t ts} : kd s = 3 → opOf s t = none → (t.1 == 2) = true → P names (line s) d (t :: ts) (.ok (.mk 1 t.2.2.1 t.2.2.2 [], ts))
  | oVar {s d t ts i} : kd s = 3 → opOf s t = none → (t.1 == 2) = false → name_ t = true → at_ names t.2.1 = some i → P names (line s) d (t :: ts) (.ok (.mk 2 (i : Int) t.2.2.2 [], ts))
  | oName {s d t ts} : kd s = 3 → opOf s t = none → (t.1 == 2) = false → name_ t = true → at_ names t.2.1 = none → P names (line s) d (t :: ts) (.error (3, t.2.2.2))
  | oOpen {s d t ts a c ts'} : kd s = 3 → opOf s t = none → (t.1 == 2) = false → name_ t = false → open_ t = true → P names (line 1) d ts (.ok (a, c :: ts')) → close_ c = true → P names (line s) d (t :: ts) (.ok (a, ts'))
  | oErr {s d t ts e} : kd s = 3 → opOf s t = none → (t.1 == 2) = false → name_ t = false → open_ t = true → P names (line 1) d ts (.error e) → P names (line s) d (t :: ts) (.error e)
  | oClose {s d t ts a c ts'} : kd s = 3 → opOf s t = none → (t.1 == 2) = false → name_ t = false → open_ t = true → P names (line 1) d ts (.ok (a, c :: ts')) → close_ c = false → P names (line s) d (t :: ts) (.error (2, c.2.2.2))
  | oForm {s d t ts} : kd s = 3 → opOf s t = none → (t.1 == 2) = false → name_ t = false → open_ t = false → P names (line s) d (t :: ts) (.error (2, t.2.2.2))

theorem deep_kd {s : Nat} {d : Int} (h : deepB s d = true) : kd s = 0 ∨ kd s = 1 := by
  unfold deepB counted at h
  simp only [Bool.and_eq_true, Bool.or_eq_true, beq_iff_eq] at h
  rcases h.1 with (((rfl | rfl) | rfl) | rfl) | rfl <;> simp [kd]

/-- what comes of tokens is one thing alone -/
theorem P.det {names : List Str} {j : Job} {d : Int} {ts : List Tok} {r r' : Out} (h : P names j d ts r) (h' : P names j d ts r') : r = r' := by
  induction h generalizing r' with
  | big h0 => have := deep_kd h0; cases h' <;> simp_all
  | pre h0 h1 h2 h3 ih => cases h' <;> simp_all <;> (rename_i h4; rw [ih h4])
  | other h0 h1 h2 h3 ih =>
    cases h' with
    | other _ _ _ h => exact ih h
    | _ => simp_all
  | rErr h0 h1 h2 ih =>
    cases h' with
    | rErr _ _ h => exact ih h
    | rOne _ _ h => cases ih h
    | rTwo _ _ h => cases ih h
    | _ => simp_all
  | rOne h0 h1 h2 h3 ih =>
    cases h' with
    | rErr _ _ h => cases ih h
    | rOne _ _ h => exact ih h
    | rTwo _ _ h h4 => cases ih h; simp_all
    | _ => simp_all
  | rTwo h0 h1 h2 h3 h4 ih ih2 =>
    cases h' with
    | rErr _ _ h => cases ih h
    | rOne _ _ h => cases ih h; simp_all
    | rTwo _ _ h h5 h6 => cases ih h; rw [h3] at h5; cases h5; rw [ih2 h6]
    | _ => simp_all
  | lErr h0 h1 ih =>
    cases h' with
    | lErr _ h => exact ih h
    | lGo _ h => cases ih h
    | big h => have := deep_kd h; simp_all
    | _ => simp_all
  | lGo h0 h1 h2 ih ih2 =>
    cases h' with
    | lErr _ h => cases ih h
    | lGo _ h h3 => cases ih h; exact ih2 h3
    | big h => have := deep_kd h; simp_all
    | _ => simp_all
  | lpEnd h0 => cases h' <;> simp_all
  | lpErr h0 h1 ih =>
    cases h' with
    | lpErr _ h => exact ih h
    | lpGo _ h => cases ih h
    | _ => simp_all
  | lpGo h0 h1 h2 ih ih2 =>
    cases h' with
    | lpErr _ h => cases ih h
    | lpGo h4 h h3 => cases ih h; rw [h0] at h4; cases h4; exact ih2 h3
    | _ => simp_all
  | oOpen h0 h1 h2 h3 h4 h5 h6 ih =>
    cases h' with
    | oOpen _ _ _ _ _ h _ => cases ih h; rfl
    | oErr _ _ _ _ _ h => cases ih h
    | oClose _ _ _ _ _ h h7 => cases ih h; simp_all
    | big h => have := deep_kd h; simp_all
    | _ => simp_all
  | oErr h0 h1 h2 h3 h4 h5 ih =>
    cases h' with
    | oOpen _ _ _ _ _ h _ => cases ih h
    | oErr _ _ _ _ _ h => exact ih h
    | oClose _ _ _ _ _ h h7 => cases ih h
    | big h => have := deep_kd h; simp_all
    | _ => simp_all
  | oClose h0 h1 h2 h3 h4 h5 h6 ih =>
    cases h' with
    | oOpen _ _ _ _ _ h _ => cases ih h; simp_all
    | oErr _ _ _ _ _ h => cases ih h
    | oClose _ _ _ _ _ h h7 => cases ih h; rfl
    | big h => have := deep_kd h; simp_all
    | _ => simp_all
  | oWord h0 h1 => cases h' <;> first | (rename_i h; have := deep_kd h; simp_all; done) | simp_all
  | oNum h0 h1 h2 => cases h' <;> first | (rename_i h; have := deep_kd h; simp_all; done) | simp_all
  | oVar h0 h1 h2 h3 h4 => cases h' <;> first | (rename_i h; have := deep_kd h; simp_all; done) | simp_all
  | oName h0 h1 h2 h3 h4 => cases h' <;> first | (rename_i h; have := deep_kd h; simp_all; done) | simp_all
  | oForm h0 h1 h2 h3 h4 => cases h' <;> first | (rename_i h; have := deep_kd h; simp_all; done) | simp_all

/-- tokens, the last one of which is the end -/
def Ends : List Tok → Prop
  | [] => False
  | t :: ts => Ends ts ∨ (ts = [] ∧ t.1 = 4)
theorem Ends.tail {t : Tok} {ts : List Tok} (h : Ends (t :: ts)) (h4 : t.1 ≠ 4) : Ends ts := by
  rcases h with h | ⟨_, h⟩
  · exact h
  · exact absurd h h4
theorem Ends.ne {ts : List Tok} (h : Ends ts) : ∃ t r, ts = t :: r := by
  cases ts with
  | nil => exact h.elim
  | cons t r => exact ⟨t, r, rfl⟩
theorem sgn_ne {t : Tok} (h : sgn t = true) : t.1 ≠ 4 := by
  unfold sgn at h
  intro h4
  rw [h4] at h; simp at h
theorem fnd_sgn {l : List Int} {t : Tok} {k : Int} (h : fnd l t = some k) : sgn t = true := by
  unfold fnd at h
  cases hs : sgn t
  · rw [hs] at h; cases h
  · rfl
theorem fnd_ne {l : List Int} {t : Tok} {k : Int} (h : fnd l t = some k) : t.1 ≠ 4 := sgn_ne (fnd_sgn h)
theorem op_ne {s : Nat} {t : Tok} {k : Int} (h : opOf s t = some k) : t.1 ≠ 4 := fnd_ne h

def shorter : Job → Nat → Nat → Prop
  | line _, a, b => a < b
  | loop _ _, a, b => a ≤ b
theorem P.ends {names : List Str} {j : Job} {d : Int} {ts : List Tok} {r : Out} (h : P names j d ts r) : Ends ts → ∀ p, r = .ok p → Ends p.2 ∧ shorter j p.2.length ts.length := by
  induction h with
  | big => intro _ p h; cases h
  | @pre s d t ts k r h0 h1 h2 h3 ih =>
    intro he p h
    cases r with
    | error e => cases h
    | ok q =>
      obtain ⟨i1, i2⟩ := ih (he.tail (op_ne h2)) q rfl
      cases h
      refine ⟨i1, ?_⟩
      simp only [shorter, List.length_cons] at *; omega
  | other h0 h1 h2 h3 ih => intro he p h; exact ih he p h
  | rErr => intro _ p h; cases h
  | rOne h0 h1 h2 h3 ih => intro he p h; exact ih he p h
  | @rTwo s d ts a t ts' k r h0 h1 h2 h3 h4 ih ih2 =>
    intro he p h
    cases r with
    | error e => cases h
    | ok q =>
      obtain ⟨i1, i2⟩ := ih he _ rfl
      obtain ⟨i3, i4⟩ := ih2 (i1.tail (op_ne h3)) q rfl
      cases h
      refine ⟨i3, ?_⟩
      simp only [shorter, List.length_cons] at *; omega
  | lErr => intro _ p h; cases h
  | lGo h0 h1 h2 ih ih2 =>
    intro he p h
    obtain ⟨i1, i2⟩ := ih he _ rfl
    obtain ⟨i3, i4⟩ := ih2 i1 p h
    refine ⟨i3, ?_⟩
    simp only [shorter] at *; omega
  | lpEnd h0 => intro he p h; cases h; exact ⟨he, Nat.le_refl _⟩
  | lpErr => intro _ p h; cases h
  | lpGo h0 h1 h2 ih ih2 =>
    intro he p h
    obtain ⟨i1, i2⟩ := ih (he.tail (op_ne h0)) _ rfl
    obtain ⟨i3, i4⟩ := ih2 i1 p h
    refine ⟨i3, ?_⟩
    simp only [shorter, List.length_cons] at *; omega
  | oWord h0 h1 => intro he p h; cases h; exact ⟨he.tail (op_ne h1), Nat.lt_succ_self _⟩
  | oNum h0 h1 h2 => intro he p h; cases h; exact ⟨he.tail (by have := beq_iff_eq.1 h2; omega), Nat.lt_succ_self _⟩
  | oVar h0 h1 h2 h3 h4 => intro he p h; cases h; exact ⟨he.tail (by unfold name_ at h3; simp only [Bool.and_eq_true, beq_iff_eq] at h3; omega), Nat.lt_succ_self _⟩
  | oName => intro _ p h; cases h
  | oOpen h0 h1 h2 h3 h4 h5 h6 ih =>
    intro he p h
    cases h
    obtain ⟨i1, i2⟩ := ih (he.tail (by unfold open_ at h4; simp only [Bool.and_eq_true, beq_iff_eq] at h4; omega)) _ rfl
    refine ⟨i1.tail (by unfold close_ at h6; simp only [Bool.and_eq_true, beq_iff_eq] at h6; omega), ?_⟩
    simp only [shorter, List.length_cons] at *; omega
  | oErr => intro _ p h; cases h
  | oClose => intro _ p h; cases h
  | oForm => intro _ p h; cases h
theorem P.err {names : List Str} {j : Job} {d : Int} {ts : List Tok} {r : Out} (h : P names j d ts r) : ∀ e, r = .error e → e.1 = 9 ∨ e.1 = 2 ∨ e.1 = 3 := by
  induction h with
  | big => intro e h; cases h; exact .inl rfl
  | @pre s d t ts k r h0 h1 h2 h3 ih =>
    intro e h
    cases r with
    | error e' => cases h; exact ih _ rfl
    | ok q => cases h
  | other h0 h1 h2 h3 ih => exact ih
  | rErr _ _ _ ih => exact ih
  | rOne => intro e h; cases h
  | @rTwo s d ts a t ts' k r h0 h1 h2 h3 h4 ih ih2 =>
    intro e h
    cases r with
    | error e' => cases h; exact ih2 _ rfl
    | ok q => cases h
  | lErr _ _ ih => exact ih
  | lGo _ _ _ _ ih => exact ih
  | lpEnd => intro e h; cases h
  | lpErr _ _ ih => exact ih
  | lpGo _ _ _ _ ih => exact ih
  | oWord => intro e h; cases h
  | oNum => intro e h; cases h
  | oVar => intro e h; cases h
  | oName => intro e h; cases h; exact .inr (.inr rfl)
  | oOpen => intro e h; cases h
  | oErr _ _ _ _ _ _ ih => exact ih
  | oClose => intro e h; cases h; exact .inr (.inl rfl)
  | oForm => intro e h; cases h; exact .inr (.inl rfl)
end Pa
end Go.Proofs.YtmeombbmhpcacaaDoor
