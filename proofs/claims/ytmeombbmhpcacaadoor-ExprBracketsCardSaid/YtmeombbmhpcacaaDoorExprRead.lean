/-
  How the program reads tokens as a tree: its models come to what the relation says. (own)
-/
import Derived.Test.YtmeombbmhpcacaaDoorExprPa
namespace Go.Proofs.YtmeombbmhpcacaaDoor
namespace Pa
open Job

abbrev R5 := Ex × Int × Int × Int × Int
theorem bind_eta (x : Option R5) : (x.bind fun r => some (r.1, r.2.1, r.2.2.1, r.2.2.2.1, r.2.2.2.2)) = x := by cases x <;> rfl
theorem drop_cons {l : List Tok} {k : Nat} {t : Tok} {r : List Tok} (h : l.drop k = t :: r) : idx l (k : Int) = some t ∧ l.drop (k + 1) = r ∧ k < l.length := by
  have hk : k < l.length := by
    by_cases hk : k < l.length
    · exact hk
    · rw [List.drop_eq_nil_of_le (by omega)] at h; cases h
  rw [List.drop_eq_getElem_cons hk] at h
  cases h
  refine ⟨?_, rfl, hk⟩
  simp [idx, List.getElem?_eq_getElem hk]
theorem idx_of_lt {l : List Tok} {k : Nat} (h : k < l.length) : ∃ t, idx l (k : Int) = some t := ⟨l[k], by simp [idx, List.getElem?_eq_getElem h]⟩

/-! is: one of these parts? -/
def isR : Option Int → Int × Bool
  | some k => (k, true)
  | none => (0, false)
theorem int_mid {l pre r : List Int} {x : Int} (h : l = pre ++ x :: r) : idx l (pre.length : Int) = some x := by subst h; simp [idx]
theorem int_t {l pre r : List Int} {x : Int} (h : l = pre ++ x :: r) : decide ((pre.length : Int) < (List.length l : Int)) = true := by subst h; simp; omega
theorem int_f {l pre : List Int} (h : l = pre ++ []) : decide ((pre.length : Int) < (List.length l : Int)) = false := by subst h; simp
theorem is_loop {l : List Int} (ho : ∀ o ∈ l, 1 ≤ o ∧ o ≤ 24) (hl : l.length < 4611686018427387904) (t : Tok) : ∀ (r pre : List Int), l = pre ++ r → ∀ (M : Nat), r.length < M →
    fixN (expr_read_is_L1 l t) M (pre.length : Int) = some (isR (r.find? (fun o => txt o == t.2.1)))
  | [], pre, h, M, hM => by
    obtain ⟨m, rfl⟩ : ∃ m, M = m + 1 := ⟨M - 1, by simp at hM; omega⟩
    rw [fixN_succ]
    simp only [expr_read_is_L1, int_f h, cond_false]
    rfl
  | x :: r, pre, h, M, hM => by
    obtain ⟨m, rfl⟩ : ∃ m, M = m + 1 := ⟨M - 1, by omega⟩
    rw [fixN_succ]
    have hlen : pre.length < 4611686018427387904 := by rw [h] at hl; simp at hl; omega
    have ih := is_loop ho hl t r (pre ++ [x]) (by rw [h]; simp) m (by simp at hM; omega)
    rw [show ((pre ++ [x]).length : Int) = ((pre.length + 1 : Nat) : Int) by simp] at ih
    have hx := ho x (by rw [h]; simp)
    simp only [expr_read_is_L1, int_t h, cond_true, int_mid h, bind_s, idx_txt hx.1 hx.2, next_ix hlen]
    cases hv : (txt x == t.2.1)
    · simp only [cond_false]
      rw [ih, List.find?_cons, hv]
    · simp only [cond_true]
      rw [List.find?_cons, hv]; rfl
theorem is_eq {l : List Int} (ho : ∀ o ∈ l, 1 ≤ o ∧ o ≤ 24) (hl : l.length < 4611686018427387904) {ts : List Tok} {a : Int} {t : Tok} (h : idx ts a = some t) (names : List Str) (d b p : Int) : expr_read_is l ts a names d b p = some (isR (fnd l t)) := by
  unfold expr_read_is expr_read_next
  rw [h]
  simp only [bind_s, letv_e, Key_eq]
  have hi := is_loop ho hl t l [] rfl FUEL (by show l.length < 2 ^ 64; omega)
  have hi : fixN (expr_read_is_L1 l t) FUEL 0 = some (isR (l.find? (fun o => txt o == t.2.1))) := hi
  rw [hi]
  unfold fnd sgn key
  cases h3 : (t.1 == 3)
  · have : (t.1 != 3) = true := by simp [bne, h3]
    rw [this]
    cases h1 : (t.1 == 1)
    · rfl
    · simp only [Bool.true_and, callG_tt, bind_s, Bool.false_or]
      cases hk : keysL.contains t.2.1 <;> rfl
  · have : (t.1 != 3) = false := by simp [bne, h3]
    rw [this]
    simp only [Bool.false_and, callG_ff, cond_false, Bool.true_or, cond_true]
theorem ops_ok : ∀ s : Nat, (∀ o ∈ ops s, 1 ≤ o ∧ o ≤ 24) ∧ (ops s).length < 4611686018427387904 := by
  intro s
  unfold ops
  split <;> (refine ⟨?_, ?_⟩ <;> simp)
theorem is_op (s : Nat) {ts : List Tok} {a : Int} {t : Tok} (h : idx ts a = some t) (names : List Str) (d b p : Int) : expr_read_is (ops s) ts a names d b p = some (isR (opOf s t)) := is_eq (ops_ok s).1 (ops_ok s).2 h names d b p
theorem next_eq {ts : List Tok} {a : Int} {t : Tok} (h : idx ts a = some t) (names : List Str) (d b p : Int) : expr_read_next ts a names d b p = some t := by unfold expr_read_next; rw [h]; rfl
theorem fail_eq {ts : List Tok} {a : Int} {t : Tok} (h : idx ts a = some t) (names : List Str) (e d p : Int) : expr_read_fail e ts a names d 0 p = some (.mk 0 0 0 [], e, t.2.2.2) := by unfold expr_read_fail; rw [h]; rfl

/-! what is to be shown -/
def Rs (l : List Tok) (d pl : Int) : Out → Option R5 → Prop
  | .ok p, m => ∃ k : Nat, l.drop k = p.2 ∧ m = some (p.1, (k : Int), d, 0, pl)
  | .error e, m => ∃ (x : Ex) (k : Nat), k < l.length ∧ m = some (x, (k : Int), d, e.1, e.2)
def Snd (names : List Str) (l : List Tok) (j : Job) (d : Int) (ts : List Tok) (pl : Int) (m : Option R5) : Prop := ∃ r, P names j d ts r ∧ Rs l d pl r m
def SndI (names : List Str) (l : List Tok) (s : Nat) (D : Int) (ts : List Tok) (pl : Int) (m : Option R5) : Prop :=
  ∃ r, (∀ d, dn s d = D → deepB s d = false → P names (line s) d ts r) ∧ Rs l D pl r m

theorem err_ne {names : List Str} {j : Job} {d : Int} {ts : List Tok} {e : Int × Int} (h : P names j d ts (.error e)) : (e.1 != 0) = true := by
  have := h.err e rfl
  simp only [bne_iff_ne, ne_eq]
  omega
theorem err_eq {names : List Str} {j : Job} {d : Int} {ts : List Tok} {e : Int × Int} (h : P names j d ts (.error e)) : (e.1 == 0) = false := by
  have := h.err e rfl
  simp only [beq_eq_false_iff_ne, ne_eq]
  omega

def gRight (names : List Str) (l : List Tok) (ops : List Int) (one : Option R5) (whole : Int → Int → Int → Int → Option R5) : Option R5 :=
  one.bind fun r11 =>
  (expr_read_is ops l r11.2.1 names r11.2.2.1 r11.2.2.2.1 r11.2.2.2.2).bind fun r19 =>
  letv (r11.2.2.2.1 != 0) fun b22 =>
  letv (!r19.2) fun b24 =>
  letv (b22 || b24) fun b26 =>
  bif b26 then (
  some (r11.1, r11.2.1, r11.2.2.1, r11.2.2.2.1, r11.2.2.2.2))
  else (
  (expr_read_next l r11.2.1 names r11.2.2.1 r11.2.2.2.1 r11.2.2.2.2).bind fun r30 =>
  (whole (IntKind.i64.wrap (r11.2.1 + 1)) r11.2.2.1 r11.2.2.2.1 r11.2.2.2.2).bind fun r37 =>
  some ((Ex.mk r19.1 0 r30.2.2.2 ([r11.1, r37.1] : List Ex)), r37.2.1, r37.2.2.1, r37.2.2.2.1, r37.2.2.2.2))
theorem snd_right {names : List Str} {l : List Tok} {s : Nat} (hk : kd s = 1) {D pl : Int} {ts : List Tok} {one : Option R5} {whole : Int → Int → Int → Int → Option R5} (hl : l.length < 4611686018427387904)
    (he : Ends ts) (h1 : Snd names l (line (s + 1)) D ts pl one)
    (h2 : ∀ k : Nat, Ends (l.drop k) → (l.drop k).length < ts.length → Snd names l (line (nx s)) D (l.drop k) pl (whole (k : Int) D 0 pl)) :
    SndI names l s D ts pl (gRight names l (ops s) one whole) := by
  obtain ⟨r, hp, hr⟩ := h1
  cases r with
  | error e =>
    obtain ⟨x, k1, hk1, rfl⟩ := hr
    refine ⟨.error e, fun d hd hb => .rErr hk hb (by rw [hd]; exact hp), x, k1, hk1, ?_⟩
    obtain ⟨t, ht⟩ := idx_of_lt hk1
    simp only [gRight, bind_s, is_op s ht, letv_e, err_ne hp, Bool.true_or, cond_true]
  | ok p =>
    obtain ⟨a, ts1⟩ := p
    obtain ⟨k1, hk1, rfl⟩ := hr
    obtain ⟨e1, e2⟩ := hp.ends he _ rfl
    obtain ⟨t, r1, rfl⟩ := e1.ne
    obtain ⟨ht, hd1, hlt⟩ := drop_cons hk1
    cases ho : opOf s t with
    | none =>
      refine ⟨.ok (a, t :: r1), fun d hd hb => .rOne hk hb (by rw [hd]; exact hp) ho, k1, hk1, ?_⟩
      simp only [gRight, bind_s, is_op s ht, letv_e, ho, isR, Bool.not_false, Bool.or_true, cond_true]
    | some k =>
      have hw := next_ix (n := k1) (by omega)
      obtain ⟨r2, hp2, hr2⟩ := h2 (k1 + 1) (by rw [hd1]; exact e1.tail (op_ne ho)) (by rw [hd1]; simp only [shorter, List.length_cons] at e2; omega)
      rw [hd1] at hp2
      refine ⟨two' k t.2.2.2 a r2, fun d hd hb => .rTwo hk hb (by rw [hd]; exact hp) ho (by rw [hd]; exact hp2), ?_⟩
      have hz : ((0 : Int) != 0) = false := rfl
      cases r2 with
      | error e =>
        obtain ⟨x, k2, hk2, hm⟩ := hr2
        refine ⟨.mk k 0 t.2.2.2 [a, x], k2, hk2, ?_⟩
        simp only [gRight, bind_s, is_op s ht, letv_e, ho, isR, hz, Bool.not_true, Bool.or_false, cond_false, next_eq ht, hw, hm]
      | ok p =>
        obtain ⟨k2, hk2, hm⟩ := hr2
        refine ⟨k2, hk2, ?_⟩
        simp only [gRight, bind_s, is_op s ht, letv_e, ho, isR, hz, Bool.not_true, Bool.or_false, cond_false, next_eq ht, hw, hm]

def gBefore (names : List Str) (l : List Tok) (ops : List Int) (at_ deep bad place : Int) (other : Option R5) (same : Int → Int → Int → Int → Option R5) : Option R5 :=
  (expr_read_is ops l at_ names deep bad place).bind fun r11 =>
  bif (!r11.2) then (
  other.bind fun r15 =>
  some (r15.1, r15.2.1, r15.2.2.1, r15.2.2.2.1, r15.2.2.2.2))
  else (
  (expr_read_next l at_ names deep bad place).bind fun r21 =>
  (same (IntKind.i64.wrap (at_ + 1)) deep bad place).bind fun r30 =>
  some ((Ex.mk r11.1 0 r21.2.2.2 ([r30.1] : List Ex)), r30.2.1, r30.2.2.1, r30.2.2.2.1, r30.2.2.2.2))
theorem snd_before {names : List Str} {l : List Tok} {s : Nat} (hk : kd s = 0) {D pl : Int} {a : Nat} {other : Option R5} {same : Int → Int → Int → Int → Option R5} (hl : l.length < 4611686018427387904)
    (he : Ends (l.drop a)) (h1 : Snd names l (line (s + 1)) D (l.drop a) pl other)
    (h2 : ∀ k : Nat, Ends (l.drop k) → (l.drop k).length < (l.drop a).length → Snd names l (line s) D (l.drop k) pl (same (k : Int) D 0 pl)) :
    SndI names l s D (l.drop a) pl (gBefore names l (ops s) (a : Int) D 0 pl other same) := by
  obtain ⟨t, r1, hts⟩ := he.ne
  obtain ⟨ht, hd1, hlt⟩ := drop_cons hts
  cases ho : opOf s t with
  | none =>
    obtain ⟨r, hp, hr⟩ := h1
    have hg : gBefore names l (ops s) (a : Int) D 0 pl other same = other := by
      simp only [gBefore, is_op s ht, ho, isR, bind_s, Bool.not_false, cond_true, bind_eta]
    rw [hg]
    refine ⟨r, fun d hd hb => ?_, hr⟩
    rw [hts] at hp ⊢
    exact .other hk hb ho (by rw [hd]; exact hp)
  | some k =>
    have hw := next_ix (n := a) (by omega)
    rw [hts] at he
    obtain ⟨r2, hp2, hr2⟩ := h2 (a + 1) (by rw [hd1]; exact he.tail (op_ne ho)) (by rw [hd1, hts]; simp)
    rw [hd1] at hp2
    refine ⟨one' k t.2.2.2 r2, fun d hd hb => by rw [hts]; exact .pre hk hb ho (by rw [hd]; exact hp2), ?_⟩
    cases r2 with
    | error e =>
      obtain ⟨x, k2, hk2, hm⟩ := hr2
      refine ⟨.mk k 0 t.2.2.2 [x], k2, hk2, ?_⟩
      simp only [gBefore, is_op s ht, ho, isR, bind_s, Bool.not_true, cond_false, next_eq ht, hw, hm]
    | ok p =>
      obtain ⟨k2, hk2, hm⟩ := hr2
      refine ⟨k2, hk2, ?_⟩
      simp only [gBefore, is_op s ht, ho, isR, bind_s, Bool.not_true, cond_false, next_eq ht, hw, hm]

def gLower (names : List Str) (l : List Tok) (at_ deep bad place : Int) (by_ : Int → Option R5) : Option R5 :=
  bif (decide (320 ≤ deep)) then (
  (expr_read_fail 9 l at_ names deep bad place).bind fun r12 =>
  some (r12.1, at_, deep, r12.2.1, r12.2.2))
  else (
  (by_ (IntKind.i64.wrap (deep + 1))).bind fun r19 =>
  some (r19.1, r19.2.1, (IntKind.i64.wrap (r19.2.2.1 - 1)), r19.2.2.2.1, r19.2.2.2.2))
theorem snd_lower {names : List Str} {l : List Tok} {s : Nat} (hc : counted s = true) {d pl : Int} {a : Nat} {by_ : Int → Option R5} (h0 : 0 ≤ d) (h3 : d ≤ 320)
    (he : Ends (l.drop a)) (h1 : d < 320 → SndI names l s (d + 1) (l.drop a) pl (by_ (d + 1))) :
    Snd names l (line s) d (l.drop a) pl (gLower names l (a : Int) d 0 pl by_) := by
  obtain ⟨t, r1, hts⟩ := he.ne
  obtain ⟨ht, hd1, hlt⟩ := drop_cons hts
  have hw : IntKind.i64.wrap (d + 1) = d + 1 := w64 (by omega)
  have hw2 : IntKind.i64.wrap (d + 1 - 1) = d := by rw [show d + 1 - 1 = d by omega]; exact w64 (by omega)
  unfold gLower
  cases hd : decide (320 ≤ d)
  · have hdb : deepB s d = false := by unfold deepB; rw [hd, Bool.and_false]
    obtain ⟨r, hp, hr⟩ := h1 (by simp only [decide_eq_false_iff_not] at hd; omega)
    refine ⟨r, hp d (by unfold dn; rw [hc]; rfl) hdb, ?_⟩
    cases r with
    | error e =>
      obtain ⟨x, k2, hk2, hm⟩ := hr
      refine ⟨x, k2, hk2, ?_⟩
      simp only [cond_false, hw, hm, bind_s, hw2]
    | ok p =>
      obtain ⟨k2, hk2, hm⟩ := hr
      refine ⟨k2, hk2, ?_⟩
      simp only [cond_false, hw, hm, bind_s, hw2]
  · refine ⟨.error (9, t.2.2.2), by rw [hts]; exact .big (by unfold deepB; rw [hc, hd]; rfl), .mk 0 0 0 [], a, hlt, ?_⟩
    simp only [cond_true, fail_eq ht, bind_s]

abbrev R8 := Int × Int × Int × Int × Int × Int × Int × (List Ex)
def gLeft_L1 (names : List Str) (l : List Tok) (ops : List Int) (one : Int → Int → Int → Int → Option R5) (again30 : R8 → Option R5) : R8 → Option R5 := fun ⟨c20, c21, c22, c23, c24, c25, c26, c27⟩ =>
  bif (c22 == 0) then (
  (expr_read_is ops l c20 names c21 c22 c23).bind fun r32 =>
  bif (!r32.2) then (
  some ((Ex.mk c24 c25 c26 c27), c20, c21, c22, c23))
  else (
  (expr_read_next l c20 names c21 c22 c23).bind fun r37 =>
  (one (IntKind.i64.wrap (c20 + 1)) c21 c22 c23).bind fun r44 =>
  again30 (r44.2.1, r44.2.2.1, r44.2.2.2.1, r44.2.2.2.2, r32.1, 0, r37.2.2.2, ([(Ex.mk c24 c25 c26 c27), r44.1] : List Ex))))
  else (
  some ((Ex.mk c24 c25 c26 c27), c20, c21, c22, c23))
def gLeft (names : List Str) (l : List Tok) (ops : List Int) (first : Option R5) (one : Int → Int → Int → Int → Option R5) : Option R5 :=
  first.bind fun r11 =>
  fixN (gLeft_L1 names l ops one) FUEL (r11.2.1, r11.2.2.1, r11.2.2.2.1, r11.2.2.2.2, r11.1.op, r11.1.n, r11.1.at_, r11.1.l)
theorem snd_loop {names : List Str} {l : List Tok} {s : Nat} {d pl : Int} {one : Int → Int → Int → Int → Option R5} (hl : l.length < 4611686018427387904) (N : Nat)
    (h2 : ∀ k : Nat, Ends (l.drop k) → (l.drop k).length < N → Snd names l (line (s + 1)) d (l.drop k) pl (one (k : Int) d 0 pl)) : ∀ (n k : Nat) (a : Ex), Ends (l.drop k) → (l.drop k).length ≤ N → (l.drop k).length ≤ n →
    Snd names l (loop s a) d (l.drop k) pl (fixN (gLeft_L1 names l (ops s) one) (n + 1) ((k : Int), d, 0, pl, a.op, a.n, a.at_, a.l)) := by
  intro n
  induction n with
  | zero =>
    intro k a he _ hn
    obtain ⟨t, r1, hts⟩ := he.ne
    rw [hts] at hn; simp at hn
  | succ n ih =>
    intro k a he hN hn
    obtain ⟨t, r1, hts⟩ := he.ne
    obtain ⟨ht, hd1, hlt⟩ := drop_cons hts
    have hz : ((0 : Int) == 0) = true := rfl
    rw [fixN_succ]
    cases ho : opOf s t with
    | none =>
      refine ⟨.ok (a, t :: r1), by rw [hts]; exact .lpEnd ho, k, hts, ?_⟩
      simp only [gLeft_L1, hz, cond_true, is_op s ht, ho, isR, bind_s, Bool.not_false, Ex.eta]
    | some o =>
      have hw := next_ix (n := k) (by omega)
      have he1 := he
      rw [hts] at he1
      have hlen : (l.drop (k + 1)).length + 1 = (l.drop k).length := by rw [hd1, hts]; rfl
      obtain ⟨r2, hp2, hr2⟩ := h2 (k + 1) (by rw [hd1]; exact he1.tail (op_ne ho)) (by omega)
      rw [hd1] at hp2
      cases r2 with
      | error e =>
        obtain ⟨x, k2, hk2, hm⟩ := hr2
        refine ⟨.error e, by rw [hts]; exact .lpErr ho hp2, .mk o 0 t.2.2.2 [a, x], k2, hk2, ?_⟩
        obtain ⟨m, rfl⟩ : ∃ m, n = m := ⟨n, rfl⟩
        simp only [gLeft_L1, hz, cond_true, is_op s ht, ho, isR, bind_s, Bool.not_true, cond_false, next_eq ht, hw, hm, Ex.eta]
        rw [fixN_succ]
        simp only [gLeft_L1, err_eq hp2, cond_false]
      | ok p =>
        obtain ⟨b, ts2⟩ := p
        obtain ⟨k2, hk2, hm⟩ := hr2
        obtain ⟨i1, i2⟩ := hp2.ends (he1.tail (op_ne ho)) _ rfl
        simp only [shorter] at i2
        simp only at hk2
        obtain ⟨r, hp, hr⟩ := ih k2 (.mk o 0 t.2.2.2 [a, b]) (by rw [hk2]; exact i1) (by rw [hk2]; rw [← hd1] at i2; omega) (by rw [hk2]; rw [← hd1] at i2; omega)
        rw [hk2] at hp
        refine ⟨r, by rw [hts]; exact .lpGo ho hp2 hp, ?_⟩
        simp only [gLeft_L1, hz, cond_true, is_op s ht, ho, isR, bind_s, Bool.not_true, cond_false, next_eq ht, hw, hm, Ex.eta]
        exact hr
theorem snd_left {names : List Str} {l : List Tok} {s : Nat} (hk : kd s = 2) {d pl : Int} {ts : List Tok} {first : Option R5} {one : Int → Int → Int → Int → Option R5} (hl : l.length < 4611686018427387904)
    (he : Ends ts) (hts : ts.length ≤ l.length) (h1 : Snd names l (line (s + 1)) d ts pl first)
    (h2 : ∀ k : Nat, Ends (l.drop k) → (l.drop k).length < ts.length → Snd names l (line (s + 1)) d (l.drop k) pl (one (k : Int) d 0 pl)) :
    Snd names l (line s) d ts pl (gLeft names l (ops s) first one) := by
  obtain ⟨r, hp, hr⟩ := h1
  unfold gLeft
  cases r with
  | error e =>
    obtain ⟨x, k1, hk1, rfl⟩ := hr
    refine ⟨.error e, .lErr hk hp, x, k1, hk1, ?_⟩
    rw [bind_s, show FUEL = 18446744073709551615 + 1 from rfl, fixN_succ]
    simp only [gLeft_L1, err_eq hp, cond_false, Ex.eta]
  | ok p =>
    obtain ⟨a, ts1⟩ := p
    obtain ⟨k1, hk1, rfl⟩ := hr
    obtain ⟨e1, e2⟩ := hp.ends he _ rfl
    simp only at hk1 e1 e2
    subst hk1
    simp only [shorter] at e2
    obtain ⟨r, hp2, hr2⟩ := snd_loop (s := s) (d := d) (pl := pl) (one := one) hl ts.length h2 18446744073709551615 k1 a e1 (by omega) (by omega)
    exact ⟨r, .lGo hk hp hp2, hr2⟩
theorem at_loop {s : List Str} {v : Str} (hl : s.length < 4611686018427387904) : ∀ (r pre : List Str), s = pre ++ r → ∀ (M : Nat), r.length < M →
    fixN (slices_Index_string_string_L1 s v) M (pre.length : Int) = some (match r.findIdx? (fun x => v == x) with | some i => ((pre.length + i : Nat) : Int) | none => -1)
  | [], pre, h, M, hM => by
    obtain ⟨m, rfl⟩ : ∃ m, M = m + 1 := ⟨M - 1, by simp at hM; omega⟩
    rw [fixN_succ]
    simp only [slices_Index_string_string_L1, str_f h, cond_false]
    rfl
  | x :: r, pre, h, M, hM => by
    obtain ⟨m, rfl⟩ : ∃ m, M = m + 1 := ⟨M - 1, by omega⟩
    rw [fixN_succ]
    have hlen : pre.length < 4611686018427387904 := by rw [h] at hl; simp at hl; omega
    have ih := at_loop (v := v) hl r (pre ++ [x]) (by rw [h]; simp) m (by simp at hM; omega)
    rw [show ((pre ++ [x]).length : Int) = ((pre.length + 1 : Nat) : Int) by simp] at ih
    simp only [slices_Index_string_string_L1, str_t h, cond_true, str_mid h, bind_s, next_ix hlen]
    cases hv : (v == x)
    · simp only [cond_false]
      rw [ih, List.findIdx?_cons, hv]
      cases hf : r.findIdx? (fun x => v == x) with
      | none => rfl
      | some i =>
        simp only [List.length_append, List.length_cons, List.length_nil, Bool.false_eq_true, if_false, Option.map_some]
        congr 2; omega
    · simp only [cond_true]
      rw [List.findIdx?_cons, hv]; rfl
theorem index_eq {s : List Str} (hl : s.length < 4611686018427387904) (v : Str) : slices_Index_string_string s v = some (match at_ s v with | some i => (i : Int) | none => -1) := by
  have := at_loop (v := v) hl s [] rfl FUEL (by show s.length < 2 ^ 64; omega)
  unfold slices_Index_string_string at_
  rw [show fixN (slices_Index_string_string_L1 s v) FUEL 0 = _ from this]
  cases s.findIdx? (fun x => v == x) with
  | none => rfl
  | some i => simp

theorem snd_one {names : List Str} (hn : names.length < 4611686018427387904) {l : List Tok} {d pl : Int} {a : Nat} {k} (hl : l.length < 4611686018427387904)
    (he : Ends (l.drop a)) (h2 : ∀ b : Nat, Ends (l.drop b) → (l.drop b).length < (l.drop a).length → Snd names l (line 1) d (l.drop b) pl (k (l, (b : Int), names, d, 0, pl))) :
    Snd names l (line 11) d (l.drop a) pl (expr_read_one k l (a : Int) names d 0 pl) := by
  obtain ⟨t, r1, hts⟩ := he.ne
  obtain ⟨ht, hd1, hlt⟩ := drop_cons hts
  have hw := next_ix (n := a) (by omega)
  have hz : ((0 : Int) != 0) = false := rfl
  have hz' : ((0 : Int) == 0) = true := rfl
  have he1 := he
  rw [hts] at he1
  unfold expr_read_one
  have hio : expr_read_is ([13, 14] : List Int) l (a : Int) names d 0 pl = some (isR (opOf 11 t)) := is_op 11 ht names d 0 pl
  simp only [hz, cond_false, next_eq ht, bind_s, hio]
  cases ho : opOf 11 t with
  | some o =>
    refine ⟨.ok (.mk o 0 t.2.2.2 [], r1), by rw [hts]; exact .oWord rfl ho, a + 1, hd1, ?_⟩
    simp only [isR, cond_true, hw]
  | none =>
    simp only [isR, cond_false]
    cases h2' : (t.1 == 2)
    · simp only [cond_false, letv_e, Key_eq]
      cases hnm : name_ t
      · have hgo : (callG (t.1 == 1) default (some (keysL.contains t.2.1)) fun r32 => letv (!r32) fun b38 => letv ((t.1 == 1) && b38) fun b40 => (some b40 : Option Bool)) = some false := by
          unfold name_ key at hnm
          cases h1 : (t.1 == 1)
          · rfl
          · rw [h1, Bool.true_and] at hnm; simp only [callG_tt, bind_s, letv_e, hnm, Bool.and_false]
        have hgo' : ∀ (f : Bool → Option R5), (callG (t.1 == 1) default (some (keysL.contains t.2.1)) fun r32 => f ((t.1 == 1) && !r32)) = f false := by
          intro f
          unfold name_ key at hnm
          cases h1 : (t.1 == 1)
          · rfl
          · rw [h1, Bool.true_and] at hnm; simp only [callG_tt, bind_s, hnm, Bool.and_false]
        rw [hgo' (fun b => bif b then _ else _)]
        simp only [cond_false]
        cases hop : open_ t
        · have hop' : ((t.1 == 3) && (t.2.1 == [40])) = false := hop
          rw [hop']
          refine ⟨.error (2, t.2.2.2), by rw [hts]; exact .oForm rfl ho h2' hnm hop, .mk 0 0 0 [], a, hlt, ?_⟩
          simp only [cond_false, fail_eq ht, bind_s]
        · have hop' : ((t.1 == 3) && (t.2.1 == [40])) = true := hop
          rw [hop']
          simp only [cond_true, hw]
          have h4 : t.1 ≠ 4 := by unfold open_ at hop; simp only [Bool.and_eq_true, beq_iff_eq] at hop; omega
          obtain ⟨r2, hp2, hr2⟩ := h2 (a + 1) (by rw [hd1]; exact he1.tail h4) (by rw [hd1, hts]; simp)
          rw [hd1] at hp2
          cases r2 with
          | error e =>
            obtain ⟨x, k2, hk2, hm⟩ := hr2
            refine ⟨.error e, by rw [hts]; exact .oErr rfl ho h2' hnm hop hp2, x, k2, hk2, ?_⟩
            simp only [hm, bind_s, err_eq hp2, Bool.false_and, callG_ff, cond_false]
          | ok p =>
            obtain ⟨x, ts2⟩ := p
            obtain ⟨k2, hk2, hm⟩ := hr2
            obtain ⟨i1, i2⟩ := hp2.ends (he1.tail h4) _ rfl
            obtain ⟨c, r3, rfl⟩ := i1.ne
            obtain ⟨hc, hd2, hlt2⟩ := drop_cons hk2
            simp only [hm, bind_s, hz', callG_tt, next_eq hc, Bool.true_and]
            have hw2 := next_ix (n := k2) (by omega)
            cases hcl : close_ c
            · refine ⟨.error (2, c.2.2.2), by rw [hts]; exact .oClose rfl ho h2' hnm hop hp2 hcl, .mk 0 0 0 [], k2, hlt2, ?_⟩
              unfold close_ at hcl
              cases h3 : (c.1 == 3)
              · have : (c.1 != 3) = true := by simp [bne, h3]
                simp only [this, Bool.not_true, callG_ff, Bool.true_or, cond_true, fail_eq hc, bind_s]
              · have : (c.1 != 3) = false := by simp [bne, h3]
                rw [h3, Bool.true_and] at hcl
                have h41 : (c.2.1 != [41]) = true := by simp [bne, hcl]
                simp only [this, Bool.not_false, callG_tt, bind_s, h41, Bool.or_true, cond_true, fail_eq hc]
            · refine ⟨.ok (x, r3), by rw [hts]; exact .oOpen rfl ho h2' hnm hop hp2 hcl, k2 + 1, hd2, ?_⟩
              unfold close_ at hcl
              simp only [Bool.and_eq_true] at hcl
              have h3 : (c.1 != 3) = false := by simp only [bne, hcl.1, Bool.not_true]
              have h41 : (c.2.1 != [41]) = false := by simp only [bne, hcl.2, Bool.not_true]
              simp only [h3, Bool.not_false, callG_tt, bind_s, h41, Bool.or_false, cond_false, cond_true, hw2]
      · have hgo' : ∀ (f : Bool → Option R5), (callG (t.1 == 1) default (some (keysL.contains t.2.1)) fun r32 => f ((t.1 == 1) && !r32)) = f true := by
          intro f
          unfold name_ key at hnm
          simp only [Bool.and_eq_true] at hnm
          rw [hnm.1]
          simp only [callG_tt, bind_s, hnm.2, Bool.and_self]
        rw [hgo' (fun b => bif b then _ else _)]
        simp only [cond_true, index_eq hn, bind_s]
        cases hat : at_ names t.2.1 with
        | none =>
          refine ⟨.error (3, t.2.2.2), by rw [hts]; exact .oName rfl ho h2' hnm hat, .mk 0 0 0 [], a, hlt, ?_⟩
          simp only [show decide ((-1 : Int) < 0) = true from rfl, cond_true, fail_eq ht, bind_s]
        | some i =>
          refine ⟨.ok (.mk 2 (i : Int) t.2.2.2 [], r1), by rw [hts]; exact .oVar rfl ho h2' hnm hat, a + 1, hd1, ?_⟩
          have : decide (((i : Nat) : Int) < 0) = false := by simp
          simp only [this, cond_false, hw]
    · refine ⟨.ok (.mk 1 t.2.2.1 t.2.2.2 [], r1), by rw [hts]; exact .oNum rfl ho h2', a + 1, hd1, ?_⟩
      simp only [cond_true, hw]
end Pa
end Go.Proofs.YtmeombbmhpcacaaDoor
