/-
  Own texts for the statement ModelMany, cut down to what it needs: PrRead, PrRead2, SysErr, TrType, MoA, MoB, MoC, MoD, MoE, MoItem, KIt, MoTok, MoPc, MoName, MoName2, MoShown, TrRKey, MoName4, MoMany, MoManyP, KFr. (cut and joined by a program)
-/
import Derived.Test.YtdhgpnejphlfpaaDoorModelManyA
import Derived.Test.YtdhgpnejphlfpaaDoorModelManyB
import Derived.Test.YtdhgpnejphlfpaaDoorModelManyC
import Derived.Test.YtdhgpnejphlfpaaDoorModelManyD
import Derived.Test.YtdhgpnejphlfpaaDoorModelManyE
import Derived.Lib.ItoaNum
import Derived.Lib.LaidTab
import Derived.Below
import Derived.WalkKit
import Derived.ProofKit
namespace Go.Proofs.YtdhgpnejphlfpaaDoor
namespace Pa
open Job
abbrev R5 := Ex × Int × Int × Int × Int
theorem bind_eta (x : Option R5) : (x.bind fun r => some (r.1, r.2.1, r.2.2.1, r.2.2.2.1, r.2.2.2.2)) = x := by cases x <;> rfl
theorem drop_cons {l : List Tok} {k : Nat} {t : Tok} {r : List Tok} (h : l.drop k = t :: r) : idx l (k : Int) = some t ∧ l.drop (k + 1) = r ∧ k < l.length := by
 have hk : k < l.length := by
  by_cases hk : k < l.length
  ·exact hk
  ·rw [List.drop_eq_nil_of_le (by omega)] at h; cases h
 rw [List.drop_eq_getElem_cons hk] at h
 cases h
 refine ⟨?_, rfl, hk⟩
 simp [idx, List.getElem?_eq_getElem hk]
theorem idx_of_lt {l : List Tok} {k : Nat} (h : k < l.length) : ∃ t, idx l (k : Int) = some t := ⟨l[k], by simp [idx, List.getElem?_eq_getElem h]⟩
/-! is: one of these parts? -/
def isR : Option Int → Int × Bool
 | some k => (k, true)
 | none => (0, false)
theorem int_mid {l pre r : List Int} {x : Int} (h : l = pre ++ x :: r) : idx l (pre.length : Int) = some x := by subst h; simp [idx]
theorem int_t {l pre r : List Int} {x : Int} (h : l = pre ++ x :: r) : decide ((pre.length : Int) < (List.length l : Int)) = true := by subst h; simp; omega
theorem int_f {l pre : List Int} (h : l = pre ++ []) : decide ((pre.length : Int) < (List.length l : Int)) = false := by subst h; simp
theorem is_loop {l : List Int} (ho : ∀ o ∈ l, 1 ≤ o ∧ o ≤ 24) (hl : l.length < 4611686018427387904) (t : Tok) : ∀ (r pre : List Int), l = pre ++ r → ∀ (M : Nat), r.length < M →
  fixN (expr_read_is_s3_L1 l t) M (pre.length : Int) = some (isR (r.find? (fun o => txtT o == t.2.1)))
 | [], pre, h, M, hM => by
  obtain ⟨m, rfl⟩ : ∃ m, M = m + 1 := ⟨M - 1, by simp at hM; omega⟩
  rw [fixN_succ]
  simp only [expr_read_is_s3_L1, int_f h, cond_false]
  rfl
 | x :: r, pre, h, M, hM => by
  obtain ⟨m, rfl⟩ : ∃ m, M = m + 1 := ⟨M - 1, by omega⟩
  rw [fixN_succ]
  have hlen : pre.length < 4611686018427387904 := by rw [h] at hl; simp at hl; omega
  have ih := is_loop ho hl t r (pre ++ [x]) (by rw [h]; simp) m (by simp at hM; omega)
  rw [show ((pre ++ [x]).length : Int) = ((pre.length + 1 : Nat) : Int) by simp] at ih
  have hx := ho x (by rw [h]; simp)
  simp only [expr_read_is_s3_L1, int_t h, cond_true, int_mid h, bind_s, idx_txt hx.1 hx.2, next_ix hlen]
  cases hv : (txtT x == t.2.1)
  ·simp only [cond_false]
   rw [ih, List.find?_cons, hv]
  ·simp only [cond_true]
   rw [List.find?_cons, hv]; rfl
theorem is_eq {l : List Int} (ho : ∀ o ∈ l, 1 ≤ o ∧ o ≤ 24) (hl : l.length < 4611686018427387904) {ts : List Tok} {a : Int} {t : Tok} (h : idx ts a = some t) (names : List Str) (d b p : Int) : expr_read_is_s3 l ts a names d b p = some (isR (fnd l t)) := by
 unfold expr_read_is_s3 expr_read_next_s3
 rw [h]
 simp only [bind_s, letv_e, Key_eq]
 have hi := is_loop ho hl t l [] rfl FUEL (by show l.length < 2 ^ 64; omega)
 have hi : fixN (expr_read_is_s3_L1 l t) FUEL 0 = some (isR (l.find? (fun o => txtT o == t.2.1))) := hi
 rw [hi]
 unfold fnd sgn key
 cases h3 : (t.1 == 3)
 ·have : (t.1 != 3) = true := by simp [bne, h3]
  rw [this]
  cases h1 : (t.1 == 1)
  ·rfl
  ·simp only [Bool.true_and, callG_tt, bind_s, Bool.false_or]
   cases hk : keysT.contains t.2.1 <;> rfl
 ·have : (t.1 != 3) = false := by simp [bne, h3]
  rw [this]
  simp only [Bool.false_and, callG_ff, cond_false, Bool.true_or, cond_true]
theorem ops_ok : ∀ s : Nat, (∀ o ∈ ops s, 1 ≤ o ∧ o ≤ 24) ∧ (ops s).length < 4611686018427387904 := by
 intro s
 unfold ops
 split <;> (refine ⟨?_, ?_⟩ <;> simp)
theorem is_op (s : Nat) {ts : List Tok} {a : Int} {t : Tok} (h : idx ts a = some t) (names : List Str) (d b p : Int) : expr_read_is_s3 (ops s) ts a names d b p = some (isR (opOf s t)) := is_eq (ops_ok s).1 (ops_ok s).2 h names d b p
theorem next_eq {ts : List Tok} {a : Int} {t : Tok} (h : idx ts a = some t) (names : List Str) (d b p : Int) : expr_read_next_s3 ts a names d b p = some t := by unfold expr_read_next_s3; rw [h]; rfl
theorem fail_eq {ts : List Tok} {a : Int} {t : Tok} (h : idx ts a = some t) (names : List Str) (e d p : Int) : expr_read_fail_s3 e ts a names d 0 p = some (.mk 0 0 0 [], e, t.2.2.2) := by unfold expr_read_fail_s3; rw [h]; rfl
/-! what is to be shown -/
def Rs (l : List Tok) (d pl : Int) : Out → Option R5 → Prop
 | .ok p, m => ∃ k : Nat, l.drop k = p.2 ∧ m = some (p.1, (k : Int), d, 0, pl)
 | .error e, m => ∃ (x : Ex) (k : Nat), k < l.length ∧ m = some (x, (k : Int), d, e.1, e.2)
def Snd (names : List Str) (l : List Tok) (j : Job) (d : Int) (ts : List Tok) (pl : Int) (m : Option R5) : Prop := ∃ r, P names j d ts r ∧ Rs l d pl r m
def SndI (names : List Str) (l : List Tok) (s : Nat) (D : Int) (ts : List Tok) (pl : Int) (m : Option R5) : Prop :=
 ∃ r, (∀ d, dn s d = D → deepB s d = false → P names (line s) d ts r) ∧ Rs l D pl r m
theorem err_ne {names : List Str} {j : Job} {d : Int} {ts : List Tok} {e : Int × Int} (h : P names j d ts (.error e)) : (e.1 != 0) = true := by
 have := h.err e rfl
 simp only [bne_iff_ne, ne_eq]
 omega
theorem err_eq {names : List Str} {j : Job} {d : Int} {ts : List Tok} {e : Int × Int} (h : P names j d ts (.error e)) : (e.1 == 0) = false := by
 have := h.err e rfl
 simp only [beq_eq_false_iff_ne, ne_eq]
 omega
def gRight (names : List Str) (l : List Tok) (ops : List Int) (one : Option R5) (whole : Int → Int → Int → Int → Option R5) : Option R5 :=
 one.bind fun r11 =>
 (expr_read_is_s3 ops l r11.2.1 names r11.2.2.1 r11.2.2.2.1 r11.2.2.2.2).bind fun r19 =>
 letv (r11.2.2.2.1 != 0) fun b22 =>
 letv (!r19.2) fun b24 =>
 letv (b22 || b24) fun b26 =>
 bif b26 then (
 some (r11.1, r11.2.1, r11.2.2.1, r11.2.2.2.1, r11.2.2.2.2))
 else (
 (expr_read_next_s3 l r11.2.1 names r11.2.2.1 r11.2.2.2.1 r11.2.2.2.2).bind fun r30 =>
 (whole (IntKind.i64.wrap (r11.2.1 + 1)) r11.2.2.1 r11.2.2.2.1 r11.2.2.2.2).bind fun r37 =>
 some ((Ex.mk r19.1 0 r30.2.2.2 ([r11.1, r37.1] : List Ex)), r37.2.1, r37.2.2.1, r37.2.2.2.1, r37.2.2.2.2))
theorem snd_right {names : List Str} {l : List Tok} {s : Nat} (hk : kd s = 1) {D pl : Int} {ts : List Tok} {one : Option R5} {whole : Int → Int → Int → Int → Option R5} (hl : l.length < 4611686018427387904)
  (he : Ends ts) (h1 : Snd names l (line (s + 1)) D ts pl one)
  (h2 : ∀ k : Nat, Ends (l.drop k) → (l.drop k).length < ts.length → Snd names l (line (nx s)) D (l.drop k) pl (whole (k : Int) D 0 pl)) :
  SndI names l s D ts pl (gRight names l (ops s) one whole) := by
 obtain ⟨r, hp, hr⟩ := h1
 cases r with
 | error e =>
  obtain ⟨x, k1, hk1, rfl⟩ := hr
  refine ⟨.error e, fun d hd hb => .rErr hk hb (by rw [hd]; exact hp), x, k1, hk1, ?_⟩
  obtain ⟨t, ht⟩ := idx_of_lt hk1
  simp only [gRight, bind_s, is_op s ht, letv_e, err_ne hp, Bool.true_or, cond_true]
 | ok p =>
  obtain ⟨a, ts1⟩ := p
  obtain ⟨k1, hk1, rfl⟩ := hr
  obtain ⟨e1, e2⟩ := hp.ends he _ rfl
  obtain ⟨t, r1, rfl⟩ := e1.ne
  obtain ⟨ht, hd1, hlt⟩ := drop_cons hk1
  cases ho : opOf s t with
  | none =>
   refine ⟨.ok (a, t :: r1), fun d hd hb => .rOne hk hb (by rw [hd]; exact hp) ho, k1, hk1, ?_⟩
   simp only [gRight, bind_s, is_op s ht, letv_e, ho, isR, Bool.not_false, Bool.or_true, cond_true]
  | some k =>
   have hw := next_ix (n := k1) (by omega)
   obtain ⟨r2, hp2, hr2⟩ := h2 (k1 + 1) (by rw [hd1]; exact e1.tail (op_ne ho)) (by rw [hd1]; simp only [shorter, List.length_cons] at e2; omega)
   rw [hd1] at hp2
   refine ⟨two' k t.2.2.2 a r2, fun d hd hb => .rTwo hk hb (by rw [hd]; exact hp) ho (by rw [hd]; exact hp2), ?_⟩
   have hz : ((0 : Int) != 0) = false := rfl
   cases r2 with
   | error e =>
    obtain ⟨x, k2, hk2, hm⟩ := hr2
    refine ⟨.mk k 0 t.2.2.2 [a, x], k2, hk2, ?_⟩
    simp only [gRight, bind_s, is_op s ht, letv_e, ho, isR, hz, Bool.not_true, Bool.or_false, cond_false, next_eq ht, hw, hm]
   | ok p =>
    obtain ⟨k2, hk2, hm⟩ := hr2
    refine ⟨k2, hk2, ?_⟩
    simp only [gRight, bind_s, is_op s ht, letv_e, ho, isR, hz, Bool.not_true, Bool.or_false, cond_false, next_eq ht, hw, hm]
def gBefore (names : List Str) (l : List Tok) (ops : List Int) (at_ deep bad place : Int) (other : Option R5) (same : Int → Int → Int → Int → Option R5) : Option R5 :=
 (expr_read_is_s3 ops l at_ names deep bad place).bind fun r11 =>
 bif (!r11.2) then (
 other.bind fun r15 =>
 some (r15.1, r15.2.1, r15.2.2.1, r15.2.2.2.1, r15.2.2.2.2))
 else (
 (expr_read_next_s3 l at_ names deep bad place).bind fun r21 =>
 (same (IntKind.i64.wrap (at_ + 1)) deep bad place).bind fun r30 =>
 some ((Ex.mk r11.1 0 r21.2.2.2 ([r30.1] : List Ex)), r30.2.1, r30.2.2.1, r30.2.2.2.1, r30.2.2.2.2))
theorem snd_before {names : List Str} {l : List Tok} {s : Nat} (hk : kd s = 0) {D pl : Int} {a : Nat} {other : Option R5} {same : Int → Int → Int → Int → Option R5} (hl : l.length < 4611686018427387904)
  (he : Ends (l.drop a)) (h1 : Snd names l (line (s + 1)) D (l.drop a) pl other)
  (h2 : ∀ k : Nat, Ends (l.drop k) → (l.drop k).length < (l.drop a).length → Snd names l (line s) D (l.drop k) pl (same (k : Int) D 0 pl)) :
  SndI names l s D (l.drop a) pl (gBefore names l (ops s) (a : Int) D 0 pl other same) := by
 obtain ⟨t, r1, hts⟩ := he.ne
 obtain ⟨ht, hd1, hlt⟩ := drop_cons hts
 cases ho : opOf s t with
 | none =>
  obtain ⟨r, hp, hr⟩ := h1
  have hg : gBefore names l (ops s) (a : Int) D 0 pl other same = other := by
   simp only [gBefore, is_op s ht, ho, isR, bind_s, Bool.not_false, cond_true, bind_eta]
  rw [hg]
  refine ⟨r, fun d hd hb => ?_, hr⟩
  rw [hts] at hp ⊢
  exact .other hk hb ho (by rw [hd]; exact hp)
 | some k =>
  have hw := next_ix (n := a) (by omega)
  rw [hts] at he
  obtain ⟨r2, hp2, hr2⟩ := h2 (a + 1) (by rw [hd1]; exact he.tail (op_ne ho)) (by rw [hd1, hts]; simp)
  rw [hd1] at hp2
  refine ⟨one' k t.2.2.2 r2, fun d hd hb => by rw [hts]; exact .pre hk hb ho (by rw [hd]; exact hp2), ?_⟩
  cases r2 with
  | error e =>
   obtain ⟨x, k2, hk2, hm⟩ := hr2
   refine ⟨.mk k 0 t.2.2.2 [x], k2, hk2, ?_⟩
   simp only [gBefore, is_op s ht, ho, isR, bind_s, Bool.not_true, cond_false, next_eq ht, hw, hm]
  | ok p =>
   obtain ⟨k2, hk2, hm⟩ := hr2
   refine ⟨k2, hk2, ?_⟩
   simp only [gBefore, is_op s ht, ho, isR, bind_s, Bool.not_true, cond_false, next_eq ht, hw, hm]
def gLower (names : List Str) (l : List Tok) (at_ deep bad place : Int) (by_ : Int → Option R5) : Option R5 :=
 bif (decide (320 ≤ deep)) then (
 (expr_read_fail_s3 9 l at_ names deep bad place).bind fun r12 =>
 some (r12.1, at_, deep, r12.2.1, r12.2.2))
 else (
 (by_ (IntKind.i64.wrap (deep + 1))).bind fun r19 =>
 some (r19.1, r19.2.1, (IntKind.i64.wrap (r19.2.2.1 - 1)), r19.2.2.2.1, r19.2.2.2.2))
theorem snd_lower {names : List Str} {l : List Tok} {s : Nat} (hc : counted s = true) {d pl : Int} {a : Nat} {by_ : Int → Option R5} (h0 : 0 ≤ d) (h3 : d ≤ 320)
  (he : Ends (l.drop a)) (h1 : d < 320 → SndI names l s (d + 1) (l.drop a) pl (by_ (d + 1))) :
  Snd names l (line s) d (l.drop a) pl (gLower names l (a : Int) d 0 pl by_) := by
 obtain ⟨t, r1, hts⟩ := he.ne
 obtain ⟨ht, hd1, hlt⟩ := drop_cons hts
 have hw : IntKind.i64.wrap (d + 1) = d + 1 := w64 (by omega)
 have hw2 : IntKind.i64.wrap (d + 1 - 1) = d := by rw [show d + 1 - 1 = d by omega]; exact w64 (by omega)
 unfold gLower
 cases hd : decide (320 ≤ d)
 ·have hdb : deepB s d = false := by unfold deepB; rw [hd, Bool.and_false]
  obtain ⟨r, hp, hr⟩ := h1 (by simp only [decide_eq_false_iff_not] at hd; omega)
  refine ⟨r, hp d (by unfold dn; rw [hc]; rfl) hdb, ?_⟩
  cases r with
  | error e =>
   obtain ⟨x, k2, hk2, hm⟩ := hr
   refine ⟨x, k2, hk2, ?_⟩
   simp only [cond_false, hw, hm, bind_s, hw2]
  | ok p =>
   obtain ⟨k2, hk2, hm⟩ := hr
   refine ⟨k2, hk2, ?_⟩
   simp only [cond_false, hw, hm, bind_s, hw2]
 ·refine ⟨.error (9, t.2.2.2), by rw [hts]; exact .big (by unfold deepB; rw [hc, hd]; rfl), .mk 0 0 0 [], a, hlt, ?_⟩
  simp only [cond_true, fail_eq ht, bind_s]
abbrev R8 := Int × Int × Int × Int × Int × Int × Int × (List Ex)
def gLeft_L1 (names : List Str) (l : List Tok) (ops : List Int) (one : Int → Int → Int → Int → Option R5) (again30 : R8 → Option R5) : R8 → Option R5 := fun ⟨c20, c21, c22, c23, c24, c25, c26, c27⟩ =>
 bif (c22 == 0) then (
 (expr_read_is_s3 ops l c20 names c21 c22 c23).bind fun r32 =>
 bif (!r32.2) then (
 some ((Ex.mk c24 c25 c26 c27), c20, c21, c22, c23))
 else (
 (expr_read_next_s3 l c20 names c21 c22 c23).bind fun r37 =>
 (one (IntKind.i64.wrap (c20 + 1)) c21 c22 c23).bind fun r44 =>
 again30 (r44.2.1, r44.2.2.1, r44.2.2.2.1, r44.2.2.2.2, r32.1, 0, r37.2.2.2, ([(Ex.mk c24 c25 c26 c27), r44.1] : List Ex))))
 else (
 some ((Ex.mk c24 c25 c26 c27), c20, c21, c22, c23))
def gLeft (names : List Str) (l : List Tok) (ops : List Int) (first : Option R5) (one : Int → Int → Int → Int → Option R5) : Option R5 :=
 first.bind fun r11 =>
 fixN (gLeft_L1 names l ops one) FUEL (r11.2.1, r11.2.2.1, r11.2.2.2.1, r11.2.2.2.2, r11.1.op, r11.1.n, r11.1.at_, r11.1.l)
theorem snd_loop {names : List Str} {l : List Tok} {s : Nat} {d pl : Int} {one : Int → Int → Int → Int → Option R5} (hl : l.length < 4611686018427387904) (N : Nat)
  (h2 : ∀ k : Nat, Ends (l.drop k) → (l.drop k).length < N → Snd names l (line (s + 1)) d (l.drop k) pl (one (k : Int) d 0 pl)) : ∀ (n k : Nat) (a : Ex), Ends (l.drop k) → (l.drop k).length ≤ N → (l.drop k).length ≤ n →
  Snd names l (loop s a) d (l.drop k) pl (fixN (gLeft_L1 names l (ops s) one) (n + 1) ((k : Int), d, 0, pl, a.op, a.n, a.at_, a.l)) := by
 intro n
 induction n with
 | zero =>
  intro k a he _ hn
  obtain ⟨t, r1, hts⟩ := he.ne
  rw [hts] at hn; simp at hn
 | succ n ih =>
  intro k a he hN hn
  obtain ⟨t, r1, hts⟩ := he.ne
  obtain ⟨ht, hd1, hlt⟩ := drop_cons hts
  have hz : ((0 : Int) == 0) = true := rfl
  rw [fixN_succ]
  cases ho : opOf s t with
  | none =>
   refine ⟨.ok (a, t :: r1), by rw [hts]; exact .lpEnd ho, k, hts, ?_⟩
   simp only [gLeft_L1, hz, cond_true, is_op s ht, ho, isR, bind_s, Bool.not_false, Ex.eta]
  | some o =>
   have hw := next_ix (n := k) (by omega)
   have he1 := he
   rw [hts] at he1
   have hlen : (l.drop (k + 1)).length + 1 = (l.drop k).length := by rw [hd1, hts]; rfl
   obtain ⟨r2, hp2, hr2⟩ := h2 (k + 1) (by rw [hd1]; exact he1.tail (op_ne ho)) (by omega)
   rw [hd1] at hp2
   cases r2 with
   | error e =>
    obtain ⟨x, k2, hk2, hm⟩ := hr2
    refine ⟨.error e, by rw [hts]; exact .lpErr ho hp2, .mk o 0 t.2.2.2 [a, x], k2, hk2, ?_⟩
    obtain ⟨m, rfl⟩ : ∃ m, n = m := ⟨n, rfl⟩
    simp only [gLeft_L1, hz, cond_true, is_op s ht, ho, isR, bind_s, Bool.not_true, cond_false, next_eq ht, hw, hm, Ex.eta]
    rw [fixN_succ]
    simp only [gLeft_L1, err_eq hp2, cond_false]
   | ok p =>
    obtain ⟨b, ts2⟩ := p
    obtain ⟨k2, hk2, hm⟩ := hr2
    obtain ⟨i1, i2⟩ := hp2.ends (he1.tail (op_ne ho)) _ rfl
    simp only [shorter] at i2
    simp only at hk2
    obtain ⟨r, hp, hr⟩ := ih k2 (.mk o 0 t.2.2.2 [a, b]) (by rw [hk2]; exact i1) (by rw [hk2]; rw [← hd1] at i2; omega) (by rw [hk2]; rw [← hd1] at i2; omega)
    rw [hk2] at hp
    refine ⟨r, by rw [hts]; exact .lpGo ho hp2 hp, ?_⟩
    simp only [gLeft_L1, hz, cond_true, is_op s ht, ho, isR, bind_s, Bool.not_true, cond_false, next_eq ht, hw, hm, Ex.eta]
    exact hr
theorem snd_left {names : List Str} {l : List Tok} {s : Nat} (hk : kd s = 2) {d pl : Int} {ts : List Tok} {first : Option R5} {one : Int → Int → Int → Int → Option R5} (hl : l.length < 4611686018427387904)
  (he : Ends ts) (hts : ts.length ≤ l.length) (h1 : Snd names l (line (s + 1)) d ts pl first)
  (h2 : ∀ k : Nat, Ends (l.drop k) → (l.drop k).length < ts.length → Snd names l (line (s + 1)) d (l.drop k) pl (one (k : Int) d 0 pl)) :
  Snd names l (line s) d ts pl (gLeft names l (ops s) first one) := by
 obtain ⟨r, hp, hr⟩ := h1
 unfold gLeft
 cases r with
 | error e =>
  obtain ⟨x, k1, hk1, rfl⟩ := hr
  refine ⟨.error e, .lErr hk hp, x, k1, hk1, ?_⟩
  rw [bind_s, show FUEL = 18446744073709551615 + 1 from rfl, fixN_succ]
  simp only [gLeft_L1, err_eq hp, cond_false, Ex.eta]
 | ok p =>
  obtain ⟨a, ts1⟩ := p
  obtain ⟨k1, hk1, rfl⟩ := hr
  obtain ⟨e1, e2⟩ := hp.ends he _ rfl
  simp only at hk1 e1 e2
  subst hk1
  simp only [shorter] at e2
  obtain ⟨r, hp2, hr2⟩ := snd_loop (s := s) (d := d) (pl := pl) (one := one) hl ts.length h2 18446744073709551615 k1 a e1 (by omega) (by omega)
  exact ⟨r, .lGo hk hp hp2, hr2⟩
theorem at_loop {s : List Str} {v : Str} (hl : s.length < 4611686018427387904) : ∀ (r pre : List Str), s = pre ++ r → ∀ (M : Nat), r.length < M →
  fixN (slices_Index_string_string_s2_L1 s v) M (pre.length : Int) = some (match r.findIdx? (fun x => v == x) with | some i => ((pre.length + i : Nat) : Int) | none => -1)
 | [], pre, h, M, hM => by
  obtain ⟨m, rfl⟩ : ∃ m, M = m + 1 := ⟨M - 1, by simp at hM; omega⟩
  rw [fixN_succ]
  simp only [slices_Index_string_string_s2_L1, str_f h, cond_false]
  rfl
 | x :: r, pre, h, M, hM => by
  obtain ⟨m, rfl⟩ : ∃ m, M = m + 1 := ⟨M - 1, by omega⟩
  rw [fixN_succ]
  have hlen : pre.length < 4611686018427387904 := by rw [h] at hl; simp at hl; omega
  have ih := at_loop (v := v) hl r (pre ++ [x]) (by rw [h]; simp) m (by simp at hM; omega)
  rw [show ((pre ++ [x]).length : Int) = ((pre.length + 1 : Nat) : Int) by simp] at ih
  simp only [slices_Index_string_string_s2_L1, str_t h, cond_true, str_mid h, bind_s, next_ix hlen]
  cases hv : (v == x)
  ·simp only [cond_false]
   rw [ih, List.findIdx?_cons, hv]
   cases hf : r.findIdx? (fun x => v == x) with
   | none => rfl
   | some i =>
    simp only [List.length_append, List.length_cons, List.length_nil, Bool.false_eq_true, if_false, Option.map_some]
    congr 2; omega
  ·simp only [cond_true]
   rw [List.findIdx?_cons, hv]; rfl
theorem index_eq {s : List Str} (hl : s.length < 4611686018427387904) (v : Str) : slices_Index_string_string_s2 s v = some (match at_ s v with | some i => (i : Int) | none => -1) := by
 have := at_loop (v := v) hl s [] rfl FUEL (by show s.length < 2 ^ 64; omega)
 unfold slices_Index_string_string_s2 at_
 rw [show fixN (slices_Index_string_string_s2_L1 s v) FUEL 0 = _ from this]
 cases s.findIdx? (fun x => v == x) with
 | none => rfl
 | some i => simp
theorem snd_one {names : List Str} (hn : names.length < 4611686018427387904) {l : List Tok} {d pl : Int} {a : Nat} {k} (hl : l.length < 4611686018427387904)
  (he : Ends (l.drop a)) (h2 : ∀ b : Nat, Ends (l.drop b) → (l.drop b).length < (l.drop a).length → Snd names l (line 1) d (l.drop b) pl (k (l, (b : Int), names, d, 0, pl))) :
  Snd names l (line 11) d (l.drop a) pl (expr_read_one_s3 k l (a : Int) names d 0 pl) := by
 obtain ⟨t, r1, hts⟩ := he.ne
 obtain ⟨ht, hd1, hlt⟩ := drop_cons hts
 have hw := next_ix (n := a) (by omega)
 have hz : ((0 : Int) != 0) = false := rfl
 have hz' : ((0 : Int) == 0) = true := rfl
 have he1 := he
 rw [hts] at he1
 unfold expr_read_one_s3
 have hio : expr_read_is_s3 ([13, 14] : List Int) l (a : Int) names d 0 pl = some (isR (opOf 11 t)) := is_op 11 ht names d 0 pl
 simp only [hz, cond_false, next_eq ht, bind_s, hio]
 cases ho : opOf 11 t with
 | some o =>
  refine ⟨.ok (.mk o 0 t.2.2.2 [], r1), by rw [hts]; exact .oWord rfl ho, a + 1, hd1, ?_⟩
  simp only [isR, cond_true, hw]
 | none =>
  simp only [isR, cond_false]
  cases h2' : (t.1 == 2)
  ·simp only [cond_false, letv_e, Key_eq]
   cases hnm : name_ t
   ·have hgo : (callG (t.1 == 1) default (some (keysT.contains t.2.1)) fun r32 => letv (!r32) fun b38 => letv ((t.1 == 1) && b38) fun b40 => (some b40 : Option Bool)) = some false := by
     unfold name_ key at hnm
     cases h1 : (t.1 == 1)
     ·rfl
     ·rw [h1, Bool.true_and] at hnm; simp only [callG_tt, bind_s, letv_e, hnm, Bool.and_false]
    have hgo' : ∀ (f : Bool → Option R5), (callG (t.1 == 1) default (some (keysT.contains t.2.1)) fun r32 => f ((t.1 == 1) && !r32)) = f false := by
     intro f
     unfold name_ key at hnm
     cases h1 : (t.1 == 1)
     ·rfl
     ·rw [h1, Bool.true_and] at hnm; simp only [callG_tt, bind_s, hnm, Bool.and_false]
    rw [hgo' (fun b => bif b then _ else _)]
    simp only [cond_false]
    cases hop : open_ t
    ·have hop' : ((t.1 == 3) && (t.2.1 == [40])) = false := hop
     rw [hop']
     refine ⟨.error (2, t.2.2.2), by rw [hts]; exact .oForm rfl ho h2' hnm hop, .mk 0 0 0 [], a, hlt, ?_⟩
     simp only [cond_false, fail_eq ht, bind_s]
    ·have hop' : ((t.1 == 3) && (t.2.1 == [40])) = true := hop
     rw [hop']
     simp only [cond_true, hw]
     have h4 : t.1 ≠ 4 := by unfold open_ at hop; simp only [Bool.and_eq_true, beq_iff_eq] at hop; omega
     obtain ⟨r2, hp2, hr2⟩ := h2 (a + 1) (by rw [hd1]; exact he1.tail h4) (by rw [hd1, hts]; simp)
     rw [hd1] at hp2
     cases r2 with
     | error e =>
      obtain ⟨x, k2, hk2, hm⟩ := hr2
      refine ⟨.error e, by rw [hts]; exact .oErr rfl ho h2' hnm hop hp2, x, k2, hk2, ?_⟩
      simp only [hm, bind_s, err_eq hp2, Bool.false_and, callG_ff, cond_false]
     | ok p =>
      obtain ⟨x, ts2⟩ := p
      obtain ⟨k2, hk2, hm⟩ := hr2
      obtain ⟨i1, i2⟩ := hp2.ends (he1.tail h4) _ rfl
      obtain ⟨c, r3, rfl⟩ := i1.ne
      obtain ⟨hc, hd2, hlt2⟩ := drop_cons hk2
      simp only [hm, bind_s, hz', callG_tt, next_eq hc, Bool.true_and]
      have hw2 := next_ix (n := k2) (by omega)
      cases hcl : close_ c
      ·refine ⟨.error (2, c.2.2.2), by rw [hts]; exact .oClose rfl ho h2' hnm hop hp2 hcl, .mk 0 0 0 [], k2, hlt2, ?_⟩
       unfold close_ at hcl
       cases h3 : (c.1 == 3)
       ·have : (c.1 != 3) = true := by simp [bne, h3]
        simp only [this, Bool.not_true, callG_ff, Bool.true_or, cond_true, fail_eq hc, bind_s]
       ·have : (c.1 != 3) = false := by simp [bne, h3]
        rw [h3, Bool.true_and] at hcl
        have h41 : (c.2.1 != [41]) = true := by simp [bne, hcl]
        simp only [this, Bool.not_false, callG_tt, bind_s, h41, Bool.or_true, cond_true, fail_eq hc]
      ·refine ⟨.ok (x, r3), by rw [hts]; exact .oOpen rfl ho h2' hnm hop hp2 hcl, k2 + 1, hd2, ?_⟩
       unfold close_ at hcl
       simp only [Bool.and_eq_true] at hcl
       have h3 : (c.1 != 3) = false := by simp only [bne, hcl.1, Bool.not_true]
       have h41 : (c.2.1 != [41]) = false := by simp only [bne, hcl.2, Bool.not_true]
       simp only [h3, Bool.not_false, callG_tt, bind_s, h41, Bool.or_false, cond_false, cond_true, hw2]
   ·have hgo' : ∀ (f : Bool → Option R5), (callG (t.1 == 1) default (some (keysT.contains t.2.1)) fun r32 => f ((t.1 == 1) && !r32)) = f true := by
     intro f
     unfold name_ key at hnm
     simp only [Bool.and_eq_true] at hnm
     rw [hnm.1]
     simp only [callG_tt, bind_s, hnm.2, Bool.and_self]
    rw [hgo' (fun b => bif b then _ else _)]
    simp only [cond_true, index_eq hn, bind_s]
    cases hat : at_ names t.2.1 with
    | none =>
     refine ⟨.error (3, t.2.2.2), by rw [hts]; exact .oName rfl ho h2' hnm hat, .mk 0 0 0 [], a, hlt, ?_⟩
     simp only [show decide ((-1 : Int) < 0) = true from rfl, cond_true, fail_eq ht, bind_s]
    | some i =>
     refine ⟨.ok (.mk 2 (i : Int) t.2.2.2 [], r1), by rw [hts]; exact .oVar rfl ho h2' hnm hat, a + 1, hd1, ?_⟩
     have : decide (((i : Nat) : Int) < 0) = false := by simp
     simp only [this, cond_false, hw]
  ·refine ⟨.ok (.mk 1 t.2.2.1 t.2.2.2 [], r1), by rw [hts]; exact .oNum rfl ho h2', a + 1, hd1, ?_⟩
   simp only [cond_true, hw]
end Pa
end Go.Proofs.YtdhgpnejphlfpaaDoor
namespace Go.Proofs.YtdhgpnejphlfpaaDoor
namespace Pa
open Job
section
variable (names : List Str) (l : List Tok) (N : Nat)
def Gd (s : Nat) (n : Nat) (f : Int → Int → Int → Option R5) : Prop :=
 ∀ (a : Nat) (d pl : Int), 0 ≤ d → d ≤ 320 → Ends (l.drop a) → (l.drop a).length ≤ n → Snd names l (line s) d (l.drop a) pl (f (a : Int) d pl)
abbrev PF := (List Tok × Int × List Str × Int × Int × Int) → Option R5
def Gk (s : Nat) (n : Nat) (k : PF) : Prop := Gd names l s n fun a d pl => k (l, a, names, d, 0, pl)
end
variable {names : List Str} {l : List Tok} {n : Nat}
theorem Gd.le {s m n : Nat} {f} (h : Gd names l s n f) (hm : m ≤ n) : Gd names l s m f := fun a d pl h0 h1 h2 h3 => h a d pl h0 h1 h2 (by omega)
theorem len_le (a : Nat) : (l.drop a).length ≤ l.length := by simp
theorem gd_one (hn : names.length < 4611686018427387904) (hl : l.length < 4611686018427387904) {k : PF} (hk : Gk names l 1 n k) : Gd names l 11 (n + 1) fun a d pl => expr_read_one_s3 k l a names d 0 pl :=
 fun a d pl h0 h1 h2 h3 => snd_one hn hl h2 (fun b hb1 hb2 => hk b d pl h0 h1 hb1 (by omega))
theorem gd_rec {s : Nat} {F : PF → PF} (h : ∀ m k, m ≤ n → Gk names l s m k → Gk names l s (m + 1) (F k)) : ∀ m, m ≤ n + 1 → Gk names l s m (fixN F m) := by
 intro m
 induction m with
 | zero =>
  intro _ a d pl _ _ h2 h3
  obtain ⟨t, r, hr⟩ := h2.ne
  rw [hr] at h3; simp at h3
 | succ m ih => intro hm; exact h m _ (by omega) (ih (by omega))
theorem gd_fuel {s : Nat} {F : PF → PF} (hl : l.length < 4611686018427387904) (h : ∀ m k, m ≤ n → Gk names l s m k → Gk names l s (m + 1) (F k)) : Gk names l s (n + 1) (fixN F FUEL) := by
 by_cases hf : FUEL ≤ n + 1
 ·intro a d pl h0 h1 h2 h3
  have := len_le (l := l) a
  exact gd_rec (n := n) h FUEL hf a d pl h0 h1 h2 (by show _ ≤ 2 ^ 64; omega)
 · -- a fuel beyond the length: the length alone counts
  intro a d pl h0 h1 h2 h3
  have : ∀ m, n + 1 ≤ m → Gk names l s (n + 1) (fixN F m) := by
   intro m
   induction m with
   | zero => intro hm; omega
   | succ m ih =>
    intro hm
    by_cases he : n + 1 ≤ m
    ·exact h n _ (Nat.le_refl _) ((ih he).le (by omega))
    ·exact gd_rec (n := n) h (m + 1) (by omega) |>.le (by omega)
  exact this FUEL (by omega) a d pl h0 h1 h2 h3
theorem gd_s5 (hn : names.length < 4611686018427387904) (hl : l.length < 4611686018427387904) {k : PF} (hk : Gk names l 1 n k) : Gd names l 10 (n + 1) fun a d pl => expr_read_deepNeg_s3 k l a names d 0 pl := by
 have hF : ∀ m k5, m ≤ n → Gk names l 10 m k5 → Gk names l 10 (m + 1) (fun s => expr_read_lower_s15_F k k5 s.1 s.2.1 s.2.2.1 s.2.2.2.1 s.2.2.2.2.1 s.2.2.2.2.2) := by
  intro m k5 hm h5 a d pl h0 h1 h2 h3
  have hg : ∀ D, expr_read_neg_s3 k k5 l a names D 0 pl = gBefore names l (ops 10) a D 0 pl (expr_read_one_s3 k l a names D 0 pl) (fun a d b p => k5 (l, a, names, d, b, p)) := fun D => by
   unfold expr_read_neg_s3; rw [bind_eta]; rfl
  show Snd names l (line 10) d (l.drop a) pl (gLower names l a d 0 pl (fun D => expr_read_neg_s3 k k5 l a names D 0 pl))
  refine snd_lower rfl h0 h1 h2 (fun hd => ?_)
  show SndI names l 10 (d + 1) (l.drop a) pl (expr_read_neg_s3 k k5 l a names (d + 1) 0 pl)
  rw [hg]
  exact snd_before rfl hl h2 (gd_one hn hl hk a (d + 1) pl (by omega) (by omega) h2 (by omega)) (fun b hb1 hb2 => h5 b (d + 1) pl (by omega) (by omega) hb1 (by omega))
 intro a d pl h0 h1 h2 h3
 show Snd names l (line 10) d (l.drop a) pl (expr_read_deepNeg_s3 k l a names d 0 pl)
 unfold expr_read_deepNeg_s3
 rw [bind_eta]
 exact gd_fuel (n := n) hl hF a d pl h0 h1 h2 h3
theorem gd_prod (hn : names.length < 4611686018427387904) (hl : l.length < 4611686018427387904) {k : PF} (hk : Gk names l 1 n k) : Gd names l 9 (n + 1) fun a d pl => expr_read_prod_s3 k l a names d 0 pl := by
 intro a d pl h0 h1 h2 h3
 have hg : expr_read_prod_s3 k l a names d 0 pl = gLeft names l (ops 9) (expr_read_deepNeg_s3 k l a names d 0 pl) (fun a d b p => expr_read_deepNeg_s3 k l a names d b p) := by
  unfold expr_read_prod_s3; rw [bind_eta]; rfl
 show Snd names l (line 9) d (l.drop a) pl (expr_read_prod_s3 k l a names d 0 pl)
 rw [hg]
 exact snd_left rfl hl h2 (len_le a) (gd_s5 hn hl hk a d pl h0 h1 h2 h3) (fun b hb1 hb2 => gd_s5 hn hl hk b d pl h0 h1 hb1 (by omega))
theorem gd_sum (hn : names.length < 4611686018427387904) (hl : l.length < 4611686018427387904) {k : PF} (hk : Gk names l 1 n k) : Gd names l 8 (n + 1) fun a d pl => expr_read_sum_s3 k l a names d 0 pl := by
 intro a d pl h0 h1 h2 h3
 have hg : expr_read_sum_s3 k l a names d 0 pl = gLeft names l (ops 8) (expr_read_prod_s3 k l a names d 0 pl) (fun a d b p => expr_read_prod_s3 k l a names d b p) := by
  unfold expr_read_sum_s3; rw [bind_eta]; rfl
 show Snd names l (line 8) d (l.drop a) pl (expr_read_sum_s3 k l a names d 0 pl)
 rw [hg]
 exact snd_left rfl hl h2 (len_le a) (gd_prod hn hl hk a d pl h0 h1 h2 h3) (fun b hb1 hb2 => gd_prod hn hl hk b d pl h0 h1 hb1 (by omega))
theorem gd_cmp (hn : names.length < 4611686018427387904) (hl : l.length < 4611686018427387904) {k : PF} (hk : Gk names l 1 n k) : Gd names l 7 (n + 1) fun a d pl => expr_read_cmp_s3 k l a names d 0 pl := by
 intro a d pl h0 h1 h2 h3
 have hg : expr_read_cmp_s3 k l a names d 0 pl = gRight names l (ops 7) (expr_read_sum_s3 k l a names d 0 pl) (fun a d b p => expr_read_sum_s3 k l a names d b p) := rfl
 show Snd names l (line 7) d (l.drop a) pl (expr_read_cmp_s3 k l a names d 0 pl)
 rw [hg]
 obtain ⟨r, hp, hr⟩ := snd_right (s := 7) (whole := fun a d b p => expr_read_sum_s3 k l a names d b p) rfl hl h2 (gd_sum hn hl hk a d pl h0 h1 h2 h3) (fun b hb1 hb2 => gd_sum hn hl hk b d pl h0 h1 hb1 (by omega))
 exact ⟨r, hp d rfl rfl, hr⟩
theorem gd_s4 (hn : names.length < 4611686018427387904) (hl : l.length < 4611686018427387904) {k : PF} (hk : Gk names l 1 n k) : Gd names l 6 (n + 1) fun a d pl => expr_read_deepPre_s3 k l a names d 0 pl := by
 have hF : ∀ m k5, m ≤ n → Gk names l 6 m k5 → Gk names l 6 (m + 1) (fun s => expr_read_lower_s14_F k k5 s.1 s.2.1 s.2.2.1 s.2.2.2.1 s.2.2.2.2.1 s.2.2.2.2.2) := by
  intro m k5 hm h5 a d pl h0 h1 h2 h3
  have hg : ∀ D, expr_read_pre_s3 k k5 l a names D 0 pl = gBefore names l (ops 6) a D 0 pl (expr_read_cmp_s3 k l a names D 0 pl) (fun a d b p => k5 (l, a, names, d, b, p)) := fun D => by
   unfold expr_read_pre_s3; rw [bind_eta]; rfl
  show Snd names l (line 6) d (l.drop a) pl (gLower names l a d 0 pl (fun D => expr_read_pre_s3 k k5 l a names D 0 pl))
  refine snd_lower rfl h0 h1 h2 (fun hd => ?_)
  show SndI names l 6 (d + 1) (l.drop a) pl (expr_read_pre_s3 k k5 l a names (d + 1) 0 pl)
  rw [hg]
  exact snd_before rfl hl h2 (gd_cmp hn hl hk a (d + 1) pl (by omega) (by omega) h2 (by omega)) (fun b hb1 hb2 => h5 b (d + 1) pl (by omega) (by omega) hb1 (by omega))
 intro a d pl h0 h1 h2 h3
 show Snd names l (line 6) d (l.drop a) pl (expr_read_deepPre_s3 k l a names d 0 pl)
 unfold expr_read_deepPre_s3
 rw [bind_eta]
 exact gd_fuel (n := n) hl hF a d pl h0 h1 h2 h3
theorem gd_s3 (hn : names.length < 4611686018427387904) (hl : l.length < 4611686018427387904) {k : PF} (hk : Gk names l 1 n k) : Gd names l 5 (n + 1) fun a d pl => expr_read_deepUntil_s3 k l a names d 0 pl := by
 have hF : ∀ m k5, m ≤ n → Gk names l 5 m k5 → Gk names l 5 (m + 1) (fun s => expr_read_lower_s13_F k k5 s.1 s.2.1 s.2.2.1 s.2.2.2.1 s.2.2.2.2.1 s.2.2.2.2.2) := by
  intro m k5 hm h5 a d pl h0 h1 h2 h3
  have hg : ∀ D, expr_read_until_s3 k k5 l a names D 0 pl = gRight names l (ops 5) (expr_read_deepPre_s3 k l a names D 0 pl) (fun a d b p => k5 (l, a, names, d, b, p)) := fun D => by
   unfold expr_read_until_s3; rw [bind_eta]; rfl
  show Snd names l (line 5) d (l.drop a) pl (gLower names l a d 0 pl (fun D => expr_read_until_s3 k k5 l a names D 0 pl))
  refine snd_lower rfl h0 h1 h2 (fun hd => ?_)
  show SndI names l 5 (d + 1) (l.drop a) pl (expr_read_until_s3 k k5 l a names (d + 1) 0 pl)
  rw [hg]
  exact snd_right rfl hl h2 (gd_s4 hn hl hk a (d + 1) pl (by omega) (by omega) h2 (by omega)) (fun b hb1 hb2 => h5 b (d + 1) pl (by omega) (by omega) hb1 (by omega))
 intro a d pl h0 h1 h2 h3
 show Snd names l (line 5) d (l.drop a) pl (expr_read_deepUntil_s3 k l a names d 0 pl)
 unfold expr_read_deepUntil_s3
 rw [bind_eta]
 exact gd_fuel (n := n) hl hF a d pl h0 h1 h2 h3
theorem gd_and (hn : names.length < 4611686018427387904) (hl : l.length < 4611686018427387904) {k : PF} (hk : Gk names l 1 n k) : Gd names l 4 (n + 1) fun a d pl => expr_read_and_s3 k l a names d 0 pl := by
 intro a d pl h0 h1 h2 h3
 have hg : expr_read_and_s3 k l a names d 0 pl = gLeft names l (ops 4) (expr_read_deepUntil_s3 k l a names d 0 pl) (fun a d b p => expr_read_deepUntil_s3 k l a names d b p) := by
  unfold expr_read_and_s3; rw [bind_eta]; rfl
 show Snd names l (line 4) d (l.drop a) pl (expr_read_and_s3 k l a names d 0 pl)
 rw [hg]
 exact snd_left rfl hl h2 (len_le a) (gd_s3 hn hl hk a d pl h0 h1 h2 h3) (fun b hb1 hb2 => gd_s3 hn hl hk b d pl h0 h1 hb1 (by omega))
theorem gd_or (hn : names.length < 4611686018427387904) (hl : l.length < 4611686018427387904) {k : PF} (hk : Gk names l 1 n k) : Gd names l 3 (n + 1) fun a d pl => expr_read_or_s3 k l a names d 0 pl := by
 intro a d pl h0 h1 h2 h3
 have hg : expr_read_or_s3 k l a names d 0 pl = gLeft names l (ops 3) (expr_read_and_s3 k l a names d 0 pl) (fun a d b p => expr_read_and_s3 k l a names d b p) := by
  unfold expr_read_or_s3; rw [bind_eta]; rfl
 show Snd names l (line 3) d (l.drop a) pl (expr_read_or_s3 k l a names d 0 pl)
 rw [hg]
 exact snd_left rfl hl h2 (len_le a) (gd_and hn hl hk a d pl h0 h1 h2 h3) (fun b hb1 hb2 => gd_and hn hl hk b d pl h0 h1 hb1 (by omega))
theorem gd_s2 (hn : names.length < 4611686018427387904) (hl : l.length < 4611686018427387904) {k : PF} (hk : Gk names l 1 n k) : Gd names l 2 (n + 1) fun a d pl => expr_read_deepImp_s3 k l a names d 0 pl := by
 have hF : ∀ m k5, m ≤ n → Gk names l 2 m k5 → Gk names l 2 (m + 1) (fun s => expr_read_lower_s12_F k k5 s.1 s.2.1 s.2.2.1 s.2.2.2.1 s.2.2.2.2.1 s.2.2.2.2.2) := by
  intro m k5 hm h5 a d pl h0 h1 h2 h3
  have hg : ∀ D, expr_read_imp_s3 k k5 l a names D 0 pl = gRight names l (ops 2) (expr_read_or_s3 k l a names D 0 pl) (fun a d b p => k5 (l, a, names, d, b, p)) := fun D => by
   unfold expr_read_imp_s3; rw [bind_eta]; rfl
  show Snd names l (line 2) d (l.drop a) pl (gLower names l a d 0 pl (fun D => expr_read_imp_s3 k k5 l a names D 0 pl))
  refine snd_lower rfl h0 h1 h2 (fun hd => ?_)
  show SndI names l 2 (d + 1) (l.drop a) pl (expr_read_imp_s3 k k5 l a names (d + 1) 0 pl)
  rw [hg]
  exact snd_right rfl hl h2 (gd_or hn hl hk a (d + 1) pl (by omega) (by omega) h2 (by omega)) (fun b hb1 hb2 => h5 b (d + 1) pl (by omega) (by omega) hb1 (by omega))
 intro a d pl h0 h1 h2 h3
 show Snd names l (line 2) d (l.drop a) pl (expr_read_deepImp_s3 k l a names d 0 pl)
 unfold expr_read_deepImp_s3
 rw [bind_eta]
 exact gd_fuel (n := n) hl hF a d pl h0 h1 h2 h3
theorem gk_F (hn : names.length < 4611686018427387904) (hl : l.length < 4611686018427387904) {k : PF} (hk : Gk names l 1 n k) : Gk names l 1 (n + 1) (fun s => expr_read_lower_s11_F k s.1 s.2.1 s.2.2.1 s.2.2.2.1 s.2.2.2.2.1 s.2.2.2.2.2) := by
 intro a d pl h0 h1 h2 h3
 have hg : ∀ D, expr_read_iff_s3 k l a names D 0 pl = gRight names l (ops 1) (expr_read_deepImp_s3 k l a names D 0 pl) (fun a d b p => k (l, a, names, d, b, p)) := fun D => by
  unfold expr_read_iff_s3; rw [bind_eta]; rfl
 show Snd names l (line 1) d (l.drop a) pl (gLower names l a d 0 pl (fun D => expr_read_iff_s3 k l a names D 0 pl))
 refine snd_lower rfl h0 h1 h2 (fun hd => ?_)
 show SndI names l 1 (d + 1) (l.drop a) pl (expr_read_iff_s3 k l a names (d + 1) 0 pl)
 rw [hg]
 exact snd_right rfl hl h2 (gd_s2 hn hl hk a (d + 1) pl (by omega) (by omega) h2 (by omega)) (fun b hb1 hb2 => hk b (d + 1) pl (by omega) (by omega) hb1 (by omega))
theorem lower_snd (hn : names.length < 4611686018427387904) (hl : l.length < 4611686018427387904) {a : Nat} {d pl : Int} (h0 : 0 ≤ d) (h1 : d ≤ 320) (he : Ends (l.drop a)) :
  Snd names l (line 1) d (l.drop a) pl (expr_read_lower_s11 l (a : Int) names d 0 pl) := by
 have := gd_fuel (names := names) (l := l) (n := l.length) (s := 1) (F := fun k s => expr_read_lower_s11_F k s.1 s.2.1 s.2.2.1 s.2.2.2.1 s.2.2.2.2.1 s.2.2.2.2.2) hl (fun m k _ hk => gk_F hn hl hk)
 exact this a d pl h0 h1 he (by have := len_le (l := l) a; omega)
def told (l : List Tok) : Out → Ex × Int × Int × Int
 | .ok p => (p.1, ((l.length - p.2.length : Nat) : Int), 0, 0)
 | .error e => (.mk 0 0 0 [], 0, e.1, e.2)
theorem Parse_eq (hn : names.length < 4611686018427387904) (hl : l.length < 4611686018427387904) {a : Nat} (he : Ends (l.drop a)) : ∃ r, P names (line 1) 0 (l.drop a) r ∧ expr_Parse_s3 l (a : Int) names = some (told l r) := by
 obtain ⟨r, hp, hr⟩ := lower_snd (pl := 0) hn hl (Int.le_refl 0) (by omega) he
 refine ⟨r, hp, ?_⟩
 unfold expr_Parse_s3
 cases r with
 | error e =>
  obtain ⟨x, k, hk, hm⟩ := hr
  rw [hm]
  simp only [bind_s, err_ne hp, cond_true]
  rfl
 | ok p =>
  obtain ⟨k, hk, hm⟩ := hr
  obtain ⟨e1, e2⟩ := hp.ends he _ rfl
  rw [hm]
  obtain ⟨t, r1, hts⟩ := e1.ne
  have hlt := (drop_cons (hk.trans hts)).2.2
  simp only [bind_s, show ((0 : Int) != 0) = false from rfl, cond_false, told]
  rw [← hk, List.length_drop, show l.length - (l.length - k) = k by omega]
end Pa
end Go.Proofs.YtdhgpnejphlfpaaDoor
namespace Go.Proofs.YtdhgpnejphlfpaaDoor
namespace Sy
open Pa
def Er {α : Type} (x : Except Err α) : Prop := ∀ e, x = .error e → e.1 ≠ 0
theorem Er.ok {α : Type} {a : α} : Er (.ok a : Except Err α) := fun e h => by cases h
theorem Er.lit {α : Type} {e : Err} (h : e.1 ≠ 0) : Er (.error e : Except Err α) := fun e' he => by cases he; exact h
theorem Er.bif {α : Type} {c : Bool} {a b : Except Err α} (ha : c = true → Er a) (hb : c = false → Er b) : Er (bif c then a else b) := by cases c; exact hb rfl; exact ha rfl
theorem Er.of {α : Type} {x : Except Err α} (h : Er x) {e : Err} (he : x = .error e) {β : Type} : Er (.error e : Except Err β) := .lit (h e he)
end Sy
end Go.Proofs.YtdhgpnejphlfpaaDoor
namespace Go.Proofs.YtdhgpnejphlfpaaDoor
theorem type_loop (k : Ex → Option (Int × Int × Int)) (e : Ex) (hk : ∀ x ∈ e.l, k x = some (ty x)) (hl : e.l.length < 4611686018427387904) :
  ∀ (r pre : List Ex), e.l = pre ++ r → ∀ (M : Nat) (i b t : Bool), r.length < M → fixN (expr_Type_L1 k e) M (i, b, t, (pre.length : Int)) = some (tyA e.op e.at_ r i b t)
 | [], pre, h, M, i, b, t, hM => by
  obtain ⟨m, rfl⟩ : ∃ m, M = m + 1 := ⟨M - 1, by simp at hM; omega⟩
  rw [fixN_succ]
  simp only [expr_Type_L1, lt_f h, cond_false, letv_e, expr_Type_K2, tyA, tyFin]
  generalize decide (e.op ≤ 6) = c1
  generalize decide (6 < e.op) = c2
  generalize decide (e.op ≤ 12) = c3
  generalize (e.op == 13) = c4
  generalize (e.op == 14) = c5
  generalize decide (15 ≤ e.op) = c6
  generalize decide (e.op ≤ 19) = c7
  cases c1 <;> cases i <;> cases c2 <;> cases c3 <;> cases c4 <;> cases c5 <;> cases c6 <;> cases c7 <;> cases b <;> cases t <;> rfl
 | x :: r, pre, h, M, i, b, t, hM => by
  obtain ⟨m, rfl⟩ : ∃ m, M = m + 1 := ⟨M - 1, by omega⟩
  rw [fixN_succ]
  have hx : k x = some (ty x) := hk x (by rw [h]; simp)
  have hlen : pre.length < 4611686018427387904 := by rw [h] at hl; simp at hl; omega
  have ih := type_loop k e hk hl r (pre ++ [x]) (by rw [h]; simp) m (i && (ty x).1 == 1) (b && (ty x).1 == 2) (t && (ty x).1 != 1) (by simp at hM; omega)
  rw [show ((pre ++ [x]).length : Int) = ((pre.length + 1 : Nat) : Int) by simp] at ih
  simp only [expr_Type_L1, lt_t h, cond_true, idx_mid h, bind_s, hx, letv_e, next_ix hlen, tyA]
  cases (ty x).2.1 != 0
  ·exact ih
  ·rfl
theorem type_some : ∀ (N : Nat) (e : Ex), e.sz ≤ N → e.sz < 4611686018427387904 → fixN (fun k s => expr_Type_F k s) N e = some (ty e) := by
 intro N
 induction N with
 | zero => intro e h; have := sz_pos e; omega
 | succ N ih =>
  intro e h hb
  rw [fixN_succ]
  show fixN (expr_Type_L1 _ e) FUEL (true, true, true, 0) = _
  have hl := len_lt e
  have := type_loop (fixN (fun k s => expr_Type_F k s) N) e (fun x hx => ih x (by have := sz_lt hx; omega) (by have := sz_lt hx; omega)) (by omega) e.l [] rfl FUEL true true true (by show e.l.length < 2 ^ 64; omega)
  rw [ty_eq]
  exact this
theorem Type_eq (e : Ex) (h : e.sz < 4611686018427387904) : expr_Type e = some (ty e) := type_some FUEL e (by show e.sz ≤ 2 ^ 64; omega) h
end Go.Proofs.YtdhgpnejphlfpaaDoor
namespace Go.Proofs.YtdhgpnejphlfpaaDoor
namespace Mo
open Pa Sy
theorem bindE_e {E A B : Type} (e : E) (k : A → Option (Except E B)) : bindE (some (.error e)) k = some (.error e) := rfl
theorem bindE_o {E A B : Type} (x : A) (k : A → Option (Except E B)) : bindE (some (.ok x) : Option (Except E A)) k = k x := rfl
def Rd {α β : Type} (l : List Tok) (s : Except Err (α × List Tok)) (f : α → Int → β) (m : Option (Except Err β)) : Prop := match s with
 | .error e => m = some (.error e)
 | .ok p => ∃ k : Nat, m = some (.ok (f p.1 (k : Int))) ∧ l.drop k = p.2
def RdS (l : List Tok) (s : Except Err (List Tok)) (m : Option (Except Err Int)) : Prop := match s with
 | .error e => m = some (.error e)
 | .ok r => ∃ k : Nat, m = some (.ok (k : Int)) ∧ l.drop k = r
theorem drop_lt {l a b : List Tok} {i k : Nat} (hi : l.drop i = a) (hk : l.drop k = b) (h : b.length < a.length) : i < k := by
 subst hi; subst hk
 simp only [List.length_drop] at h
 omega
section
variable {l : List Tok} {k : Nat} {t : Tok} {r : List Tok} (N : List Str) (S_ : List (Int × Int)) (I : List Int) (Q : List Str) (C : List Cmd)
theorem next_m (h : l.drop k = t :: r) : model_read_next l (k : Int) N S_ I Q C = some t := by
 unfold model_read_next
 rw [(drop_at h).1]; rfl
theorem is_m (h : l.drop k = t :: r) (kd : Int) (x : Str) : model_read_is kd x l (k : Int) N S_ I Q C = some (isT kd x t) := by
 unfold model_read_is
 rw [next_m N S_ I Q C h, bind_s, letv_e]
 unfold isT
 cases (t.1 == kd)
 ·rfl
 ·rw [callG_tt, bind_s]; rfl
theorem stop_m (h : l.drop k = t :: r) (e : Int) : model_read_stop e l (k : Int) N S_ I Q C = some (.error (e, t.2.2.2)) := by
 unfold model_read_stop
 rw [next_m N S_ I Q C h]; rfl
theorem at_none {names : List Str} {v : Str} : at_ names v = none ↔ names.contains v = false := by
 unfold at_
 rw [List.findIdx?_eq_none_iff]
 constructor
 ·intro h
  cases hc : names.contains v
  ·rfl
  ·have := h v (by simpa using hc)
   simp at this
 ·intro h x hx
  rw [Bool.eq_false_iff]
  intro e
  have : v = x := by simpa using e
  subst this
  have h2 : names.contains v = true := by simpa using hx
  rw [h] at h2; cases h2
theorem contains_m {names : List Str} (hn : names.length < 4611686018427387904) (v : Str) : slices_Contains_string_string_s2 names v = some (names.contains v) := by
 unfold slices_Contains_string_string_s2
 rw [index_eq hn, bind_s]
 cases ha : at_ names v with
 | none => rw [at_none.1 ha]; rfl
 | some i =>
  have : names.contains v = true := by
   cases hc : names.contains v
   ·rw [at_none.2 hc] at ha; cases ha
   ·rfl
  rw [this]
  simp
theorem given_m (hN : N.length < 4611686018427387904) (hQ : Q.length < 4611686018427387904) (v : Str) : model_read_given v l (k : Int) N S_ I Q C = some (N.contains v || Q.contains v) := by
 unfold model_read_given
 rw [contains_m hN, bind_s, contains_m hQ]
 cases N.contains v <;> rfl
theorem name_m (he : Pa.Ends (l.drop k)) (hk : l.length < 4611686018427387904) (hN : N.length < 4611686018427387904) (hQ : Q.length < 4611686018427387904) (full : Bool) :
  Rd l (sName full N Q (l.drop k)) (fun x k => (x, k)) (model_read_name full l (k : Int) N S_ I Q C) := by
 obtain ⟨t, r, ht⟩ := he.ne
 have hd := drop_at ht
 unfold model_read_name
 rw [next_m N S_ I Q C ht, bind_s, ht]
 simp only [sName]
 cases h1 : (t.1 != 1)
 ·simp only [cond_false]
  rw [Key_eq, bind_s, given_m N S_ I Q C hN hQ]
  unfold Pa.key
  cases h2 : keysT.contains t.2.1
  ·simp only [Bool.not_false, callG_tt, bind_s, letv_e, Bool.false_or]
   cases h3 : (N.contains t.2.1 || Q.contains t.2.1)
   ·simp only [cond_false]
    cases full
    ·exact ⟨k + 1, by simp only [cond_false, model_read_name_K1, wrap1 (show k < 4611686018427387904 by omega)], hd.2.1⟩
    ·simp only [cond_true, stop_m N S_ I Q C ht, bindE_e]; rfl
   ·simp only [cond_true, stop_m N S_ I Q C ht, bindE_e]; rfl
  ·simp only [Bool.not_true, callG_ff, letv_e, Bool.true_or, cond_true, stop_m N S_ I Q C ht, bindE_e]; rfl
 ·simp only [cond_true, stop_m N S_ I Q C ht, bindE_e]; rfl
theorem sign_m (he : Pa.Ends (l.drop k)) (hk : l.length < 4611686018427387904) (x : Str) : RdS l (sSign x (l.drop k)) (model_read_sign x l (k : Int) N S_ I Q C) := by
 obtain ⟨t, r, ht⟩ := he.ne
 have hd := drop_at ht
 unfold model_read_sign
 rw [is_m N S_ I Q C ht, bind_s, ht]
 simp only [sSign]
 cases h1 : isT 3 x t
 ·simp only [Bool.not_false, cond_true, cond_false, stop_m N S_ I Q C ht, bindE_e]; rfl
 ·exact ⟨k + 1, by simp only [Bool.not_true, cond_false, model_read_sign_K1, wrap1 (show k < 4611686018427387904 by omega)], hd.2.1⟩
theorem number1_m (he : Pa.Ends (l.drop k)) (hk : l.length < 4611686018427387904) (neg : Bool) : Rd l (sNum1 neg (l.drop k)) (fun x k => (x, k)) (model_read_number_K1 l N S_ I Q C neg (k : Int)) := by
 obtain ⟨t, r, ht⟩ := he.ne
 have hd := drop_at ht
 unfold model_read_number_K1
 rw [next_m N S_ I Q C ht, bind_s, ht]
 simp only [sNum1]
 cases h1 : (t.1 != 2)
 ·refine ⟨k + 1, ?_, hd.2.1⟩
  simp only [cond_false, model_read_number_K2, wrap1 (show k < 4611686018427387904 by omega)]
  cases neg <;> rfl
 ·simp only [cond_true, stop_m N S_ I Q C ht, bindE_e]; rfl
theorem number_m (he : Pa.Ends (l.drop k)) (hk : l.length < 4611686018427387904) : Rd l (sNum (l.drop k)) (fun x k => (x, k)) (model_read_number l (k : Int) N S_ I Q C) := by
 obtain ⟨t, r, ht⟩ := he.ne
 have hd := drop_at ht
 unfold model_read_number sNum
 rw [is_m N S_ I Q C ht, bind_s]
 have hh : isH 3 [45] (l.drop k) = isT 3 [45] t := by rw [ht]; rfl
 rw [hh]
 cases h1 : isT 3 [45] t
 ·exact number1_m N S_ I Q C he hk false
 ·simp only [cond_true, wrap1 (show k < 4611686018427387904 by omega)]
  have e1 : (l.drop k).tail = l.drop (k + 1) := by rw [ht, hd.2.1]; rfl
  rw [e1]
  refine number1_m (k := k + 1) N S_ I Q C ?_ hk true
  rw [hd.2.1]
  rw [ht] at he
  exact he.tail (isT_ne h1 (by decide))
end
end Mo
end Go.Proofs.YtdhgpnejphlfpaaDoor
namespace Go.Proofs.YtdhgpnejphlfpaaDoor
namespace Mo
open Pa Sy
theorem type_s2 (e : Ex) : expr_Type_s2 e = expr_Type_F expr_Type e := rfl
theorem Type_s2_eq (e : Ex) (h : e.sz < 4611686018427387904) : expr_Type_s2 e = some (rt e) := by
 rw [type_s2, ← types_same e.sz e (Nat.le_refl _)]
 have hl := len_lt e
 show fixN (expr_Type_L1 _ e) FUEL (true, true, true, 0) = _
 have := type_loop expr_Type e (fun x hx => Type_eq x (by have := sz_lt hx; omega)) (by omega) e.l [] rfl FUEL true true true (by show e.l.length < 2 ^ 64; omega)
 rw [ty_eq]
 exact this
section
variable {l : List Tok} {k : Nat} (N : List Str) (S_ : List (Int × Int)) (I : List Int) (Q : List Str) (C : List Cmd)
theorem expression_m (he : Pa.Ends (l.drop k)) (hk : l.length < 1099511627776) (hN : N.length < 4611686018427387904) (want : Int) :
  Rd l (sExpr want N (l.drop k)) (fun x k => (x, k)) (model_read_expression want l (k : Int) N S_ I Q C) := by
 obtain ⟨r, hP, hm⟩ := Pa.Parse_eq (names := N) (l := l) hN (by omega) he
 unfold model_read_expression sExpr
 rw [hm, bind_s, readE_eq hP]
 cases r with
 | error e =>
  have h0 : (e.1 != 0) = true := by
   rcases hP.err e rfl with h | h | h <;> rw [h] <;> rfl
  simp only [told, h0, cond_true]
  rfl
 | ok p =>
  have hsz := hP.size p rfl
  have hsuf := hP.suf p rfl
  have hjz : szJ (Job.line 1) = 0 := rfl
  rw [hjz] at hsz
  have hdl : (l.drop k).length ≤ l.length := by simp
  simp only [told, show ((0 : Int) != 0) = false from rfl, cond_false, model_read_expression_K1]
  rw [Type_s2_eq p.1 (by omega), bind_s]
  cases h1 : ((rt p.1).2.1 != 0)
  ·simp only [cond_false, model_read_expression_K2]
   cases h2 : ((rt p.1).1 != want)
   ·simp only [cond_false, model_read_expression_K3]
    refine ⟨l.length - p.2.length, rfl, ?_⟩
    obtain ⟨pre, hpre⟩ := hsuf.trans (List.drop_suffix k l)
    have hlen : l.length = pre.length + p.2.length := by rw [← hpre, List.length_append]
    rw [show l.length - p.2.length = pre.length by omega, ← hpre, List.drop_left]
   ·rfl
  ·rfl
theorem index_idx {names : List Str} (hn : names.length < 4611686018427387904) (v : Str) : slices_Index_string_string_s2 names v = some (idxI names v) := by
 refine (index_eq hn v).trans ?_
 unfold idxI
 cases at_ names v <;> rfl
/-! assignments -/
theorem any_loop (s : List (Int × Ex)) (c : Int) (hs : s.length < 4611686018427387904) : ∀ (r pre : List (Int × Ex)), s = pre ++ r → ∀ M, r.length < M →
  ∃ z, fixN (slices_IndexFunc_api_Set_api_Set_s2_L1 s c) M (pre.length : Int) = some z ∧ decide (0 ≤ z) = r.any (fun x => x.1 == c)
 | [], pre, h, M, hM => by
  obtain ⟨m, rfl⟩ : ∃ m, M = m + 1 := ⟨M - 1, by simp at hM; omega⟩
  rw [fixN_succ]
  simp only [slices_IndexFunc_api_Set_api_Set_s2_L1, Sy.len_f h, cond_false]
  exact ⟨_, rfl, rfl⟩
 | x :: r, pre, h, M, hM => by
  obtain ⟨m, rfl⟩ : ∃ m, M = m + 1 := ⟨M - 1, by omega⟩
  rw [fixN_succ]
  have hlen : pre.length + r.length + 1 = s.length := by rw [h]; simp; omega
  obtain ⟨z, hz, hd⟩ := any_loop s c hs r (pre ++ [x]) (by rw [h]; simp) m (by simp at hM; omega)
  rw [show ((pre ++ [x]).length : Int) = ((pre.length + 1 : Nat) : Int) by simp] at hz
  simp only [slices_IndexFunc_api_Set_api_Set_s2_L1, Sy.len_t h, cond_true, Sy.mid h, bind_s, model_read_assignment_c1, Pa.wrap1 (show pre.length < 4611686018427387904 by omega), List.any_cons]
  cases hv : (x.1 == c)
  ·simp only [cond_false, Bool.false_or]
   exact ⟨z, hz, hd⟩
  ·simp only [cond_true, Bool.true_or]
   exact ⟨_, rfl, by simp⟩
theorem twice_m {s : List (Int × Ex)} (hs : s.length < 4611686018427387904) (c : Int) : slices_ContainsFunc_api_Set_api_Set_s2 s c = some (twice s c) := by
 obtain ⟨z, hz, hd⟩ := any_loop s c hs s [] rfl FUEL (by show _ < 2 ^ 64; omega)
 unfold slices_ContainsFunc_api_Set_api_Set_s2 slices_IndexFunc_api_Set_api_Set_s2
 rw [show fixN (slices_IndexFunc_api_Set_api_Set_s2_L1 s c) FUEL 0 = some z from hz, bind_s, hd]
 rfl
noncomputable def sOne (names : List Str) (acc : List (Int × Ex)) (ts : List Tok) : Except Err ((Int × Ex) × List Tok) := match ts with
 | [] => .error (2, 0)
 | t :: r => bif t.1 != 1 then .error (2, t.2.2.2) else bif decide (idxI names t.2.1 < 0) || twice acc (idxI names t.2.1) then .error (3, t.2.2.2) else
  match sSign [61] r with
  | .error e => .error e
  | .ok r1 => match sExpr 1 names r1 with
   | .error e => .error e
   | .ok (x, r2) => .ok ((idxI names t.2.1, x), r2)
theorem sSets_one (names : List Str) (f : Nat) (acc : List (Int × Ex)) (ts : List Tok) : sSets names (f + 1) acc ts = match sOne names acc ts with
  | .error e => .error e
  | .ok (s, r2) => bif isH 3 [44] r2 then sSets names f (acc ++ [s]) r2.tail else .ok (acc ++ [s], r2) := by
 cases ts with
 | nil => rfl
 | cons t r =>
  simp only [sSets, sOne]
  cases (t.1 != 1)
  ·simp only [cond_false]
   cases (decide (idxI names t.2.1 < 0) || twice acc (idxI names t.2.1))
   ·simp only [cond_false]
    cases sSign [61] r with
    | error e => rfl
    | ok r1 =>
     simp only
     cases sExpr 1 names r1 with
     | error e => rfl
     | ok p => rfl
   ·rfl
  ·rfl
theorem sOne_ok {names : List Str} {acc : List (Int × Ex)} {ts : List Tok} {p : (Int × Ex) × List Tok} (he : Pa.Ends ts) (h : sOne names acc ts = .ok p) : Shorter ts p.2 := by
 obtain ⟨t, r, rfl⟩ := he.ne
 simp only [sOne] at h
 cases h1 : (t.1 != 1)
 ·rw [h1] at h
  simp only [cond_false] at h
  have hr : Pa.Ends r := he.tail (by simp at h1; omega)
  cases h2 : (decide (idxI names t.2.1 < 0) || twice acc (idxI names t.2.1))
  ·rw [h2] at h
   simp only [cond_false] at h
   cases h3 : sSign [61] r with
   | error e => rw [h3] at h; cases h
   | ok r1 =>
    rw [h3] at h
    simp only at h
    have k1 := sSign_ok hr h3
    cases h4 : sExpr 1 names r1 with
    | error e => rw [h4] at h; cases h
    | ok q =>
     rw [h4] at h
     cases h
     have k2 := (sExpr_ok k1.1 h4).1
     exact ⟨k2.1, by have := k1.2; have := k2.2; simp only [List.length_cons] at *; omega⟩
  ·rw [h2] at h; cases h
 ·rw [h1] at h; cases h
theorem assignment_m (he : Pa.Ends (l.drop k)) (hk : l.length < 1099511627776) (hN : N.length < 1099511627776) {acc : List (Int × Ex)} (ha : acc.length < 1099511627776) :
  Rd l (sOne N acc (l.drop k)) (fun x k => (x, k)) (model_read_assignment_s2 acc l (k : Int) N S_ I Q C) := by
 obtain ⟨t, r, ht⟩ := he.ne
 have hd := drop_at ht
 unfold model_read_assignment_s2
 rw [next_m N S_ I Q C ht, bind_s]
 have hr : t.1 ≠ 4 → Pa.Ends (l.drop (k + 1)) := fun h => by
  rw [hd.2.1]
  rw [ht] at he
  exact he.tail h
 rw [ht]
 simp only [sOne]
 cases h1 : (t.1 != 1)
 ·simp only [cond_false, model_read_assignment_s2_K1]
  have h14 : t.1 = 1 := by simpa using h1
  rw [index_idx (by omega), bind_s, twice_m (by omega)]
  have hg : (callG (!decide (idxI N t.2.1 < 0)) default (some (twice acc (idxI N t.2.1))) fun r44 => letv (decide (idxI N t.2.1 < 0) || r44) fun b50 => bif b50 then bindE (model_read_stop 3 l (k : Int) N S_ I Q C) fun r53 => r53.elim else model_read_assignment_s2_K2 l (k : Int) N S_ I Q C (idxI N t.2.1)) =
    bif (decide (idxI N t.2.1 < 0) || twice acc (idxI N t.2.1)) then bindE (model_read_stop 3 l (k : Int) N S_ I Q C) fun r53 => r53.elim else model_read_assignment_s2_K2 l (k : Int) N S_ I Q C (idxI N t.2.1) := by
   cases decide (idxI N t.2.1 < 0) <;> rfl
  rw [letv_e, hg]
  cases h2 : (decide (idxI N t.2.1 < 0) || twice acc (idxI N t.2.1))
  ·simp only [cond_false, model_read_assignment_s2_K2, wrap1 (show k < 4611686018427387904 by omega)]
   have hs := sign_m N S_ I Q C (l := l) (k := k + 1) (hr (by omega)) (by omega) [61]
   rw [hd.2.1] at hs
   cases h3 : sSign [61] r with
   | error e =>
    rw [h3] at hs
    rw [show model_read_sign [61] l ((k + 1 : Nat) : Int) N S_ I Q C = some (.error e) from hs]
    rfl
   | ok r1 =>
    rw [h3] at hs
    obtain ⟨k1, hm1, hd1⟩ := hs
    have hr1 := (sSign_ok (by rw [← hd.2.1]; exact hr (by omega)) h3).1
    rw [hm1, bindE_o]
    have hx := expression_m N S_ I Q C (l := l) (k := k1) (by rw [hd1]; exact hr1) hk (by omega) 1
    rw [hd1] at hx
    simp only
    cases h4 : sExpr 1 N r1 with
    | error e =>
     rw [h4] at hx
     rw [show model_read_expression 1 l (k1 : Int) N S_ I Q C = some (.error e) from hx]
     rfl
    | ok p =>
     rw [h4] at hx
     obtain ⟨k2, hm2, hd2⟩ := hx
     rw [hm2, bindE_o]
     exact ⟨k2, rfl, hd2⟩
  ·simp only [cond_true, stop_m N S_ I Q C ht, bindE_e]; rfl
 ·simp only [cond_true, stop_m N S_ I Q C ht, bindE_e]; rfl
end
end Mo
end Go.Proofs.YtdhgpnejphlfpaaDoor
namespace Go.Proofs.YtdhgpnejphlfpaaDoor
namespace Mo
open Pa Sy
noncomputable def sTail (N : List Str) (f : Nat) (acc : List (Int × Ex)) (ts : List Tok) : Except Err (List (Int × Ex) × List Tok) := match sSets N f acc ts with
 | .error e => .error e
 | .ok p => match sSign [59] p.2 with
  | .error e => .error e
  | .ok r => .ok (p.1, r)
theorem sTail_e {N : List Str} {f : Nat} {acc : List (Int × Ex)} {ts : List Tok} {e : Err} (h : sOne N acc ts = .error e) : sTail N (f + 1) acc ts = .error e := by
 unfold sTail
 rw [sSets_one, h]
theorem sTail_more {N : List Str} {f : Nat} {acc : List (Int × Ex)} {ts : List Tok} {p : (Int × Ex) × List Tok} (h : sOne N acc ts = .ok p) (hh : isH 3 [44] p.2 = true) : sTail N (f + 1) acc ts = sTail N f (acc ++ [p.1]) p.2.tail := by
 unfold sTail
 rw [sSets_one, h]
 simp only [hh, cond_true]
theorem sTail_last {N : List Str} {f : Nat} {acc : List (Int × Ex)} {ts : List Tok} {p : (Int × Ex) × List Tok} (h : sOne N acc ts = .ok p) (hh : isH 3 [44] p.2 = false) : sTail N (f + 1) acc ts = match sSign [59] p.2 with
  | .error e => .error e
  | .ok r => .ok (acc ++ [p.1], r) := by
 unfold sTail
 rw [sSets_one, h]
 simp only [hh, cond_false]
theorem isT_59 {t : Tok} (h : isT 3 [59] t = true) : isT 3 [44] t = false := by
 unfold isT at *
 simp only [Bool.and_eq_true, beq_iff_eq] at h
 rw [h.2, Bool.and_eq_false_iff]
 exact .inr (by decide)
section
variable {l : List Tok} (N : List Str) (S_ : List (Int × Int)) (I : List Int) (Q : List Str) (C : List Cmd)
theorem sets_m (hk : l.length < 1099511627776) (hN : N.length < 1099511627776) (hC : C.length < 1000000) (g : Ex × Int) : ∀ (f : Nat) (acc : List (Int × Ex)) (k M : Nat), Pa.Ends (l.drop k) → (l.drop k).length < f → (l.drop k).length < M → acc.length ≤ k → k ≤ l.length →
  Rd l (sTail N f acc (l.drop k)) (fun sets k' => (k', C ++ [(IntKind.i64.wrap ((Q.length : Int) - 1), g.1, sets)])) (fixN (model_read_command_L2 l N S_ I Q C g) M ((k : Int), acc))
 | 0, acc, k, M, he, hf, hM, ha, hkl => by omega
 | f + 1, acc, k, 0, he, hf, hM, ha, hkl => by omega
 | f + 1, acc, k, M + 1, he, hf, hM, ha, hkl => by
  rw [fixN_succ]
  simp only [model_read_command_L2]
  have h1 := assignment_m N S_ I Q C (l := l) (k := k) he hk hN (acc := acc) (by omega)
  cases ho : sOne N acc (l.drop k) with
  | error e =>
   rw [ho] at h1
   rw [sTail_e ho, show model_read_assignment_s2 acc l (k : Int) N S_ I Q C = some (.error e) from h1]
   rfl
  | ok p =>
   rw [ho] at h1
   obtain ⟨k1, hm1, hd1⟩ := h1
   have hsh := sOne_ok he ho
   obtain ⟨t2, r2, ht2⟩ := hsh.1.ne
   have hd2 : l.drop k1 = t2 :: r2 := by rw [hd1, ht2]
   have hlt := (drop_at hd2).2.2.1
   have hkk : k < k1 := drop_lt rfl hd1 hsh.2
   rw [hm1, bindE_o]
   simp only
   rw [Sy.chk_t (Sy.room_ok (by simp; omega) (by simp; omega)), is_m N S_ I Q C hd2, bind_s]
   cases h59 : isT 3 [59] t2
   ·simp only [cond_false]
    have hs := sign_m N S_ I Q C (l := l) (k := k1) (by rw [hd1]; exact hsh.1) (by omega) [44]
    rw [hd2] at hs
    cases h44 : isT 3 [44] t2
    ·have e1 : sSign [44] (t2 :: r2) = .error (2, t2.2.2.2) := by simp only [sSign, h44, cond_false]
     have e2 : sSign [59] (t2 :: r2) = .error (2, t2.2.2.2) := by simp only [sSign, h59, cond_false]
     rw [e1] at hs
     rw [sTail_last ho (by rw [ht2]; exact h44), ht2, e2, show model_read_sign [44] l (k1 : Int) N S_ I Q C = some (.error (2, t2.2.2.2)) from hs]
     rfl
    ·have e1 : sSign [44] (t2 :: r2) = .ok r2 := by simp only [sSign, h44, cond_true]
     rw [e1] at hs
     obtain ⟨k2, hm2, hd3⟩ := hs
     have hr2 : Pa.Ends r2 := by
      have := hsh.1
      rw [ht2] at this
      exact this.tail (isT_ne h44 (by decide))
     have hk2 : k1 < k2 := drop_lt hd2 hd3 (by simp)
     have hlen2 : (l.drop k2).length < (l.drop k).length := by
      rw [hd3]
      have := hsh.2
      rw [ht2] at this
      simp only [List.length_cons] at this
      omega
     have hk2l : k2 ≤ l.length := by
      obtain ⟨t3, r3, ht3⟩ := hr2.ne
      have := (drop_at (hd3.trans ht3)).2.2.1
      omega
     rw [hm2, bindE_o, sTail_more ho (by rw [ht2]; exact h44), ht2]
     have := sets_m hk hN hC g f (acc ++ [p.1]) k2 M (by rw [hd3]; exact hr2) (by omega) (by omega) (by simp; omega) hk2l
     rw [hd3] at this
     exact this
   ·simp only [cond_true]
    have e2 : sSign [59] (t2 :: r2) = .ok r2 := by simp only [sSign, h59, cond_true]
    rw [Sy.chk_t (Sy.room_ok (by simp; omega) (by simp; omega)), sTail_last ho (by rw [ht2]; exact isT_59 h59), ht2, e2]
    exact ⟨k1 + 1, by rw [wrap1 (show k1 < 4611686018427387904 by omega)], (drop_at hd2).2.1⟩
variable {k : Nat}
theorem command_m (he : Pa.Ends (l.drop k)) (hk : l.length < 1099511627776) (hN : N.length < 1099511627776) (_hkl : k ≤ l.length) :
  Rd l (sCmd (N, S_, I, Q, C) (l.drop k)) (fun m' k' => (k', m'.2.2.2.2)) (model_read_command l (k : Int) N S_ I Q C) := by
 obtain ⟨t, r, ht⟩ := he.ne
 unfold model_read_command sCmd
 cases h256 : decide (256 ≤ (List.length C : Int))
 ·have hC : C.length < 256 := by have := of_decide_eq_false h256; omega
  simp only [cond_false, model_read_command_K1]
  have hx := expression_m N S_ I Q C (l := l) (k := k) he hk (by omega) 2
  cases h1 : sExpr 2 N (l.drop k) with
  | error e =>
   rw [h1] at hx
   rw [show model_read_expression 2 l (k : Int) N S_ I Q C = some (.error e) from hx]
   rfl
  | ok p =>
   rw [h1] at hx
   obtain ⟨k1, hm1, hd1⟩ := hx
   have he1 := (sExpr_ok he h1).1
   have hk1 : k < k1 := drop_lt rfl hd1 he1.2
   rw [hm1, bindE_o]
   have hs := sign_m N S_ I Q C (l := l) (k := k1) (by rw [hd1]; exact he1.1) (by omega) [58]
   rw [hd1] at hs
   simp only
   cases h2 : sSign [58] p.2 with
   | error e =>
    rw [h2] at hs
    rw [show model_read_sign [58] l (k1 : Int) N S_ I Q C = some (.error e) from hs]
    rfl
   | ok r2 =>
    rw [h2] at hs
    obtain ⟨k2, hm2, hd2⟩ := hs
    have he2 := sSign_ok he1.1 h2
    have hk2 : k1 < k2 := drop_lt hd1 hd2 he2.2
    rw [hm2, bindE_o]
    have hk2l : k2 ≤ l.length := by
     obtain ⟨t3, r3, ht3⟩ := he2.1.ne
     have := (drop_at (hd2.trans ht3)).2.2.1
     omega
    have hdl : (l.drop k2).length ≤ l.length := by simp
    have hl := sets_m (l := l) N S_ I Q C hk hN (by omega) (p.1, (k1 : Int)) (r2.length + 1) [] k2 FUEL (by rw [hd2]; exact he2.1) (by rw [hd2]; omega) (by show _ < 2 ^ 64; omega) (by simp) hk2l
    rw [hd2] at hl
    unfold sTail at hl
    simp only
    cases h3 : sSets N (r2.length + 1) [] r2 with
    | error e => rw [h3] at hl; exact hl
    | ok q =>
     rw [h3] at hl
     simp only at hl ⊢
     cases h4 : sSign [59] q.2 with
     | error e => rw [h4] at hl; exact hl
     | ok r4 =>
      rw [h4] at hl
      obtain ⟨k4, hm4, hd4⟩ := hl
      exact ⟨k4, hm4, hd4⟩
 ·simp only [cond_true, stop_m N S_ I Q C ht, bindE_e]
  rw [ht]
  rfl
end
end Mo
end Go.Proofs.YtdhgpnejphlfpaaDoor
namespace Go.Proofs.YtdhgpnejphlfpaaDoor
namespace Mo
open Pa Sy
theorem fuel2 : ∃ m, FUEL = m + 2 := ⟨18446744073709551614, rfl⟩
theorem right_m (lo hi : Int) : schema_Right_s2 [(lo, hi)] = some (rightB lo hi) := by
 obtain ⟨m, hm⟩ := fuel2
 unfold schema_Right_s2 schema_each_bool_s2 slices_Contains_bool_bool slices_Index_bool_bool
 rw [hm]
 have h1 : (decide ((1 : Int) ≤ (List.length ([(lo, hi)] : List (Int × Int)) : Int)) && decide ((List.length ([(lo, hi)] : List (Int × Int)) : Int) ≤ 17)) = true := rfl
 simp only [letv_e]
 rw [h1, callG_tt, Sy.chk_t (by rfl), Sy.chk_t (by rfl)]
 have h2 : fixN (schema_each_bool_s2_L1 [(lo, hi)]) (m + 2) (List.replicate (Int.toNat (List.length ([(lo, hi)] : List (Int × Int)) : Int)) false, 0) = some [rightB lo hi] := by
  rw [fixN_succ]
  have hb : schema_span_may (lo, hi) = some (rightB lo hi) := by
   unfold schema_span_may rightB
   simp only [letv_e]
   congr 1
   by_cases a1 : lo < -1073741824 <;> by_cases a2 : 1073741824 < hi <;> by_cases a3 : hi < lo <;> by_cases a4 : 65535 < IntKind.i64.wrap (hi - lo) <;>
    simp [a1, a2, a3, a4] <;> omega
  simp only [schema_each_bool_s2_L1]
  rw [show decide ((0 : Int) < (List.length ([(lo, hi)] : List (Int × Int)) : Int)) = true from rfl, cond_true, show idx ([(lo, hi)] : List (Int × Int)) 0 = some (lo, hi) from rfl, bind_s, hb, bind_s]
  rw [show idx (List.replicate (Int.toNat (List.length ([(lo, hi)] : List (Int × Int)) : Int)) false) 0 = some false from rfl, bind_s]
  rw [show IntKind.i64.wrap (0 + 1) = (1 : Int) from rfl, fixN_succ]
  simp only [schema_each_bool_s2_L1]
  rw [show decide ((1 : Int) < (List.length ([(lo, hi)] : List (Int × Int)) : Int)) = false from rfl, cond_false]
  rfl
 rw [h2, bind_s, callG_tt]
 have h3 : fixN (slices_Index_bool_bool_L1 [rightB lo hi] false) (m + 2) 0 = some (bif rightB lo hi then -1 else 0) := by
  rw [fixN_succ]
  simp only [slices_Index_bool_bool_L1]
  rw [show decide ((0 : Int) < (List.length ([rightB lo hi] : List Bool) : Int)) = true from rfl, cond_true, show idx ([rightB lo hi] : List Bool) 0 = some (rightB lo hi) from rfl, bind_s]
  rw [show IntKind.i64.wrap (0 + 1) = (1 : Int) from rfl, fixN_succ]
  simp only [slices_Index_bool_bool_L1]
  rw [show decide ((1 : Int) < (List.length ([rightB lo hi] : List Bool) : Int)) = false from rfl, cond_false]
  cases rightB lo hi <;> rfl
 rw [h3, bind_s, bind_s]
 cases rightB lo hi <;> rfl
theorem in_m (lo hi v : Int) : schema_In_s2 [(lo, hi)] [v] = some (bif decide (lo ≤ v) && decide (v ≤ hi) then 0 else 5) := by
 obtain ⟨m, hm⟩ := fuel2
 unfold schema_In_s2
 rw [hm, show ((List.length ([v] : List Int) : Int) != (List.length ([(lo, hi)] : List (Int × Int)) : Int)) = false from rfl, cond_false, fixN_succ]
 simp only [schema_In_s2_L1]
 rw [show decide ((0 : Int) < (List.length ([v] : List Int) : Int)) = true from rfl, cond_true, show idx ([v] : List Int) 0 = some v from rfl, bind_s, show idx ([(lo, hi)] : List (Int × Int)) 0 = some (lo, hi) from rfl, bind_s]
 rw [show schema_span_has (lo, hi) v = some (decide (lo ≤ v) && decide (v ≤ hi)) from rfl, bind_s, show IntKind.i64.wrap (0 + 1) = (1 : Int) from rfl, fixN_succ]
 simp only [schema_In_s2_L1]
 rw [show decide ((1 : Int) < (List.length ([v] : List Int) : Int)) = false from rfl, cond_false]
 cases (decide (lo ≤ v) && decide (v ≤ hi)) <;> rfl
theorem dec_not (a b : Int) : decide (a < b) = !decide (b ≤ a) := by
 by_cases h : a < b
 ·rw [decide_eq_true h, decide_eq_false (by omega)]; rfl
 ·rw [decide_eq_false h, decide_eq_true (by omega)]; rfl
section
variable {l : List Tok} {k : Nat} (N : List Str) (S_ : List (Int × Int)) (I : List Int) (Q : List Str) (C : List Cmd)
theorem variable_m (he : Pa.Ends (l.drop k)) (hk : l.length < 1099511627776) (hN : N.length ≤ l.length) (hS : S_.length ≤ l.length) (hI : I.length ≤ l.length) (hQ : Q.length ≤ l.length) :
  Rd l (sVar (N, S_, I, Q, C) (l.drop k)) (fun m' k' => (k', m'.1, m'.2.1, m'.2.2.1)) (model_read_variable l (k : Int) N S_ I Q C) := by
 unfold model_read_variable sVar
 have h1 := name_m N S_ I Q C (l := l) (k := k) he (by omega) (by omega) (by omega) (decide (16 ≤ (N.length : Int)))
 simp only
 cases e1 : sName (decide (16 ≤ (N.length : Int))) N Q (l.drop k) with
 | error e => rw [e1] at h1; rw [show model_read_name _ l (k : Int) N S_ I Q C = some (.error e) from h1]; rfl
 | ok p1 =>
  rw [e1] at h1
  obtain ⟨k1, m1, d1⟩ := h1
  have s1 := (sName_ok he e1).1
  obtain ⟨t1, r1, ht1⟩ := s1.1.ne
  rw [m1, bindE_o]
  simp only
  rw [next_m N S_ I Q C (d1.trans ht1), bind_s]
  have h2 := number_m N S_ I Q C (l := l) (k := k1) (by rw [d1]; exact s1.1) (by omega)
  rw [d1] at h2
  cases e2 : sNum p1.2 with
  | error e => rw [e2] at h2; rw [show model_read_number l (k1 : Int) N S_ I Q C = some (.error e) from h2]; rfl
  | ok p2 =>
   rw [e2] at h2
   obtain ⟨k2, m2, d2⟩ := h2
   have s2 := sNum_ok s1.1 e2
   rw [m2, bindE_o]
   simp only
   have h3 := number_m N S_ I Q C (l := l) (k := k2) (by rw [d2]; exact s2.1) (by omega)
   rw [d2] at h3
   cases e3 : sNum p2.2 with
   | error e => rw [e3] at h3; rw [show model_read_number l (k2 : Int) N S_ I Q C = some (.error e) from h3]; rfl
   | ok p3 =>
    rw [e3] at h3
    obtain ⟨k3, m3, d3⟩ := h3
    have s3 := sNum_ok s2.1 e3
    rw [m3, bindE_o]
    simp only
    have h4 := number_m N S_ I Q C (l := l) (k := k3) (by rw [d3]; exact s3.1) (by omega)
    rw [d3] at h4
    cases e4 : sNum p3.2 with
    | error e => rw [e4] at h4; rw [show model_read_number l (k3 : Int) N S_ I Q C = some (.error e) from h4]; rfl
    | ok p4 =>
     rw [e4] at h4
     obtain ⟨k4, m4, d4⟩ := h4
     have s4 := sNum_ok s3.1 e4
     rw [m4, bindE_o]
     simp only
     have h5 := sign_m N S_ I Q C (l := l) (k := k4) (by rw [d4]; exact s4.1) (by omega) [59]
     rw [d4] at h5
     cases e5 : sSign [59] p4.2 with
     | error e => rw [e5] at h5; rw [show model_read_sign [59] l (k4 : Int) N S_ I Q C = some (.error e) from h5]; rfl
     | ok r5 =>
      rw [e5] at h5
      obtain ⟨k5, m5, d5⟩ := h5
      rw [m5, bindE_o, right_m, bind_s, in_m, letv_e]
      have hg : (callG (!!rightB p2.1 p3.1) default (some (bif decide (p2.1 ≤ p4.1) && decide (p4.1 ≤ p3.1) then (0 : Int) else 5)) fun r81 => letv (r81 != 0) fun b87 => letv (!rightB p2.1 p3.1 || b87) fun b89 =>
        bif b89 then (some (.error (5, t1.2.2.2)) : Option (Except (Int × Int) (Int × List Str × List (Int × Int) × List Int))) else model_read_variable_K1 N S_ I (p1.1, (k1 : Int)) (p2.1, (k2 : Int)) (p3.1, (k3 : Int)) (p4.1, (k4 : Int)) (k5 : Int)) =
        bif !(rightB p2.1 p3.1) || decide (p4.1 < p2.1) || decide (p3.1 < p4.1) then some (.error (5, t1.2.2.2)) else model_read_variable_K1 N S_ I (p1.1, (k1 : Int)) (p2.1, (k2 : Int)) (p3.1, (k3 : Int)) (p4.1, (k4 : Int)) (k5 : Int) := by
       cases rightB p2.1 p3.1
       ·rfl
       ·simp only [Bool.not_true, Bool.not_false, callG_tt, bind_s, letv_e, Bool.false_or]
        rw [dec_not p4.1 p2.1, dec_not p3.1 p4.1]
        cases decide (p2.1 ≤ p4.1) <;> cases decide (p4.1 ≤ p3.1) <;> rfl
      rw [hg]
      have hp : headP p1.2 = t1.2.2.2 := by rw [ht1]; rfl
      rw [hp]
      cases hb : (!(rightB p2.1 p3.1) || decide (p4.1 < p2.1) || decide (p3.1 < p4.1))
      ·simp only [cond_false, model_read_variable_K1]
       rw [Sy.chk_t (Sy.room_ok (by simp; omega) (by simp; omega)), show idx ([(p2.1, p3.1)] : List (Int × Int)) 0 = some (p2.1, p3.1) from rfl, bind_s, Sy.chk_t (Sy.room_ok (by simp; omega) (by simp; omega)), Sy.chk_t (Sy.room_ok (by simp; omega) (by simp; omega))]
       exact ⟨k5, rfl, d5⟩
      ·rfl
theorem commands_m (hk : l.length < 1099511627776) (hN : N.length < 1099511627776) (nm : Str × Int) : ∀ (f : Nat) (C : List Cmd) (k M : Nat), Pa.Ends (l.drop k) → (l.drop k).length < f → (l.drop k).length < M →
  Rd l (sCmds f (N, S_, I, Q ++ [nm.1], C) (l.drop k)) (fun m' k' => (k', m'.2.2.2.1, m'.2.2.2.2)) (fixN (model_read_process_L1 l N S_ I Q nm) M ((k : Int), C))
 | 0, C, k, M, he, hf, hM => by omega
 | f + 1, C, k, 0, he, hf, hM => by omega
 | f + 1, C, k, M + 1, he, hf, hM => by
  rw [fixN_succ]
  obtain ⟨t, r, ht⟩ := he.ne
  have hd := drop_at ht
  simp only [model_read_process_L1]
  rw [is_m N S_ I (Q ++ [nm.1]) C ht, bind_s]
  have hH : isH 3 [125] (l.drop k) = isT 3 [125] t := by rw [ht]; rfl
  unfold sCmds
  rw [hH]
  cases h1 : isT 3 [125] t
  ·simp only [Bool.not_false, cond_true, cond_false]
   have hc := command_m N S_ I (Q ++ [nm.1]) C (l := l) (k := k) he hk hN (Nat.le_of_lt hd.2.2.1)
   cases h2 : sCmd (N, S_, I, Q ++ [nm.1], C) (l.drop k) with
   | error e =>
    rw [h2] at hc
    rw [show model_read_command l (k : Int) N S_ I (Q ++ [nm.1]) C = some (.error e) from hc]
    rfl
   | ok p =>
    rw [h2] at hc
    obtain ⟨k1, m1, d1⟩ := hc
    obtain ⟨s1, g, r1, r2, sets, r3, _, _, _, _, hp, _, _⟩ := sCmd_ok he h2
    rw [m1, bindE_o]
    have ih := commands_m hk hN nm f p.1.2.2.2.2 k1 M (by rw [d1]; exact s1.1) (by rw [d1]; have := s1.2; omega) (by rw [d1]; have := s1.2; omega)
    rw [d1] at ih
    have hpe : p.1 = (N, S_, I, Q ++ [nm.1], p.1.2.2.2.2) := by rw [hp]
    rw [← hpe] at ih
    exact ih
  ·simp only [Bool.not_true, cond_true, cond_false]
   exact ⟨k + 1, by rw [wrap1 (show k < 4611686018427387904 by omega)], by rw [ht, hd.2.1]; rfl⟩
theorem process_m (he : Pa.Ends (l.drop k)) (hk : l.length < 1099511627776) (hN : N.length ≤ l.length) (hQ : Q.length ≤ l.length) :
  Rd l (sProc (N, S_, I, Q, C) (l.drop k)) (fun m' k' => (k', m'.2.2.2.1, m'.2.2.2.2)) (model_read_process l (k : Int) N S_ I Q C) := by
 unfold model_read_process sProc
 have h1 := name_m N S_ I Q C (l := l) (k := k) he (by omega) (by omega) (by omega) false
 simp only
 cases e1 : sName false N Q (l.drop k) with
 | error e => rw [e1] at h1; rw [show model_read_name false l (k : Int) N S_ I Q C = some (.error e) from h1]; rfl
 | ok p1 =>
  rw [e1] at h1
  obtain ⟨k1, m1, d1⟩ := h1
  have s1 := (sName_ok he e1).1
  rw [m1, bindE_o]
  simp only
  rw [Sy.chk_t (Sy.room_ok (by simp; omega) (by simp; omega))]
  have h2 := sign_m N S_ I (Q ++ [p1.1]) C (l := l) (k := k1) (by rw [d1]; exact s1.1) (by omega) [123]
  rw [d1] at h2
  cases e2 : sSign [123] p1.2 with
  | error e => rw [e2] at h2; rw [show model_read_sign [123] l (k1 : Int) N S_ I (Q ++ [p1.1]) C = some (.error e) from h2]; rfl
  | ok r2 =>
   rw [e2] at h2
   obtain ⟨k2, m2, d2⟩ := h2
   have s2 := sSign_ok s1.1 e2
   rw [m2, bindE_o]
   have hdl : (l.drop k2).length ≤ l.length := by simp
   have := commands_m (l := l) N S_ I Q hk (by omega) (p1.1, (k1 : Int)) (r2.length + 1) C k2 FUEL (by rw [d2]; exact s2.1) (by rw [d2]; omega) (by show _ < 2 ^ 64; omega)
   rw [d2] at this
   exact this
end
end Mo
end Go.Proofs.YtdhgpnejphlfpaaDoor
namespace Go.Proofs.YtdhgpnejphlfpaaDoor
namespace Mo
open Pa Sy
def RdA (s : Except Err Mdl) (m : Option (Except Err (Int × List Str × List (Int × Int) × List Int × List Str × List Cmd))) : Prop := match s with
 | .error e => m = some (.error e)
 | .ok m' => ∃ k : Nat, m = some (.ok ((k : Int), m'))
theorem sProc_ok {m : Mdl} {ts : List Tok} {p : Mdl × List Tok} (he : Pa.Ends ts) (h : sProc m ts = .ok p) : Shorter ts p.2 ∧ p.1.1 = m.1 ∧ p.1.2.1 = m.2.1 ∧ p.1.2.2.1 = m.2.2.1 ∧ p.1.2.2.2.1.length = m.2.2.2.1.length + 1 := by
 unfold sProc at h
 cases h1 : sName false m.1 m.2.2.2.1 ts with
 | error e => rw [h1] at h; cases h
 | ok q1 =>
  rw [h1] at h
  simp only at h
  have s1 := (sName_ok he h1).1
  cases h2 : sSign [123] q1.2 with
  | error e => rw [h2] at h; cases h
  | ok r2 =>
   rw [h2] at h
   simp only at h
   have s2 := sSign_ok s1.1 h2
   have key : ∀ (f : Nat) (m : Mdl) (ts : List Tok) (p : Mdl × List Tok), Pa.Ends ts → sCmds f m ts = .ok p → Shorter ts p.2 ∧ p.1.1 = m.1 ∧ p.1.2.1 = m.2.1 ∧ p.1.2.2.1 = m.2.2.1 ∧ p.1.2.2.2.1 = m.2.2.2.1 := by
    intro f
    induction f with
    | zero => intro m ts p _ h; cases h
    | succ f ih =>
     intro m ts p he h
     unfold sCmds at h
     cases hh : isH 3 [125] ts
     ·rw [hh] at h
      simp only [cond_false] at h
      cases hc : sCmd m ts with
      | error e => rw [hc] at h; cases h
      | ok q =>
       rw [hc] at h
       obtain ⟨s3, g, r1, r2, sets, r3, _, _, _, _, hp, _, _⟩ := sCmd_ok he hc
       obtain ⟨a1, a2, a3, a4, a5⟩ := ih _ _ _ s3.1 h
       rw [hp] at a2 a3 a4 a5
       exact ⟨s3.trans a1, a2, a3, a4, a5⟩
     ·rw [hh] at h
      simp only [cond_true] at h
      cases h
      have := isH_ends he (by decide) hh
      exact ⟨⟨this.1, by have := this.2; simp only; omega⟩, rfl, rfl, rfl, rfl⟩
   obtain ⟨a1, a2, a3, a4, a5⟩ := key _ _ _ _ s2.1 h
   exact ⟨(s1.trans s2).trans a1, a2, a3, a4, by rw [a5]; simp⟩
theorem all_m {l : List Tok} (hk : l.length < 1099511627776) : ∀ (f : Nat) (N : List Str) (S_ : List (Int × Int)) (I : List Int) (Q : List Str) (C : List Cmd) (k M : Nat), Pa.Ends (l.drop k) → (l.drop k).length < f → (l.drop k).length < M → N.length ≤ k → S_.length ≤ k → I.length ≤ k → Q.length ≤ k →
  RdA (sItems f (N, S_, I, Q, C) (l.drop k)) (fixN (model_read_all_L1 l) M ((k : Int), N, S_, I, Q, C))
 | 0, N, S_, I, Q, C, k, M, he, hf, hM, _, _, _, _ => by omega
 | f + 1, N, S_, I, Q, C, k, 0, he, hf, hM, _, _, _, _ => by omega
 | f + 1, N, S_, I, Q, C, k, M + 1, he, hf, hM, bN, bS, bI, bQ => by
  rw [fixN_succ]
  obtain ⟨t, r, ht⟩ := he.ne
  have hd := drop_at ht
  have hw : IntKind.i64.wrap ((k : Int) + 1) = ((k + 1 : Nat) : Int) := wrap1 (by omega)
  simp only [model_read_all_L1]
  rw [next_m N S_ I Q C ht, bind_s, is_m N S_ I Q C ht, is_m N S_ I Q C ht, bind_s, hw, ht]
  unfold sItems
  simp only
  have hr : t.1 ≠ 4 → Pa.Ends (l.drop (k + 1)) := fun h => by
   rw [hd.2.1]
   rw [ht] at he
   exact he.tail h
  have hdl : (l.drop k).length = r.length + 1 := by rw [ht]; rfl
  cases h4 : (t.1 == 4)
  ·rw [show (t.1 != 4) = true by simpa [bne] using h4, cond_true, cond_false]
   have ht4 : t.1 ≠ 4 := by simpa using h4
   cases hv : isT 1 [118, 97, 114] t
   ·simp only [cond_false, bind_s]
    cases hp : isT 1 [112, 114, 111, 99] t
    ·simp only [Bool.not_false, cond_true, cond_false, stop_m N S_ I Q C ht, bindE_e]; rfl
    ·simp only [Bool.not_true, cond_true, cond_false]
     have h := process_m N S_ I Q C (l := l) (k := k + 1) (hr ht4) hk (by omega) (by omega)
     rw [hd.2.1] at h
     cases e1 : sProc (N, S_, I, Q, C) r with
     | error e =>
      rw [e1] at h
      rw [show model_read_process l ((k + 1 : Nat) : Int) N S_ I Q C = some (.error e) from h]
      rfl
     | ok p =>
      rw [e1] at h
      obtain ⟨k1, m1, d1⟩ := h
      obtain ⟨s1, a2, a3, a4, a5⟩ := sProc_ok (by rw [← hd.2.1]; exact hr ht4) e1
      have hkk : k + 1 < k1 := drop_lt hd.2.1 d1 s1.2
      rw [m1, bindE_o]
      simp only at a2 a3 a4 a5 ⊢
      have ih := all_m hk f p.1.1 p.1.2.1 p.1.2.2.1 p.1.2.2.2.1 p.1.2.2.2.2 k1 M (by rw [d1]; exact s1.1) (by rw [d1]; have := s1.2; omega) (by rw [d1]; have := s1.2; omega) (by rw [a2]; omega) (by rw [a3]; omega) (by rw [a4]; omega) (by rw [a5]; omega)
      rw [d1] at ih
      have e2 : ((k1 : Int), N, S_, I, p.1.2.2.2.1, p.1.2.2.2.2) = ((k1 : Int), p.1.1, p.1.2.1, p.1.2.2.1, p.1.2.2.2.1, p.1.2.2.2.2) := by rw [a2, a3, a4]
      rw [e2]
      exact ih
   ·simp only [cond_true]
    have h := variable_m N S_ I Q C (l := l) (k := k + 1) (hr ht4) hk (by omega) (by omega) (by omega) (by omega)
    rw [hd.2.1] at h
    cases e1 : sVar (N, S_, I, Q, C) r with
    | error e =>
     rw [e1] at h
     rw [show model_read_variable l ((k + 1 : Nat) : Int) N S_ I Q C = some (.error e) from h]
     rfl
    | ok p =>
     rw [e1] at h
     obtain ⟨k1, m1, d1⟩ := h
     obtain ⟨s1, name, lo, hi, first, hp, _⟩ := sVar_ok (by rw [← hd.2.1]; exact hr ht4) e1
     have hkk : k + 1 < k1 := drop_lt hd.2.1 d1 s1.2
     rw [m1, bindE_o]
     simp only at hp ⊢
     have ih := all_m hk f p.1.1 p.1.2.1 p.1.2.2.1 p.1.2.2.2.1 p.1.2.2.2.2 k1 M (by rw [d1]; exact s1.1) (by rw [d1]; have := s1.2; omega) (by rw [d1]; have := s1.2; omega) (by rw [hp]; simp; omega) (by rw [hp]; simp; omega) (by rw [hp]; simp; omega) (by rw [hp]; simp; omega)
     rw [d1] at ih
     have e2 : ((k1 : Int), p.1.1, p.1.2.1, p.1.2.2.1, Q, C) = ((k1 : Int), p.1.1, p.1.2.1, p.1.2.2.1, p.1.2.2.2.1, p.1.2.2.2.2) := by rw [hp]
     rw [e2]
     exact ih
  ·rw [show (t.1 != 4) = false by simpa [bne] using h4, cond_true, cond_false]
   cases N with
   | nil =>
    rw [show ((List.length ([] : List Str) : Int) == 0) = true from rfl, cond_true]
    simp only [stop_m [] S_ I Q C ht, bindE_e]
    rfl
   | cons x N =>
    rw [show ((List.length (x :: N) : Int) == 0) = false by simp; omega, cond_false]
    exact ⟨k, rfl⟩
theorem Parse_m (text : Str) : model_Parse text = some (outS (sysT text)) := by
 unfold model_Parse sysT
 rw [Lx.Tokens_eq, bind_s]
 unfold Lx.tokens
 by_cases h : 65536 < text.length
 ·rw [if_pos h, if_pos h]
  rfl
 ·rw [if_neg h, if_neg h]
  have hx : Lx.lexS (text.length + 1) 0 text = Lx.lex text := rfl
  rw [hx]
  cases hl : Lx.lex text with
  | error e =>
   have h0 : (e.1 != 0) = true := bne_iff_ne.2 (lexS_err _ _ _ _ hl)
   simp only [Lx.res, h0, cond_true]
   rfl
  | ok l =>
   have hg := lex_good hl
   have hlen := hg.len
   simp only [Lx.res, show ((0 : Int) != 0) = false from rfl, cond_false]
   have := all_m (l := l) (by omega) (l.length + 1) [] [] [] [] [] 0 FUEL (by simpa using hg.ends) (by simp) (by show _ < 2 ^ 64; simp; omega) (by simp) (by simp) (by simp) (by simp)
   unfold model_read_all
   rw [show l.drop 0 = l from rfl, show ((0 : Nat) : Int) = 0 from rfl] at this
   have hs : sItems (l.length + 1) ([], [], [], [], []) l = Sy.sys l := rfl
   rw [hs] at this
   cases hsys : Sy.sys l with
   | error e =>
    rw [hsys] at this
    rw [show fixN (model_read_all_L1 l) FUEL (0, [], [], [], [], []) = some (.error e) from this]
    rfl
   | ok m =>
    rw [hsys] at this
    obtain ⟨k, hm⟩ := this
    rw [hm]
    rfl
end Mo
end Go.Proofs.YtdhgpnejphlfpaaDoor
namespace Go.Proofs.YtdhgpnejphlfpaaDoor
namespace Mo
open Pa Sy
def given (m : Mdl) (x : Str) : Bool := key x || m.1.contains x || m.2.2.2.1.contains x
theorem name_ok {m : Mdl} {x : Str} {p : Int} {r : List Tok} (h : given m x = false) : sName false m.1 m.2.2.2.1 ((1, x, 0, p) :: r) = .ok (x, r) := by
 unfold given at h
 simp only [sName, h]
 rfl
theorem num_ok {t : Str} {n p : Int} {r : List Tok} : sNum ((2, t, n, p) :: r) = .ok (n, r) := by
 unfold sNum
 rw [show isH 3 [45] ((2, t, n, p) :: r) = false from rfl, cond_false]
 rfl
theorem var_ok {f : Nat} {m : Mdl} {x t1 t2 t3 : Str} {lo hi fi p0 p1 p2 p3 p4 p5 : Int} {r : List Tok} (hn : m.1.length < 16) (h : given m x = false) (hr : rightB lo hi = true) (h1 : lo ≤ fi) (h2 : fi ≤ hi) :
  sItems (f + 1) m ((1, [118, 97, 114], 0, p0) :: (1, x, 0, p1) :: (2, t1, lo, p2) :: (2, t2, hi, p3) :: (2, t3, fi, p4) :: (3, [59], 0, p5) :: r) = sItems f (m.1 ++ [x], m.2.1 ++ [(lo, hi)], m.2.2.1 ++ [fi], m.2.2.2.1, m.2.2.2.2) r := by
 have hv : sVar m ((1, x, 0, p1) :: (2, t1, lo, p2) :: (2, t2, hi, p3) :: (2, t3, fi, p4) :: (3, [59], 0, p5) :: r) = .ok ((m.1 ++ [x], m.2.1 ++ [(lo, hi)], m.2.2.1 ++ [fi], m.2.2.2.1, m.2.2.2.2), r) := by
  unfold sVar
  rw [decide_eq_false (show ¬ (16 ≤ (m.1.length : Int)) by omega), name_ok h]
  simp only [num_ok]
  rw [show sSign [59] ((3, [59], 0, p5) :: r) = .ok r from rfl]
  simp only [hr, decide_eq_false (show ¬ fi < lo by omega), decide_eq_false (show ¬ hi < fi by omega)]
  rfl
 have e : sItems (f + 1) m ((1, [118, 97, 114], 0, p0) :: (1, x, 0, p1) :: (2, t1, lo, p2) :: (2, t2, hi, p3) :: (2, t3, fi, p4) :: (3, [59], 0, p5) :: r) = match sVar m ((1, x, 0, p1) :: (2, t1, lo, p2) :: (2, t2, hi, p3) :: (2, t3, fi, p4) :: (3, [59], 0, p5) :: r) with
   | .error e => .error e
   | .ok (m', r') => sItems f m' r' := rfl
 rw [e, hv]
theorem end_ok {f : Nat} {m : Mdl} {p : Int} (h : m.1 ≠ []) : sItems (f + 1) m [(4, [], 0, p)] = .ok m := by
 have e : sItems (f + 1) m [(4, [], 0, p)] = bif m.1.isEmpty then .error (2, p) else .ok m := rfl
 rw [e]
 cases hm : m.1 with
 | nil => exact absurd hm h
 | cons x r => rfl
theorem cmd_ok {m : Mdl} {x t : Str} {p1 p2 p3 p4 p5 p6 : Int} {r : List Tok} (hc : m.2.2.2.2.length < 256) (hx : 0 ≤ idxI m.1 x) :
  sCmd m ((1, [116, 114, 117, 101], 0, p1) :: (3, [58], 0, p2) :: (1, x, 0, p3) :: (3, [61], 0, p4) :: (2, t, 0, p5) :: (3, [59], 0, p6) :: r) =
   .ok ((m.1, m.2.1, m.2.2.1, m.2.2.2.1, m.2.2.2.2 ++ [(IntKind.i64.wrap ((m.2.2.2.1.length : Int) - 1), .mk 13 0 p1 [], [(idxI m.1 x, .mk 1 0 p5 [])])]), r) := by
 unfold sCmd
 rw [decide_eq_false (show ¬ (256 ≤ (m.2.2.2.2.length : Int)) by omega), cond_false, expr_true rfl rfl (plain_sign rfl (.inr (.inl rfl)))]
 simp only
 rw [show sSign [58] ((3, [58], 0, p2) :: (1, x, 0, p3) :: (3, [61], 0, p4) :: (2, t, 0, p5) :: (3, [59], 0, p6) :: r) = .ok ((1, x, 0, p3) :: (3, [61], 0, p4) :: (2, t, 0, p5) :: (3, [59], 0, p6) :: r) from rfl]
 simp only
 have hs : ∀ f, sSets m.1 (f + 1) [] ((1, x, 0, p3) :: (3, [61], 0, p4) :: (2, t, 0, p5) :: (3, [59], 0, p6) :: r) = .ok ([(idxI m.1 x, .mk 1 0 p5 [])], (3, [59], 0, p6) :: r) := fun f => by
  have hd : decide (idxI m.1 x < 0) = false := decide_eq_false (by omega)
  have ho : sOne m.1 [] ((1, x, 0, p3) :: (3, [61], 0, p4) :: (2, t, 0, p5) :: (3, [59], 0, p6) :: r) = .ok ((idxI m.1 x, .mk 1 0 p5 []), (3, [59], 0, p6) :: r) := by
   simp only [sOne, hd]
   rw [show twice [] (idxI m.1 x) = false from rfl, show sSign [61] ((3, [61], 0, p4) :: (2, t, 0, p5) :: (3, [59], 0, p6) :: r) = .ok ((2, t, 0, p5) :: (3, [59], 0, p6) :: r) from rfl]
   simp only
   rw [expr_num rfl (plain_sign rfl (.inl rfl))]
   rfl
  rw [sSets_one, ho]
  rfl
 rw [hs]
 rfl
end Mo
end Go.Proofs.YtdhgpnejphlfpaaDoor
namespace Go.Proofs.YtdhgpnejphlfpaaDoor
def i64B (x : Int) : Bool := decide (-9223372036854775808 ≤ x) && decide (x ≤ 9223372036854775807)
end Go.Proofs.YtdhgpnejphlfpaaDoor
namespace Go.Proofs.YtdhgpnejphlfpaaDoor
theorem catB_le {m l : Str} (h : m.length + l.length ≤ 9223372036854775807) : catB m l = true := Nat.ble_eq_true_of_le h
theorem nDigits_le : ∀ (k u : Nat), u < 10 ^ (k + 1) → Lib.nDigits u ≤ k + 1
 | 0, u, h => by rw [Lib.nDigits_small (by simpa using h)]; omega
 | k + 1, u, h => by
  by_cases hu : u < 10
  ·rw [Lib.nDigits_small hu]; omega
  ·rw [Lib.nDigits_big hu]
   have := nDigits_le k (u / 10) (by rw [Nat.div_lt_iff_lt_mul (by omega), ← Nat.pow_succ]; exact h)
   omega
theorem digits_some : ∀ (N : Nat) (n : Nat), n ≤ N → n < 4611686018427387904 → fixN (fun k (s : Int) => scrutinyref13_digits_F k s) (N + 1) (n : Int) = some (Lib.decDigits n) := by
 intro N
 induction N with
 | zero =>
  intro n h _
  obtain rfl : n = 0 := by omega
  rw [Lib.decDigits, dif_pos (by omega)]
  rfl
 | succ N ih =>
  intro n h hb
  rw [fixN_succ]
  show scrutinyref13_digits_F _ (n : Int) = _
  generalize fixN (fun k (s : Int) => scrutinyref13_digits_F k s) (N + 1) = k at ih ⊢
  unfold scrutinyref13_digits_F
  by_cases hn : n < 10
  ·rw [Lib.decDigits, dif_pos hn, decide_eq_true (by omega)]
   have : n = 0 ∨ n = 1 ∨ n = 2 ∨ n = 3 ∨ n = 4 ∨ n = 5 ∨ n = 6 ∨ n = 7 ∨ n = 8 ∨ n = 9 := by omega
   rcases this with rfl | rfl | rfl | rfl | rfl | rfl | rfl | rfl | rfl | rfl <;> rfl
  ·rw [decide_eq_false (by omega)]
   have e1 : Int.tdiv (n : Int) 10 = ((n / 10 : Nat) : Int) := by
    rw [Int.tdiv_eq_ediv_of_nonneg (by omega)]; omega
   have e2 : Int.tmod (n : Int) 10 = ((n % 10 : Nat) : Int) := by
    rw [Int.tmod_eq_emod_of_nonneg (by omega)]; omega
   have i1 := ih (n / 10) (by omega) (by omega)
   have i2 := ih (n % 10) (by omega) (by omega)
   have d2 : Lib.decDigits (n % 10) = [UInt8.ofNat (48 + n % 10)] := by rw [Lib.decDigits, dif_pos (by omega)]
   have hlen : (Lib.decDigits (n / 10)).length ≤ 19 := by
    rw [Lib.decDigits_length]; exact nDigits_le 18 _ (by omega)
   simp only [cond_false, e1, e2, w64 (show -9223372036854775808 ≤ ((n / 10 : Nat) : Int) ∧ ((n / 10 : Nat) : Int) ≤ 9223372036854775807 by omega), i1, i2, bind_s, d2]
   rw [catB_le (by simp only [List.length_cons, List.length_nil]; omega)]
   conv => rhs; rw [Lib.decDigits, dif_neg hn]
   rfl
namespace Lx
theorem lex_tok' {t rest : Str} {k n : Int} (h : step (t ++ rest) = .tok k t n) : lex (t ++ rest) = consE (k, t, n, 0) (shE t.length (lex rest)) := by
 cases ht : t ++ rest with
 | nil => rw [ht] at h; cases h
 | cons c s =>
  rw [ht] at h
  rw [lex_tok h, ← ht, List.drop_left]
theorem lex_bl (s : Str) : lex (32 :: s) = shE 1 (lex s) := lex_skip (c := 32) (s := s) (k := 1) rfl
abbrev Tk := Int × Str × Int
def stops (r : Str) : Prop := r = [] ∨ ∃ c s, r = c :: s ∧ (c = 32 ∨ c = 41)
end Lx
end Go.Proofs.YtdhgpnejphlfpaaDoor
namespace Go.Proofs.YtdhgpnejphlfpaaDoor
namespace Lx
inductive Pc where
 | tk (k : Int) (t : Str) (n : Int)
 | bl
def textP : List Pc → Str
 | [] => []
 | .tk _ t _ :: r => t ++ textP r
 | .bl :: r => 32 :: textP r
def placeP : Nat → List Pc → List Tok
 | a, [] => [(4, [], 0, (a : Int))]
 | a, .tk k t n :: r => (k, t, n, (a : Int)) :: placeP (a + t.length) r
 | a, .bl :: r => placeP (a + 1) r
def okP : List Pc → Prop
 | [] => True
 | .tk k t n :: r => step (t ++ textP r) = .tok k t n ∧ okP r
 | .bl :: r => okP r
theorem place_sh (j : Nat) : ∀ (a : Nat) (l : List Pc), (placeP a l).map (shT j) = placeP (a + j) l
 | a, [] => by
  show [((4 : Int), ([] : Str), (0 : Int), (a : Int) + (j : Int))] = [(4, [], 0, ((a + j : Nat) : Int))]
  rw [show (a : Int) + (j : Int) = ((a + j : Nat) : Int) by omega]
 | a, .tk k t n :: r => by
  show (k, t, n, (a : Int) + (j : Int)) :: (placeP (a + t.length) r).map (shT j) = (k, t, n, ((a + j : Nat) : Int)) :: placeP (a + j + t.length) r
  rw [place_sh j (a + t.length) r, show (a : Int) + (j : Int) = ((a + j : Nat) : Int) by omega, show a + t.length + j = a + j + t.length by omega]
 | a, .bl :: r => by
  show (placeP (a + 1) r).map (shT j) = placeP (a + j + 1) r
  rw [place_sh j (a + 1) r, show a + 1 + j = a + j + 1 by omega]
theorem lex_P : ∀ {l : List Pc}, okP l → lex (textP l) = .ok (placeP 0 l)
 | [], _ => lex_nil
 | .tk k t n :: r, h => by
  show lex (t ++ textP r) = _
  rw [lex_tok' h.1, lex_P h.2]
  show Except.ok ((k, t, n, (0 : Int)) :: (placeP 0 r).map (shT t.length)) = .ok ((k, t, n, ((0 : Nat) : Int)) :: placeP (0 + t.length) r)
  rw [place_sh]; rfl
 | .bl :: r, h => by
  show lex (32 :: textP r) = _
  rw [lex_bl, lex_P (l := r) h]
  show Except.ok ((placeP 0 r).map (shT 1)) = .ok (placeP (0 + 1) r)
  rw [place_sh]
theorem textP_cat : ∀ (a b : List Pc), textP (a ++ b) = textP a ++ textP b
 | [], b => rfl
 | .tk _ t _ :: r, b => by
  show t ++ textP (r ++ b) = t ++ textP r ++ textP b
  rw [textP_cat r b, List.append_assoc]
 | .bl :: r, b => by
  show 32 :: textP (r ++ b) = 32 :: textP r ++ textP b
  rw [textP_cat r b]; rfl
def endsB (p : UInt8 → Bool) (r : Str) : Bool := match r with
 | [] => true
 | c :: _ => !(p c)
theorem takeWhile_end {p : UInt8 → Bool} {t r : Str} (ht : t.all p = true) (hr : endsB p r = true) : (t ++ r).takeWhile p = t := by
 cases r with
 | nil => rw [List.append_nil, takeWhile_self ht]
 | cons c s =>
  have : p c = false := by
   unfold endsB at hr
   simpa using hr
  rw [takeWhile_sep this, takeWhile_self ht]
def wordB (s : Str) : Bool := s.all isLetter && decide (1 ≤ s.length) && decide (s.length ≤ 20)
theorem step_word {t r : Str} (hw : t.all isEither = true) (h0 : ∃ c s, t = c :: s ∧ isLetter c = true) (hl : t.length ≤ 32) (hr : endsB isEither r = true) : step (t ++ r) = .tok 1 t 0 := by
 obtain ⟨c, s, rfl, hc⟩ := h0
 have hw := takeWhile_end hw hr
 have hb : isBlank c = false := by
  cases hb : isBlank c
  ·rfl
  ·rw [blank_letter hb] at hc; cases hc
 have h35 : (c == 35) = false := by
  cases h35 : (c == 35)
  ·rfl
  ·rw [beq_iff_eq.1 h35] at hc; cases hc
 rw [List.cons_append] at hw ⊢
 simp only [step, hb, h35, hc, Bool.false_eq_true, if_false, if_true, hw]
 rw [if_neg (by omega)]
theorem word0_step {t r : Str} (h : wordB t = true) (hr : endsB isEither r = true) : step ((t ++ [48]) ++ r) = .tok 1 (t ++ [48]) 0 := by
 unfold wordB at h
 simp only [Bool.and_eq_true, decide_eq_true_eq] at h
 obtain ⟨⟨h1, h2⟩, h3⟩ := h
 have ha : (t ++ [48]).all isEither = true := by
  rw [List.all_append, Bool.and_eq_true]
  refine ⟨?_, rfl⟩
  rw [List.all_eq_true] at h1 ⊢
  exact fun c hc => either_of_letter (h1 c hc)
 refine step_word ha ?_ (by simp; omega) hr
 cases t with
 | nil => simp at h2
 | cons c s => exact ⟨c, s ++ [48], rfl, by rw [List.all_cons, Bool.and_eq_true] at h1; exact h1.1⟩
end Lx
end Go.Proofs.YtdhgpnejphlfpaaDoor
namespace Go.Proofs.YtdhgpnejphlfpaaDoor
namespace Mo
open Pa Sy
open Lx (Pc textP placeP okP wordB endsB)
theorem sys_P {l : List Pc} (h : okP l) (hl : (textP l).length ≤ 65536) : sysT (textP l) = Sy.sys (placeP 0 l) := by
 unfold sysT
 rw [if_neg (by omega), Lx.lex_P h]
theorem proc1_ok {f : Nat} {m : Mdl} {x y t : Str} {p0 p1 p2 q1 q2 q3 q4 q5 q6 p3 : Int} {r : List Tok} (h : given m x = false) (hc : m.2.2.2.2.length < 256) (hy : 0 ≤ idxI m.1 y) :
  ∃ C, sItems (f + 1) m ((1, [112, 114, 111, 99], 0, p0) :: (1, x, 0, p1) :: (3, [123], 0, p2) :: (1, [116, 114, 117, 101], 0, q1) :: (3, [58], 0, q2) :: (1, y, 0, q3) :: (3, [61], 0, q4) :: (2, t, 0, q5) :: (3, [59], 0, q6) :: (3, [125], 0, p3) :: r) =
   sItems f (m.1, m.2.1, m.2.2.1, m.2.2.2.1 ++ [x], C) r := by
 refine ⟨m.2.2.2.2 ++ [(IntKind.i64.wrap (((m.2.2.2.1 ++ [x]).length : Int) - 1), .mk 13 0 q1 [], [(idxI m.1 y, .mk 1 0 q5 [])])], ?_⟩
 have hcm := cmd_ok (m := (m.1, m.2.1, m.2.2.1, m.2.2.2.1 ++ [x], m.2.2.2.2)) (x := y) (t := t) (p1 := q1) (p2 := q2) (p3 := q3) (p4 := q4) (p5 := q5) (p6 := q6) (r := (3, [125], 0, p3) :: r) hc hy
 have hv : sProc m ((1, x, 0, p1) :: (3, [123], 0, p2) :: (1, [116, 114, 117, 101], 0, q1) :: (3, [58], 0, q2) :: (1, y, 0, q3) :: (3, [61], 0, q4) :: (2, t, 0, q5) :: (3, [59], 0, q6) :: (3, [125], 0, p3) :: r) =
   .ok ((m.1, m.2.1, m.2.2.1, m.2.2.2.1 ++ [x], m.2.2.2.2 ++ [(IntKind.i64.wrap (((m.2.2.2.1 ++ [x]).length : Int) - 1), .mk 13 0 q1 [], [(idxI m.1 y, .mk 1 0 q5 [])])]), r) := by
  unfold sProc
  rw [name_ok h]
  simp only
  rw [show sSign [123] ((3, [123], 0, p2) :: (1, [116, 114, 117, 101], 0, q1) :: (3, [58], 0, q2) :: (1, y, 0, q3) :: (3, [61], 0, q4) :: (2, t, 0, q5) :: (3, [59], 0, q6) :: (3, [125], 0, p3) :: r) = .ok ((1, [116, 114, 117, 101], 0, q1) :: (3, [58], 0, q2) :: (1, y, 0, q3) :: (3, [61], 0, q4) :: (2, t, 0, q5) :: (3, [59], 0, q6) :: (3, [125], 0, p3) :: r) from rfl]
  simp only
  unfold sCmds
  rw [hcm]
  rfl
 have e : sItems (f + 1) m ((1, [112, 114, 111, 99], 0, p0) :: (1, x, 0, p1) :: (3, [123], 0, p2) :: (1, [116, 114, 117, 101], 0, q1) :: (3, [58], 0, q2) :: (1, y, 0, q3) :: (3, [61], 0, q4) :: (2, t, 0, q5) :: (3, [59], 0, q6) :: (3, [125], 0, p3) :: r) =
   match sProc m ((1, x, 0, p1) :: (3, [123], 0, p2) :: (1, [116, 114, 117, 101], 0, q1) :: (3, [58], 0, q2) :: (1, y, 0, q3) :: (3, [61], 0, q4) :: (2, t, 0, q5) :: (3, [59], 0, q6) :: (3, [125], 0, p3) :: r) with
   | .error e => .error e
   | .ok (m', r') => sItems f m' r' := rfl
 rw [e, hv]
end Mo
end Go.Proofs.YtdhgpnejphlfpaaDoor
namespace Go.Proofs.YtdhgpnejphlfpaaDoor
namespace Mo
open Pa Sy
open Lx (Pc textP placeP okP wordB endsB)
def wv : Pc := .tk 1 [118, 97, 114] 0
def wp : Pc := .tk 1 [112, 114, 111, 99] 0
def n0 : Pc := .tk 2 [48] 0
def n1 : Pc := .tk 2 [49] 1
def sg (c : UInt8) : Pc := .tk 3 [c] 0
end Mo
end Go.Proofs.YtdhgpnejphlfpaaDoor
namespace Go.Proofs.YtdhgpnejphlfpaaDoor
namespace Mo
theorem shown_true : scrutinylaw14_shown = some true := by
 show _ = _
 kernel_rfl
end Mo
end Go.Proofs.YtdhgpnejphlfpaaDoor
namespace Go.Proofs.YtdhgpnejphlfpaaDoor
theorem RKey_eq (name : Str) : scrutinyref13_Key name = some (keysT.contains name) := by
 unfold scrutinyref13_Key scrutinyref13_Key_K1 keysT
 simp only [List.contains_cons, List.contains_nil, Bool.or_false]
 cases (name == [116, 114, 117, 101])
 case true => rfl
 cases (name == [102, 97, 108, 115, 101])
 case true => rfl
 cases (name == [88])
 case true => rfl
 cases (name == [70])
 case true => rfl
 cases (name == [71])
 case true => rfl
 cases (name == [85])
 case true => rfl
 cases (name == [82])
 case true => rfl
 cases (name == [118, 97, 114])
 case true => rfl
 cases (name == [112, 114, 111, 99]) <;> rfl
end Go.Proofs.YtdhgpnejphlfpaaDoor
namespace Go.Proofs.YtdhgpnejphlfpaaDoor
namespace Mo
open Pa Sy
open Lx (Pc textP placeP okP wordB endsB)
def xOf (kind : Int) : Int := Int.tmod (IntKind.u8.wrap (Int.tdiv kind 2)) 2
theorem K2_m {a b : Str} {kind : Int} {f s : Str} {g : Bool} {y x : Int} (hy : Int.tmod kind 2 = y) (hx : xOf kind = x) (ha : a.length ≤ 20) (hf : f.length ≤ 1000) (hs : s.length ≤ 1000)
  (hg : g = (keysT.contains b || (a == b) || ((y == 1) && (b == a ++ [48])))) (R : Mdl × Int × Int) (hR : model_Parse (f ++ s) = some R)
  (h1 : g = true → R = (([], [], [], [], []), 3, ((f.length + (bif x == 1 then 5 else 4) : Nat) : Int)))
  (h2 : g = false → R.2.1 = 0 ∧ ∃ pre z, R.1.1 = pre ++ [z] ∧ pre.length ≤ 20 ∧ ((x == 0) = (z == b))) : scrutinylaw14_ModelNames_K2 a b kind true f s = some true := by
 unfold scrutinylaw14_ModelNames_K2
 have hx' : Int.tmod (IntKind.u8.wrap (Int.tdiv kind 2)) 2 = x := hx
 rw [Sy.chk_t (catB_le (by omega)), hR, bind_s, RKey_eq, bind_s, hy, hx']
 simp only [letv_e]
 have hcg : ∀ (c : Bool) (k : Option Bool), chkG c (catB a [48]) k = k := fun c k => by
  rw [catB_le (by simp; omega)]
  cases c <;> rfl
 rw [hcg, ← hg]
 cases hgc : g
 ·obtain ⟨r0, pre, z, hz, hpl, hxz⟩ := h2 hgc
  rw [r0, hz, hxz]
  have hl : decide ((1 : Int) ≤ (List.length (pre ++ [z]) : Int)) = true := by
   rw [List.length_append, List.length_singleton]
   exact decide_eq_true (by omega)
  have hi : idx (pre ++ [z]) (IntKind.i64.wrap ((List.length (pre ++ [z]) : Int) - 1)) = some z := by
   rw [List.length_append, List.length_singleton, w64 (by omega), show (((pre.length + 1 : Nat) : Int) - 1) = ((pre.length : Nat) : Int) by omega]
   exact Sy.mid (r := []) rfl
  rw [hl, hi]
  simp only [cond_false, show ((0 : Int) == 0) = true from rfl, Bool.and_self, callG_tt, bind_s]
  simp
 ·rw [h1 hgc]
  simp only [cond_true]
  cases hx1 : (x == 1)
  ·simp only [cond_false, scrutinylaw14_ModelNames_K3, letv_e]
   rw [w64 (by omega)]
   simp
  ·simp only [cond_true, scrutinylaw14_ModelNames_K3, letv_e]
   rw [w64 (by omega)]
   simp
theorem Parse_P {l s : List Pc} {r : Except Err Mdl} (h : okP (l ++ s)) (hl : (textP l).length ≤ 1000) (hs : (textP s).length ≤ 1000) (hr : Sy.sys (placeP 0 (l ++ s)) = r) : model_Parse (textP l ++ textP s) = some (outS r) := by
 rw [← Lx.textP_cat, Parse_m, sys_P h (by rw [Lx.textP_cat, List.length_append]; omega), hr]
end Mo
end Go.Proofs.YtdhgpnejphlfpaaDoor
namespace Go.Proofs.YtdhgpnejphlfpaaDoor
namespace Mo
open Pa Sy
open Lx (Pc textP placeP okP)
def oneC : List Pc := [.bl, .tk 1 [116, 114, 117, 101] 0, .bl, sg 58, .bl, .tk 1 [120] 0, .bl, sg 61, .bl, n0, sg 59]
def ctext : Str := [32, 116, 114, 117, 101, 32, 58, 32, 120, 32, 61, 32, 48, 59]
def repC : Nat → List Pc
 | 0 => []
 | j + 1 => oneC ++ repC j
def headC : List Pc := [wv, .bl, .tk 1 [120] 0, .bl, n0, .bl, n1, .bl, n0, sg 59, .bl, wp, .bl, .tk 1 [80] 0, .bl, sg 123]
theorem oneC_text : textP oneC = ctext := rfl
theorem repC_snoc : ∀ j, textP (repC j) ++ ctext = ctext ++ textP (repC j)
 | 0 => by simp [repC, textP]
 | j + 1 => by
  unfold repC
  rw [Lx.textP_cat, oneC_text, List.append_assoc, repC_snoc j]
theorem repC_text (j : Nat) : textP (repC (j + 1)) = textP (repC j) ++ ctext := by
 rw [repC_snoc]
 show textP (oneC ++ repC j) = _
 rw [Lx.textP_cat, oneC_text]
theorem repC_len : ∀ j, (textP (repC j)).length = 14 * j
 | 0 => rfl
 | j + 1 => by rw [repC_text, List.length_append, repC_len j]; show 14 * j + 14 = _; omega
def tailOk (s : List Pc) : Prop := okP s ∧ ∃ c r, textP s = c :: r ∧ (c = 32 ∨ c = 125)
theorem oneC_ok {s : List Pc} (h : okP s) : okP (oneC ++ s) := ⟨rfl, rfl, rfl, rfl, rfl, rfl, h⟩
theorem repC_ok {s : List Pc} (h : okP s) : ∀ j, okP (repC j ++ s)
 | 0 => h
 | j + 1 => by
  show okP ((oneC ++ repC j) ++ s)
  rw [List.append_assoc]
  exact oneC_ok (repC_ok h j)
theorem headC_ok {s : List Pc} (h : okP s) : okP (headC ++ s) := ⟨rfl, rfl, rfl, rfl, rfl, rfl, rfl, rfl, rfl, h⟩
theorem place_one (k : Nat) (s : List Pc) : placeP k (oneC ++ s) = (1, [116, 114, 117, 101], 0, ((k + 1 : Nat) : Int)) :: (3, [58], 0, ((k + 6 : Nat) : Int)) :: (1, [120], 0, ((k + 8 : Nat) : Int)) :: (3, [61], 0, ((k + 10 : Nat) : Int)) :: (2, [48], 0, ((k + 12 : Nat) : Int)) :: (3, [59], 0, ((k + 13 : Nat) : Int)) :: placeP (k + 14) s := rfl
theorem cmds_many (hx : True) : ∀ (j k f : Nat) (N : List Str) (S_ : List (Int × Int)) (I : List Int) (Q : List Str) (C : List Cmd), 0 ≤ idxI N [120] → C.length ≤ 256 →
  (C.length + j ≤ 256 → ∃ D p, sCmds (f + j + 1) (N, S_, I, Q, C) (placeP k (repC j ++ [sg 125])) = .ok ((N, S_, I, Q, D), [(4, [], 0, p)]) ∧ D.length = C.length + j) ∧
  (256 < C.length + j → sCmds (f + j + 1) (N, S_, I, Q, C) (placeP k (repC j ++ [sg 125])) = .error (9, ((k + 14 * (256 - C.length) + 1 : Nat) : Int)))
 | 0, k, f, N, S_, I, Q, C, hi, hc => ⟨fun _ => ⟨C, _, rfl, rfl⟩, fun h => by omega⟩
 | j + 1, k, f, N, S_, I, Q, C, hi, hc => by
  have e1 : placeP k (repC (j + 1) ++ [sg 125]) = placeP k (oneC ++ (repC j ++ [sg 125])) := by
   show placeP k ((oneC ++ repC j) ++ [sg 125]) = _
   rw [List.append_assoc]
  rw [e1, place_one]
  by_cases h256 : C.length < 256
  ·have hcm := cmd_ok (m := (N, S_, I, Q, C)) (x := [120]) (t := [48]) (p1 := ((k + 1 : Nat) : Int)) (p2 := ((k + 6 : Nat) : Int)) (p3 := ((k + 8 : Nat) : Int)) (p4 := ((k + 10 : Nat) : Int)) (p5 := ((k + 12 : Nat) : Int)) (p6 := ((k + 13 : Nat) : Int)) (r := placeP (k + 14) (repC j ++ [sg 125])) h256 hi
   have hs : ∀ ts : List Tok, sCmds (f + (j + 1) + 1) (N, S_, I, Q, C) ((1, [116, 114, 117, 101], 0, ((k + 1 : Nat) : Int)) :: ts) = match sCmd (N, S_, I, Q, C) ((1, [116, 114, 117, 101], 0, ((k + 1 : Nat) : Int)) :: ts) with
     | .error e => .error e
     | .ok (m', r') => sCmds (f + (j + 1)) m' r' := fun ts => rfl
   rw [hs, hcm]
   simp only
   have ih := cmds_many hx j (k + 14) f N S_ I Q (C ++ [(IntKind.i64.wrap ((Q.length : Int) - 1), .mk 13 0 ((k + 1 : Nat) : Int) [], [(idxI N [120], .mk 1 0 ((k + 12 : Nat) : Int) [])])]) hi (by simp; omega)
   rw [List.length_append, List.length_singleton] at ih
   rw [show f + (j + 1) = f + j + 1 by omega]
   refine ⟨fun h => ?_, fun h => ?_⟩
   ·obtain ⟨D, p, h1, h2⟩ := ih.1 (by omega)
    exact ⟨D, p, h1, by omega⟩
   ·rw [ih.2 (by omega), show k + 14 + 14 * (256 - (C.length + 1)) + 1 = k + 14 * (256 - C.length) + 1 by omega]
  ·have h3 : C.length = 256 := by omega
   refine ⟨fun h => by omega, fun _ => ?_⟩
   have hs : ∀ ts : List Tok, sCmds (f + (j + 1) + 1) (N, S_, I, Q, C) ((1, [116, 114, 117, 101], 0, ((k + 1 : Nat) : Int)) :: ts) = match sCmd (N, S_, I, Q, C) ((1, [116, 114, 117, 101], 0, ((k + 1 : Nat) : Int)) :: ts) with
     | .error e => .error e
     | .ok (m', r') => sCmds (f + (j + 1)) m' r' := fun ts => rfl
   rw [hs]
   have hc : ∀ ts : List Tok, sCmd (N, S_, I, Q, C) ((1, [116, 114, 117, 101], 0, ((k + 1 : Nat) : Int)) :: ts) = .error (9, ((k + 1 : Nat) : Int)) := fun ts => by
    unfold sCmd
    rw [decide_eq_true (show (256 : Int) ≤ ((N, S_, I, Q, C).2.2.2.2.length : Int) by simp only; omega)]
    rfl
   rw [hc, h3]
end Mo
end Go.Proofs.YtdhgpnejphlfpaaDoor
namespace Go.Proofs.YtdhgpnejphlfpaaDoor
namespace Mo
open Pa Sy
open Lx (Pc textP placeP okP)
theorem vars_all : ((List.range 20).all fun k => scrutinylaw14_ModelMany_K1 false true (k : Int) == some true) = true := by kernel_rfl
def manyP (k : Nat) : List Pc := headC ++ (repC k ++ [sg 125])
theorem manyP_ok (k : Nat) : okP (manyP k) := headC_ok (repC_ok (s := [sg 125]) ⟨rfl, trivial⟩ k)
theorem manyP_text (k : Nat) : textP (manyP k) = textP headC ++ textP (repC k) ++ [125] := by
 unfold manyP
 rw [Lx.textP_cat, Lx.textP_cat, List.append_assoc]; rfl
theorem headC_len : (textP headC).length = 21 := rfl
theorem manyP_len (k : Nat) : (textP (manyP k)).length = 14 * k + 22 := by
 rw [manyP_text, List.length_append, List.length_append, repC_len, headC_len, List.length_singleton]; omega
theorem place_head (s : List Pc) : placeP 0 (headC ++ s) = (1, [118, 97, 114], 0, 0) :: (1, [120], 0, 4) :: (2, [48], 0, 6) :: (2, [49], 1, 8) :: (2, [48], 0, 10) :: (3, [59], 0, 11) :: (1, [112, 114, 111, 99], 0, 13) :: (1, [80], 0, 18) :: (3, [123], 0, 20) :: placeP 21 s := rfl
theorem place_len : ∀ (k a : Nat), (placeP a (repC k ++ [sg 125])).length = 6 * k + 2
 | 0, a => rfl
 | k + 1, a => by
  have e : placeP a (repC (k + 1) ++ [sg 125]) = placeP a (oneC ++ (repC k ++ [sg 125])) := by
   show placeP a ((oneC ++ repC k) ++ [sg 125]) = _
   rw [List.append_assoc]
  rw [e, place_one]
  simp only [List.length_cons, place_len k (a + 14)]
  omega
theorem many_sys (k : Nat) : (k ≤ 256 → ∃ m, Sy.sys (placeP 0 (manyP k)) = .ok m ∧ m.2.2.2.2.length = k) ∧ (256 < k → Sy.sys (placeP 0 (manyP k)) = .error (9, ((21 + 14 * 256 + 1 : Nat) : Int))) := by
 unfold manyP Sy.sys
 rw [place_head]
 obtain ⟨n, hn⟩ : ∃ n, n = (placeP 21 (repC k ++ [sg 125])).length := ⟨_, rfl⟩
 have hpl := place_len k 21
 simp only [List.length_cons, ← hn]
 rw [var_ok (m := ([], [], [], [], [])) (by decide) (by decide) rfl (by decide) (by decide)]
 have hpE : ∀ (f : Nat) (m : Mdl) (ts : List Tok) (e : Err), sProc m ts = .error e → sItems (f + 1) m ((1, [112, 114, 111, 99], 0, 13) :: ts) = .error e := fun f m ts e h => by
  have e1 : sItems (f + 1) m ((1, [112, 114, 111, 99], 0, 13) :: ts) = match sProc m ts with
   | .error e => .error e
   | .ok (m', r') => sItems f m' r' := rfl
  rw [e1, h]
 have hpO : ∀ (f : Nat) (m m' : Mdl) (ts r' : List Tok), sProc m ts = .ok (m', r') → sItems (f + 1) m ((1, [112, 114, 111, 99], 0, 13) :: ts) = sItems f m' r' := fun f m m' ts r' h => by
  have e1 : sItems (f + 1) m ((1, [112, 114, 111, 99], 0, 13) :: ts) = match sProc m ts with
   | .error e => .error e
   | .ok (m', r') => sItems f m' r' := rfl
  rw [e1, h]
 have hs : sProc ([[120]], [(0, 1)], [0], [], []) ((1, [80], 0, 18) :: (3, [123], 0, 20) :: placeP 21 (repC k ++ [sg 125])) = sCmds (n + 1) ([[120]], [(0, 1)], [0], [[80]], []) (placeP 21 (repC k ++ [sg 125])) := by
  unfold sProc
  rw [show sName false ([[120]], [(0, 1)], [0], ([] : List Str), ([] : List Cmd)).1 ([[120]], [(0, 1)], [0], ([] : List Str), ([] : List Cmd)).2.2.2.1 ((1, [80], 0, 18) :: (3, [123], 0, 20) :: placeP 21 (repC k ++ [sg 125])) = .ok ([80], (3, [123], 0, 20) :: placeP 21 (repC k ++ [sg 125])) from name_ok (m := ([[120]], [(0, 1)], [0], [], [])) (by decide)]
  simp only
  rw [show sSign [123] ((3, [123], 0, 20) :: placeP 21 (repC k ++ [sg 125])) = .ok (placeP 21 (repC k ++ [sg 125])) from rfl]
  simp only [← hn]
  rfl
 have hm := cmds_many trivial k 21 (n - k) [[120]] [(0, 1)] [0] [[80]] [] (by decide) (by decide)
 rw [show n - k + k + 1 = n + 1 by omega] at hm
 simp only [List.length_nil, Nat.zero_add] at hm
 refine ⟨fun h => ?_, fun h => ?_⟩
 ·obtain ⟨C, p, h1, h2⟩ := hm.1 h
  refine ⟨_, (hpO _ _ _ _ _ (hs.trans h1)).trans (end_ok (by simp)), h2⟩
 ·exact hpE _ _ _ _ (hs.trans (hm.2 h))
theorem many_loop (k : Nat) (hk : k < 300) : ∀ (j i : Nat), i + j = k → ∀ M, j < M →
  fixN (scrutinylaw14_ModelMany_L3 true true (k : Int)) M (textP headC ++ textP (repC i), (if 256 < i then ((21 + 14 * 256 + 1 : Nat) : Int) else -1), (i : Int)) =
   scrutinylaw14_ModelMany_K5 true true (k : Int) (if 256 < k then ((21 + 14 * 256 + 1 : Nat) : Int) else -1) (textP (manyP k))
 | 0, i, hi, M, hM => by
  obtain ⟨m, rfl⟩ : ∃ m, M = m + 1 := ⟨M - 1, by omega⟩
  obtain rfl : i = k := by omega
  rw [fixN_succ]
  unfold scrutinylaw14_ModelMany_L3
  simp only [decide_eq_false (show ¬ (i : Int) < (i : Int) by omega), cond_false, cond_true]
  rw [Sy.chk_t (catB_le (by rw [List.length_append, repC_len, headC_len]; simp; omega)), manyP_text]
 | j + 1, i, hi, M, hM => by
  obtain ⟨m, rfl⟩ : ∃ m, M = m + 1 := ⟨M - 1, by omega⟩
  rw [fixN_succ]
  have ih := many_loop k hk j (i + 1) (by omega) m (by omega)
  have ht : (textP headC ++ textP (repC i)) ++ ctext = textP headC ++ textP (repC (i + 1)) := by rw [repC_text, List.append_assoc]
  have hl : (textP headC ++ textP (repC i)).length = 21 + 14 * i := by rw [List.length_append, repC_len, headC_len]
  generalize fixN (scrutinylaw14_ModelMany_L3 true true (k : Int)) m = again at ih ⊢
  unfold scrutinylaw14_ModelMany_L3
  simp only [decide_eq_true (show (i : Int) < (k : Int) by omega), cond_true]
  have hct : catB (textP headC ++ textP (repC i)) [32, 116, 114, 117, 101, 32, 58, 32, 120, 32, 61, 32, 48, 59] = true := catB_le (by rw [hl]; show 21 + 14 * i + 14 ≤ _; omega)
  simp only [hct, Lx.chk_true]
  have hw : IntKind.i64.wrap ((i : Int) + 1) = ((i + 1 : Nat) : Int) := by rw [w64 (by omega)]; omega
  by_cases h : i = 256
  ·subst h
   rw [show (((256 : Nat) : Int) == 256) = true from rfl, cond_true, hw, hl]
   rw [if_pos (by omega)] at ih
   rw [← ih]
   show again (_ ++ ctext, _, _) = _
   rw [ht, w64 (by omega)]; rfl
  ·rw [show ((i : Int) == 256) = false by simpa using (by omega : (i : Int) ≠ 256), cond_false, hw]
   rw [← ih]
   show again (_ ++ ctext, _, _) = _
   rw [ht]
   by_cases h2 : 256 < i
   ·rw [if_pos h2, if_pos (by omega)]
   ·rw [if_neg h2, if_neg (by omega)]
theorem mod300 {n : Int} (h : 0 ≤ n ∧ n ≤ 65535) : ∃ k : Nat, k < 300 ∧ Int.tmod (IntKind.i64.wrap n) 300 = (k : Int) := by
 obtain ⟨m, rfl⟩ : ∃ m : Nat, n = (m : Int) := ⟨n.toNat, by omega⟩
 rw [w64 (by omega)]
 exact ⟨m % 300, Nat.mod_lt _ (by decide), rfl⟩
theorem many_vars (k : Nat) : scrutinylaw14_ModelMany_K1 false true (Int.tmod (k : Int) 20) = some true := by
 have h := List.all_eq_true.1 vars_all (k % 20) (List.mem_range.2 (Nat.mod_lt _ (by decide)))
 rw [beq_iff_eq] at h
 exact h
theorem many_end (k : Nat) (hk : k < 300) : scrutinylaw14_ModelMany_K5 true true (k : Int) (if 256 < k then ((21 + 14 * 256 + 1 : Nat) : Int) else -1) (textP (manyP k)) = some true := by
 unfold scrutinylaw14_ModelMany_K5
 rw [Parse_m, bind_s, sys_P (manyP_ok k) (by rw [manyP_len]; omega)]
 obtain ⟨h1, h2⟩ := many_sys k
 by_cases h : 256 < k
 ·rw [h2 h, if_pos h]
  simp only [outS, letv_e]
  rfl
 ·obtain ⟨m, hm, hl⟩ := h1 (by omega)
  rw [hm, if_neg h]
  simp only [outS, letv_e, hl]
  rw [show decide ((0 : Int) ≤ -1) = false from rfl]
  simp
theorem many_procs (k : Nat) (hk : k < 300) : scrutinylaw14_ModelMany_K1 true true (k : Int) = some true := by
 unfold scrutinylaw14_ModelMany_K1 scrutinylaw14_ModelMany_K2
 rw [cond_true]
 have hF : k < FUEL := by show k < 2 ^ 64; omega
 generalize FUEL = F at hF ⊢
 have := many_loop k hk k 0 (by omega) F hF
 have e0 : (textP headC ++ textP (repC 0), (if 256 < 0 then ((21 + 14 * 256 + 1 : Nat) : Int) else -1), ((0 : Nat) : Int)) = (([118, 97, 114, 32, 120, 32, 48, 32, 49, 32, 48, 59, 32, 112, 114, 111, 99, 32, 80, 32, 123] : Str), (-1 : Int), (0 : Int)) := rfl
 rw [e0] at this
 rw [this]
 exact many_end k hk
theorem modelMany_true (n : Int) (proc : Bool) (hn : 0 ≤ n ∧ n ≤ 65535) : scrutinylaw14_ModelMany n proc = some true := by
 unfold scrutinylaw14_ModelMany
 rw [shown_true, bind_s]
 obtain ⟨k, hk, he⟩ := mod300 hn
 rw [he]
 cases proc
 ·rw [Bool.not_false, cond_true]
  exact many_vars k
 ·rw [Bool.not_true, cond_false]
  exact many_procs k hk
end Mo
end Go.Proofs.YtdhgpnejphlfpaaDoor
namespace Go.Proofs.YtdhgpnejphlfpaaDoor
open Go.Lib Go.ChangeAt Go.ChangeShapes Go.WideShapes Go.RowKit
theorem laid_at {P : Program} {w : World} : ∀ (l : List (String × DataW Unit)) (ps : List MemPlace), DataW.LaidVars P w l ps → ∀ (i : Nat) (n : String) (d : DataW Unit), l[i]? = some (n, d) →
  ∃ g t cs fuel p, P.globalNamed n = some g ∧ (P.globals[g]?).map (·.type) = some t ∧ w.var? P n = some cs ∧ DataW.trod (fun _ => ()) P w 0 (fun _ => true) false fuel t cs.toList = some (d, p)
 | [], _, _, i, n, d, h => by simp at h
 | (n0, d0) :: l, ps, h, i, n, d, hi => by
  obtain ⟨g, t, cs, fuel, p, q, h1, h2, h3, h4, h5, _⟩ := h
  cases i with
  | zero =>
   simp only [List.getElem?_cons_zero, Option.some.injEq, Prod.mk.injEq] at hi
   obtain ⟨rfl, rfl⟩ := hi
   exact ⟨g, t, cs, fuel, p, h1, h2, h3, h4⟩
  | succ i => exact laid_at l q h5 i n d (by simpa using hi)
theorem cells_of_strs {H : Type} {enc : TypeId × Value → H} {P : Program} {w : World} {base : Nat} {sp : Nat → Bool} {held : Bool} {fuel : Nat} {t e : TypeId} {n : Nat} {cs : List Value} {zs : List Str} {p : List MemPlace}
  (ht : P.underlying t = some (.array n e)) (he : P.underlying e = some .string) (hce : P.cellsOf e = 1) (hct : P.cellsOf t = n)
  (h : DataW.trod enc P w base sp held fuel t cs = some (.agg (zs.map fun z => .lit (.string z)), p)) : cs = zs.map S := by
 cases fuel with
 | zero => simp [DataW.trod] at h
 | succ fuel =>
  simp only [DataW.trod, ht, hce, hct, Nat.mul_one] at h
  split at h
  ·rename_i hl
   obtain ⟨xs, hm, hx⟩ := Option.map_eq_some_iff.1 h
   have hxs : xs.map (·.1) = zs.map fun z => (DataW.lit (.string z) : DataW H) := by
    have := congrArg Prod.fst hx
    simpa using this
   have hxl : xs.length = n := by simpa using mapM_length hm
   have hzl : zs.length = n := by
    have := congrArg List.length hxs
    simp at this
    omega
   apply List.ext_getElem?
   intro i
   by_cases hi : i < n
   ·obtain ⟨b, hb, hf⟩ := mapM_at hm i i (by simp [hi])
    obtain ⟨z, hc, rfl, _⟩ := DataW.trod_string he hf
    have h1 : cs[i]? = some (.string z) := by
     have := congrArg (·[0]?) hc
     simpa [List.getElem?_take, List.getElem?_drop] using this
    have h2 : (xs.map (·.1))[i]? = some (DataW.lit (.string z.data.toList) : DataW H) := by simp [hb]
    rw [hxs] at h2
    simp only [List.getElem?_map, Option.map_eq_some_iff, DataW.lit.injEq, Lit.string.injEq] at h2
    obtain ⟨z', hz', hz2⟩ := h2
    subst hz2
    simp [h1, hz', S]
   ·rw [List.getElem?_eq_none (by omega), List.getElem?_eq_none (by simp; omega)]
  ·cases h
theorem laidMet_of {P : Program} {laid : List (String × DataW Unit)} {w : World} (hf : (laid.filter fun x => x.2.handleName?.isSome) = []) (h : laidMetH P laid w) : laidMet P laid w := by
 unfold laidMetH at h
 rw [hf] at h
 exact h
theorem gl_strs {P : Program} {laid : List (String × DataW Unit)} {w : World} {Γ : Ctx} (h : laidMet P laid w) (i : Nat) {n : String} {zs : List Str} {g : Nat} {t e : TypeId} {k : Nat}
  (hi : laid[i]? = some (n, .agg (zs.map fun z => .lit (.string z)))) (hg : P.globalNamed n = some g) (hty : (P.globals[g]?).map (·.type) = some t)
  (ht : P.underlying t = some (.array k e)) (he : P.underlying e = some .string) (hce : P.cellsOf e = 1) (hct : P.cellsOf t = k) (hM : ¬ Γ.M g) : (gl g (zs.map S)).P Γ.M w := by
 obtain ⟨ps, hl, _⟩ := h
 obtain ⟨g', t', cs, fuel, p, hg', ht', hv, hd⟩ := laid_at _ _ hl i n _ hi
 obtain rfl := Option.some.inj (hg.symm.trans hg')
 obtain rfl := Option.some.inj (hty.symm.trans ht')
 have e1 := cells_of_strs ht he hce hct hd
 refine ⟨hM, ?_⟩
 unfold World.var? at hv
 rw [hg] at hv
 simp only [Option.bind_some] at hv
 split at hv
 ·rename_i c ty fr hb
  obtain rfl := Option.some.inj hv
  exact ⟨ty, fr, by rw [hb, ← e1]⟩
 ·cases hv
theorem gl_ints {P : Program} {laid : List (String × DataW Unit)} {w : World} {Γ : Ctx} (h : laidMet P laid w) (i : Nat) {n : String} {kd : IntKind} {zs : List Int} {g : Nat} {t e : TypeId} {k : Nat}
  (hi : laid[i]? = some (n, tabData kd zs)) (hg : P.globalNamed n = some g) (hty : (P.globals[g]?).map (·.type) = some t)
  (ht : P.underlying t = some (.array k e)) (he : P.underlying e = some (.int kd)) (hce : P.cellsOf e = 1) (hct : P.cellsOf t = k) (hM : ¬ Γ.M g) : (gl g (zs.map (Value.int kd))).P Γ.M w := by
 obtain ⟨ps, hl, _⟩ := h
 obtain ⟨g', t', cs, fuel, p, hg', ht', hv, hd⟩ := laid_at _ _ hl i n _ hi
 obtain rfl := Option.some.inj (hg.symm.trans hg')
 obtain rfl := Option.some.inj (hty.symm.trans ht')
 have e1 := cells_of_tab ht he hce hct hd
 refine ⟨hM, ?_⟩
 unfold World.var? at hv
 rw [hg] at hv
 simp only [Option.bind_some] at hv
 split at hv
 ·rename_i c ty fr hb
  obtain rfl := Option.some.inj hv
  exact ⟨ty, fr, by rw [hb, ← e1]⟩
 ·cases hv
/-! the row at the start: nothing is owned -/
def NoM (Γ : Ctx) : Prop := ∀ b, ¬ Γ.M b
theorem noM_nil : NoM [] := fun b h => by obtain ⟨it, h, _⟩ := h; cases h
theorem noM_cons {it : Item} {Γ : Ctx} (hp : it.own = []) (h : NoM Γ) : NoM (it :: Γ) := fun b hb => by
 rcases Ctx.M_cons.1 hb with h1 | h1
 ·rw [hp] at h1; cases h1
 ·exact h b h1
theorem sat_start (w : World) : Sat [kept w (fun _ => False)] w := Sat.nil.add rfl ⟨SameEnv.refl w, Nat.le_refl _, fun b _ _ => ⟨noM_nil b, rfl⟩⟩
theorem noM_start (w : World) : NoM [kept w (fun _ => False)] := noM_cons rfl noM_nil
theorem below_end {w w' : World} {Γ : Ctx} {i : Nat} (h : Sat Γ w') (hi : Γ[i]? = some (kept w (fun _ => False))) : Below w.heap.size w w' := by
 obtain ⟨h1, h2, h3⟩ := h.kept hi
 exact ⟨h1.os, h1.tape, h1.output, h2, fun k hk => (h3 k hk (fun h => h)).2⟩
end Go.Proofs.YtdhgpnejphlfpaaDoor
