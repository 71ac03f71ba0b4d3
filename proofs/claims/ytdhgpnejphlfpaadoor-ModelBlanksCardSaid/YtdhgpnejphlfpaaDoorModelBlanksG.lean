/-
  Own texts for the statement ModelBlanks, cut down to what it needs: PrRead, PrRead2, SysErr, TrType, MoA, MoB, MoBlk, TrSame, MoSame, MoC, MoD, MoE, MoShown, MoRange, MoBlanksP, KFr. (cut and joined by a program)
-/
import Derived.Test.YtdhgpnejphlfpaaDoorModelBlanksA
import Derived.Test.YtdhgpnejphlfpaaDoorModelBlanksB
import Derived.Test.YtdhgpnejphlfpaaDoorModelBlanksC
import Derived.Test.YtdhgpnejphlfpaaDoorModelBlanksD
import Derived.Test.YtdhgpnejphlfpaaDoorModelBlanksE
import Derived.Test.YtdhgpnejphlfpaaDoorModelBlanksF
import Derived.Lib.LaidTab
import Derived.Below
import Derived.WalkKit
import Derived.ProofKit
namespace Go.Proofs.YtdhgpnejphlfpaaDoor
namespace Pa
open Job
abbrev R5 := Ex × Int × Int × Int × Int
theorem bind_eta (x : Option R5) : (x.bind fun r => some (r.1, r.2.1, r.2.2.1, r.2.2.2.1, r.2.2.2.2)) = x := by cases x <;> rfl
theorem drop_cons {l : List Tok} {k : Nat} {t : Tok} {r : List Tok} (h : l.drop k = t :: r) : idx l (k : Int) = some t ∧ l.drop (k + 1) = r ∧ k < l.length := by
 have hk : k < l.length := by
  by_cases hk : k < l.length
  ·exact hk
  ·rw [List.drop_eq_nil_of_le (by omega)] at h; cases h
 rw [List.drop_eq_getElem_cons hk] at h
 cases h
 refine ⟨?_, rfl, hk⟩
 simp [idx, List.getElem?_eq_getElem hk]
theorem idx_of_lt {l : List Tok} {k : Nat} (h : k < l.length) : ∃ t, idx l (k : Int) = some t := ⟨l[k], by simp [idx, List.getElem?_eq_getElem h]⟩
/-! is: one of these parts? -/
def isR : Option Int → Int × Bool
 | some k => (k, true)
 | none => (0, false)
theorem int_mid {l pre r : List Int} {x : Int} (h : l = pre ++ x :: r) : idx l (pre.length : Int) = some x := by subst h; simp [idx]
theorem int_t {l pre r : List Int} {x : Int} (h : l = pre ++ x :: r) : decide ((pre.length : Int) < (List.length l : Int)) = true := by subst h; simp; omega
theorem int_f {l pre : List Int} (h : l = pre ++ []) : decide ((pre.length : Int) < (List.length l : Int)) = false := by subst h; simp
theorem is_loop {l : List Int} (ho : ∀ o ∈ l, 1 ≤ o ∧ o ≤ 24) (hl : l.length < 4611686018427387904) (t : Tok) : ∀ (r pre : List Int), l = pre ++ r → ∀ (M : Nat), r.length < M →
  fixN (expr_read_is_s3_L1 l t) M (pre.length : Int) = some (isR (r.find? (fun o => txtT o == t.2.1)))
 | [], pre, h, M, hM => by
  obtain ⟨m, rfl⟩ : ∃ m, M = m + 1 := ⟨M - 1, by simp at hM; omega⟩
  rw [fixN_succ]
  simp only [expr_read_is_s3_L1, int_f h, cond_false]
  rfl
 | x :: r, pre, h, M, hM => by
  obtain ⟨m, rfl⟩ : ∃ m, M = m + 1 := ⟨M - 1, by omega⟩
  rw [fixN_succ]
  have hlen : pre.length < 4611686018427387904 := by rw [h] at hl; simp at hl; omega
  have ih := is_loop ho hl t r (pre ++ [x]) (by rw [h]; simp) m (by simp at hM; omega)
  rw [show ((pre ++ [x]).length : Int) = ((pre.length + 1 : Nat) : Int) by simp] at ih
  have hx := ho x (by rw [h]; simp)
  simp only [expr_read_is_s3_L1, int_t h, cond_true, int_mid h, bind_s, idx_txt hx.1 hx.2, next_ix hlen]
  cases hv : (txtT x == t.2.1)
  ·simp only [cond_false]
   rw [ih, List.find?_cons, hv]
  ·simp only [cond_true]
   rw [List.find?_cons, hv]; rfl
theorem is_eq {l : List Int} (ho : ∀ o ∈ l, 1 ≤ o ∧ o ≤ 24) (hl : l.length < 4611686018427387904) {ts : List Tok} {a : Int} {t : Tok} (h : idx ts a = some t) (names : List Str) (d b p : Int) : expr_read_is_s3 l ts a names d b p = some (isR (fnd l t)) := by
 unfold expr_read_is_s3 expr_read_next_s3
 rw [h]
 simp only [bind_s, letv_e, Key_eq]
 have hi := is_loop ho hl t l [] rfl FUEL (by show l.length < 2 ^ 64; omega)
 have hi : fixN (expr_read_is_s3_L1 l t) FUEL 0 = some (isR (l.find? (fun o => txtT o == t.2.1))) := hi
 rw [hi]
 unfold fnd sgn key
 cases h3 : (t.1 == 3)
 ·have : (t.1 != 3) = true := by simp [bne, h3]
  rw [this]
  cases h1 : (t.1 == 1)
  ·rfl
  ·simp only [Bool.true_and, callG_tt, bind_s, Bool.false_or]
   cases hk : keysT.contains t.2.1 <;> rfl
 ·have : (t.1 != 3) = false := by simp [bne, h3]
  rw [this]
  simp only [Bool.false_and, callG_ff, cond_false, Bool.true_or, cond_true]
theorem ops_ok : ∀ s : Nat, (∀ o ∈ ops s, 1 ≤ o ∧ o ≤ 24) ∧ (ops s).length < 4611686018427387904 := by
 intro s
 unfold ops
 split <;> (refine ⟨?_, ?_⟩ <;> simp)
theorem is_op (s : Nat) {ts : List Tok} {a : Int} {t : Tok} (h : idx ts a = some t) (names : List Str) (d b p : Int) : expr_read_is_s3 (ops s) ts a names d b p = some (isR (opOf s t)) := is_eq (ops_ok s).1 (ops_ok s).2 h names d b p
theorem next_eq {ts : List Tok} {a : Int} {t : Tok} (h : idx ts a = some t) (names : List Str) (d b p : Int) : expr_read_next_s3 ts a names d b p = some t := by unfold expr_read_next_s3; rw [h]; rfl
theorem fail_eq {ts : List Tok} {a : Int} {t : Tok} (h : idx ts a = some t) (names : List Str) (e d p : Int) : expr_read_fail_s3 e ts a names d 0 p = some (.mk 0 0 0 [], e, t.2.2.2) := by unfold expr_read_fail_s3; rw [h]; rfl
/-! what is to be shown -/
def Rs (l : List Tok) (d pl : Int) : Out → Option R5 → Prop
 | .ok p, m => ∃ k : Nat, l.drop k = p.2 ∧ m = some (p.1, (k : Int), d, 0, pl)
 | .error e, m => ∃ (x : Ex) (k : Nat), k < l.length ∧ m = some (x, (k : Int), d, e.1, e.2)
def Snd (names : List Str) (l : List Tok) (j : Job) (d : Int) (ts : List Tok) (pl : Int) (m : Option R5) : Prop := ∃ r, P names j d ts r ∧ Rs l d pl r m
def SndI (names : List Str) (l : List Tok) (s : Nat) (D : Int) (ts : List Tok) (pl : Int) (m : Option R5) : Prop :=
 ∃ r, (∀ d, dn s d = D → deepB s d = false → P names (line s) d ts r) ∧ Rs l D pl r m
theorem err_ne {names : List Str} {j : Job} {d : Int} {ts : List Tok} {e : Int × Int} (h : P names j d ts (.error e)) : (e.1 != 0) = true := by
 have := h.err e rfl
 simp only [bne_iff_ne, ne_eq]
 omega
theorem err_eq {names : List Str} {j : Job} {d : Int} {ts : List Tok} {e : Int × Int} (h : P names j d ts (.error e)) : (e.1 == 0) = false := by
 have := h.err e rfl
 simp only [beq_eq_false_iff_ne, ne_eq]
 omega
def gRight (names : List Str) (l : List Tok) (ops : List Int) (one : Option R5) (whole : Int → Int → Int → Int → Option R5) : Option R5 :=
 one.bind fun r11 =>
 (expr_read_is_s3 ops l r11.2.1 names r11.2.2.1 r11.2.2.2.1 r11.2.2.2.2).bind fun r19 =>
 letv (r11.2.2.2.1 != 0) fun b22 =>
 letv (!r19.2) fun b24 =>
 letv (b22 || b24) fun b26 =>
 bif b26 then (
 some (r11.1, r11.2.1, r11.2.2.1, r11.2.2.2.1, r11.2.2.2.2))
 else (
 (expr_read_next_s3 l r11.2.1 names r11.2.2.1 r11.2.2.2.1 r11.2.2.2.2).bind fun r30 =>
 (whole (IntKind.i64.wrap (r11.2.1 + 1)) r11.2.2.1 r11.2.2.2.1 r11.2.2.2.2).bind fun r37 =>
 some ((Ex.mk r19.1 0 r30.2.2.2 ([r11.1, r37.1] : List Ex)), r37.2.1, r37.2.2.1, r37.2.2.2.1, r37.2.2.2.2))
theorem snd_right {names : List Str} {l : List Tok} {s : Nat} (hk : kd s = 1) {D pl : Int} {ts : List Tok} {one : Option R5} {whole : Int → Int → Int → Int → Option R5} (hl : l.length < 4611686018427387904)
  (he : Ends ts) (h1 : Snd names l (line (s + 1)) D ts pl one)
  (h2 : ∀ k : Nat, Ends (l.drop k) → (l.drop k).length < ts.length → Snd names l (line (nx s)) D (l.drop k) pl (whole (k : Int) D 0 pl)) :
  SndI names l s D ts pl (gRight names l (ops s) one whole) := by
 obtain ⟨r, hp, hr⟩ := h1
 cases r with
 | error e =>
  obtain ⟨x, k1, hk1, rfl⟩ := hr
  refine ⟨.error e, fun d hd hb => .rErr hk hb (by rw [hd]; exact hp), x, k1, hk1, ?_⟩
  obtain ⟨t, ht⟩ := idx_of_lt hk1
  simp only [gRight, bind_s, is_op s ht, letv_e, err_ne hp, Bool.true_or, cond_true]
 | ok p =>
  obtain ⟨a, ts1⟩ := p
  obtain ⟨k1, hk1, rfl⟩ := hr
  obtain ⟨e1, e2⟩ := hp.ends he _ rfl
  obtain ⟨t, r1, rfl⟩ := e1.ne
  obtain ⟨ht, hd1, hlt⟩ := drop_cons hk1
  cases ho : opOf s t with
  | none =>
   refine ⟨.ok (a, t :: r1), fun d hd hb => .rOne hk hb (by rw [hd]; exact hp) ho, k1, hk1, ?_⟩
   simp only [gRight, bind_s, is_op s ht, letv_e, ho, isR, Bool.not_false, Bool.or_true, cond_true]
  | some k =>
   have hw := next_ix (n := k1) (by omega)
   obtain ⟨r2, hp2, hr2⟩ := h2 (k1 + 1) (by rw [hd1]; exact e1.tail (op_ne ho)) (by rw [hd1]; simp only [shorter, List.length_cons] at e2; omega)
   rw [hd1] at hp2
   refine ⟨two' k t.2.2.2 a r2, fun d hd hb => .rTwo hk hb (by rw [hd]; exact hp) ho (by rw [hd]; exact hp2), ?_⟩
   have hz : ((0 : Int) != 0) = false := rfl
   cases r2 with
   | error e =>
    obtain ⟨x, k2, hk2, hm⟩ := hr2
    refine ⟨.mk k 0 t.2.2.2 [a, x], k2, hk2, ?_⟩
    simp only [gRight, bind_s, is_op s ht, letv_e, ho, isR, hz, Bool.not_true, Bool.or_false, cond_false, next_eq ht, hw, hm]
   | ok p =>
    obtain ⟨k2, hk2, hm⟩ := hr2
    refine ⟨k2, hk2, ?_⟩
    simp only [gRight, bind_s, is_op s ht, letv_e, ho, isR, hz, Bool.not_true, Bool.or_false, cond_false, next_eq ht, hw, hm]
def gBefore (names : List Str) (l : List Tok) (ops : List Int) (at_ deep bad place : Int) (other : Option R5) (same : Int → Int → Int → Int → Option R5) : Option R5 :=
 (expr_read_is_s3 ops l at_ names deep bad place).bind fun r11 =>
 bif (!r11.2) then (
 other.bind fun r15 =>
 some (r15.1, r15.2.1, r15.2.2.1, r15.2.2.2.1, r15.2.2.2.2))
 else (
 (expr_read_next_s3 l at_ names deep bad place).bind fun r21 =>
 (same (IntKind.i64.wrap (at_ + 1)) deep bad place).bind fun r30 =>
 some ((Ex.mk r11.1 0 r21.2.2.2 ([r30.1] : List Ex)), r30.2.1, r30.2.2.1, r30.2.2.2.1, r30.2.2.2.2))
theorem snd_before {names : List Str} {l : List Tok} {s : Nat} (hk : kd s = 0) {D pl : Int} {a : Nat} {other : Option R5} {same : Int → Int → Int → Int → Option R5} (hl : l.length < 4611686018427387904)
  (he : Ends (l.drop a)) (h1 : Snd names l (line (s + 1)) D (l.drop a) pl other)
  (h2 : ∀ k : Nat, Ends (l.drop k) → (l.drop k).length < (l.drop a).length → Snd names l (line s) D (l.drop k) pl (same (k : Int) D 0 pl)) :
  SndI names l s D (l.drop a) pl (gBefore names l (ops s) (a : Int) D 0 pl other same) := by
 obtain ⟨t, r1, hts⟩ := he.ne
 obtain ⟨ht, hd1, hlt⟩ := drop_cons hts
 cases ho : opOf s t with
 | none =>
  obtain ⟨r, hp, hr⟩ := h1
  have hg : gBefore names l (ops s) (a : Int) D 0 pl other same = other := by
   simp only [gBefore, is_op s ht, ho, isR, bind_s, Bool.not_false, cond_true, bind_eta]
  rw [hg]
  refine ⟨r, fun d hd hb => ?_, hr⟩
  rw [hts] at hp ⊢
  exact .other hk hb ho (by rw [hd]; exact hp)
 | some k =>
  have hw := next_ix (n := a) (by omega)
  rw [hts] at he
  obtain ⟨r2, hp2, hr2⟩ := h2 (a + 1) (by rw [hd1]; exact he.tail (op_ne ho)) (by rw [hd1, hts]; simp)
  rw [hd1] at hp2
  refine ⟨one' k t.2.2.2 r2, fun d hd hb => by rw [hts]; exact .pre hk hb ho (by rw [hd]; exact hp2), ?_⟩
  cases r2 with
  | error e =>
   obtain ⟨x, k2, hk2, hm⟩ := hr2
   refine ⟨.mk k 0 t.2.2.2 [x], k2, hk2, ?_⟩
   simp only [gBefore, is_op s ht, ho, isR, bind_s, Bool.not_true, cond_false, next_eq ht, hw, hm]
  | ok p =>
   obtain ⟨k2, hk2, hm⟩ := hr2
   refine ⟨k2, hk2, ?_⟩
   simp only [gBefore, is_op s ht, ho, isR, bind_s, Bool.not_true, cond_false, next_eq ht, hw, hm]
def gLower (names : List Str) (l : List Tok) (at_ deep bad place : Int) (by_ : Int → Option R5) : Option R5 :=
 bif (decide (320 ≤ deep)) then (
 (expr_read_fail_s3 9 l at_ names deep bad place).bind fun r12 =>
 some (r12.1, at_, deep, r12.2.1, r12.2.2))
 else (
 (by_ (IntKind.i64.wrap (deep + 1))).bind fun r19 =>
 some (r19.1, r19.2.1, (IntKind.i64.wrap (r19.2.2.1 - 1)), r19.2.2.2.1, r19.2.2.2.2))
theorem snd_lower {names : List Str} {l : List Tok} {s : Nat} (hc : counted s = true) {d pl : Int} {a : Nat} {by_ : Int → Option R5} (h0 : 0 ≤ d) (h3 : d ≤ 320)
  (he : Ends (l.drop a)) (h1 : d < 320 → SndI names l s (d + 1) (l.drop a) pl (by_ (d + 1))) :
  Snd names l (line s) d (l.drop a) pl (gLower names l (a : Int) d 0 pl by_) := by
 obtain ⟨t, r1, hts⟩ := he.ne
 obtain ⟨ht, hd1, hlt⟩ := drop_cons hts
 have hw : IntKind.i64.wrap (d + 1) = d + 1 := w64 (by omega)
 have hw2 : IntKind.i64.wrap (d + 1 - 1) = d := by rw [show d + 1 - 1 = d by omega]; exact w64 (by omega)
 unfold gLower
 cases hd : decide (320 ≤ d)
 ·have hdb : deepB s d = false := by unfold deepB; rw [hd, Bool.and_false]
  obtain ⟨r, hp, hr⟩ := h1 (by simp only [decide_eq_false_iff_not] at hd; omega)
  refine ⟨r, hp d (by unfold dn; rw [hc]; rfl) hdb, ?_⟩
  cases r with
  | error e =>
   obtain ⟨x, k2, hk2, hm⟩ := hr
   refine ⟨x, k2, hk2, ?_⟩
   simp only [cond_false, hw, hm, bind_s, hw2]
  | ok p =>
   obtain ⟨k2, hk2, hm⟩ := hr
   refine ⟨k2, hk2, ?_⟩
   simp only [cond_false, hw, hm, bind_s, hw2]
 ·refine ⟨.error (9, t.2.2.2), by rw [hts]; exact .big (by unfold deepB; rw [hc, hd]; rfl), .mk 0 0 0 [], a, hlt, ?_⟩
  simp only [cond_true, fail_eq ht, bind_s]
abbrev R8 := Int × Int × Int × Int × Int × Int × Int × (List Ex)
def gLeft_L1 (names : List Str) (l : List Tok) (ops : List Int) (one : Int → Int → Int → Int → Option R5) (again30 : R8 → Option R5) : R8 → Option R5 := fun ⟨c20, c21, c22, c23, c24, c25, c26, c27⟩ =>
 bif (c22 == 0) then (
 (expr_read_is_s3 ops l c20 names c21 c22 c23).bind fun r32 =>
 bif (!r32.2) then (
 some ((Ex.mk c24 c25 c26 c27), c20, c21, c22, c23))
 else (
 (expr_read_next_s3 l c20 names c21 c22 c23).bind fun r37 =>
 (one (IntKind.i64.wrap (c20 + 1)) c21 c22 c23).bind fun r44 =>
 again30 (r44.2.1, r44.2.2.1, r44.2.2.2.1, r44.2.2.2.2, r32.1, 0, r37.2.2.2, ([(Ex.mk c24 c25 c26 c27), r44.1] : List Ex))))
 else (
 some ((Ex.mk c24 c25 c26 c27), c20, c21, c22, c23))
def gLeft (names : List Str) (l : List Tok) (ops : List Int) (first : Option R5) (one : Int → Int → Int → Int → Option R5) : Option R5 :=
 first.bind fun r11 =>
 fixN (gLeft_L1 names l ops one) FUEL (r11.2.1, r11.2.2.1, r11.2.2.2.1, r11.2.2.2.2, r11.1.op, r11.1.n, r11.1.at_, r11.1.l)
theorem snd_loop {names : List Str} {l : List Tok} {s : Nat} {d pl : Int} {one : Int → Int → Int → Int → Option R5} (hl : l.length < 4611686018427387904) (N : Nat)
  (h2 : ∀ k : Nat, Ends (l.drop k) → (l.drop k).length < N → Snd names l (line (s + 1)) d (l.drop k) pl (one (k : Int) d 0 pl)) : ∀ (n k : Nat) (a : Ex), Ends (l.drop k) → (l.drop k).length ≤ N → (l.drop k).length ≤ n →
  Snd names l (loop s a) d (l.drop k) pl (fixN (gLeft_L1 names l (ops s) one) (n + 1) ((k : Int), d, 0, pl, a.op, a.n, a.at_, a.l)) := by
 intro n
 induction n with
 | zero =>
  intro k a he _ hn
  obtain ⟨t, r1, hts⟩ := he.ne
  rw [hts] at hn; simp at hn
 | succ n ih =>
  intro k a he hN hn
  obtain ⟨t, r1, hts⟩ := he.ne
  obtain ⟨ht, hd1, hlt⟩ := drop_cons hts
  have hz : ((0 : Int) == 0) = true := rfl
  rw [fixN_succ]
  cases ho : opOf s t with
  | none =>
   refine ⟨.ok (a, t :: r1), by rw [hts]; exact .lpEnd ho, k, hts, ?_⟩
   simp only [gLeft_L1, hz, cond_true, is_op s ht, ho, isR, bind_s, Bool.not_false, Ex.eta]
  | some o =>
   have hw := next_ix (n := k) (by omega)
   have he1 := he
   rw [hts] at he1
   have hlen : (l.drop (k + 1)).length + 1 = (l.drop k).length := by rw [hd1, hts]; rfl
   obtain ⟨r2, hp2, hr2⟩ := h2 (k + 1) (by rw [hd1]; exact he1.tail (op_ne ho)) (by omega)
   rw [hd1] at hp2
   cases r2 with
   | error e =>
    obtain ⟨x, k2, hk2, hm⟩ := hr2
    refine ⟨.error e, by rw [hts]; exact .lpErr ho hp2, .mk o 0 t.2.2.2 [a, x], k2, hk2, ?_⟩
    obtain ⟨m, rfl⟩ : ∃ m, n = m := ⟨n, rfl⟩
    simp only [gLeft_L1, hz, cond_true, is_op s ht, ho, isR, bind_s, Bool.not_true, cond_false, next_eq ht, hw, hm, Ex.eta]
    rw [fixN_succ]
    simp only [gLeft_L1, err_eq hp2, cond_false]
   | ok p =>
    obtain ⟨b, ts2⟩ := p
    obtain ⟨k2, hk2, hm⟩ := hr2
    obtain ⟨i1, i2⟩ := hp2.ends (he1.tail (op_ne ho)) _ rfl
    simp only [shorter] at i2
    simp only at hk2
    obtain ⟨r, hp, hr⟩ := ih k2 (.mk o 0 t.2.2.2 [a, b]) (by rw [hk2]; exact i1) (by rw [hk2]; rw [← hd1] at i2; omega) (by rw [hk2]; rw [← hd1] at i2; omega)
    rw [hk2] at hp
    refine ⟨r, by rw [hts]; exact .lpGo ho hp2 hp, ?_⟩
    simp only [gLeft_L1, hz, cond_true, is_op s ht, ho, isR, bind_s, Bool.not_true, cond_false, next_eq ht, hw, hm, Ex.eta]
    exact hr
theorem snd_left {names : List Str} {l : List Tok} {s : Nat} (hk : kd s = 2) {d pl : Int} {ts : List Tok} {first : Option R5} {one : Int → Int → Int → Int → Option R5} (hl : l.length < 4611686018427387904)
  (he : Ends ts) (hts : ts.length ≤ l.length) (h1 : Snd names l (line (s + 1)) d ts pl first)
  (h2 : ∀ k : Nat, Ends (l.drop k) → (l.drop k).length < ts.length → Snd names l (line (s + 1)) d (l.drop k) pl (one (k : Int) d 0 pl)) :
  Snd names l (line s) d ts pl (gLeft names l (ops s) first one) := by
 obtain ⟨r, hp, hr⟩ := h1
 unfold gLeft
 cases r with
 | error e =>
  obtain ⟨x, k1, hk1, rfl⟩ := hr
  refine ⟨.error e, .lErr hk hp, x, k1, hk1, ?_⟩
  rw [bind_s, show FUEL = 18446744073709551615 + 1 from rfl, fixN_succ]
  simp only [gLeft_L1, err_eq hp, cond_false, Ex.eta]
 | ok p =>
  obtain ⟨a, ts1⟩ := p
  obtain ⟨k1, hk1, rfl⟩ := hr
  obtain ⟨e1, e2⟩ := hp.ends he _ rfl
  simp only at hk1 e1 e2
  subst hk1
  simp only [shorter] at e2
  obtain ⟨r, hp2, hr2⟩ := snd_loop (s := s) (d := d) (pl := pl) (one := one) hl ts.length h2 18446744073709551615 k1 a e1 (by omega) (by omega)
  exact ⟨r, .lGo hk hp hp2, hr2⟩
theorem at_loop {s : List Str} {v : Str} (hl : s.length < 4611686018427387904) : ∀ (r pre : List Str), s = pre ++ r → ∀ (M : Nat), r.length < M →
  fixN (slices_Index_string_string_s2_L1 s v) M (pre.length : Int) = some (match r.findIdx? (fun x => v == x) with | some i => ((pre.length + i : Nat) : Int) | none => -1)
 | [], pre, h, M, hM => by
  obtain ⟨m, rfl⟩ : ∃ m, M = m + 1 := ⟨M - 1, by simp at hM; omega⟩
  rw [fixN_succ]
  simp only [slices_Index_string_string_s2_L1, str_f h, cond_false]
  rfl
 | x :: r, pre, h, M, hM => by
  obtain ⟨m, rfl⟩ : ∃ m, M = m + 1 := ⟨M - 1, by omega⟩
  rw [fixN_succ]
  have hlen : pre.length < 4611686018427387904 := by rw [h] at hl; simp at hl; omega
  have ih := at_loop (v := v) hl r (pre ++ [x]) (by rw [h]; simp) m (by simp at hM; omega)
  rw [show ((pre ++ [x]).length : Int) = ((pre.length + 1 : Nat) : Int) by simp] at ih
  simp only [slices_Index_string_string_s2_L1, str_t h, cond_true, str_mid h, bind_s, next_ix hlen]
  cases hv : (v == x)
  ·simp only [cond_false]
   rw [ih, List.findIdx?_cons, hv]
   cases hf : r.findIdx? (fun x => v == x) with
   | none => rfl
   | some i =>
    simp only [List.length_append, List.length_cons, List.length_nil, Bool.false_eq_true, if_false, Option.map_some]
    congr 2; omega
  ·simp only [cond_true]
   rw [List.findIdx?_cons, hv]; rfl
theorem index_eq {s : List Str} (hl : s.length < 4611686018427387904) (v : Str) : slices_Index_string_string_s2 s v = some (match at_ s v with | some i => (i : Int) | none => -1) := by
 have := at_loop (v := v) hl s [] rfl FUEL (by show s.length < 2 ^ 64; omega)
 unfold slices_Index_string_string_s2 at_
 rw [show fixN (slices_Index_string_string_s2_L1 s v) FUEL 0 = _ from this]
 cases s.findIdx? (fun x => v == x) with
 | none => rfl
 | some i => simp
theorem snd_one {names : List Str} (hn : names.length < 4611686018427387904) {l : List Tok} {d pl : Int} {a : Nat} {k} (hl : l.length < 4611686018427387904)
  (he : Ends (l.drop a)) (h2 : ∀ b : Nat, Ends (l.drop b) → (l.drop b).length < (l.drop a).length → Snd names l (line 1) d (l.drop b) pl (k (l, (b : Int), names, d, 0, pl))) :
  Snd names l (line 11) d (l.drop a) pl (expr_read_one_s3 k l (a : Int) names d 0 pl) := by
 obtain ⟨t, r1, hts⟩ := he.ne
 obtain ⟨ht, hd1, hlt⟩ := drop_cons hts
 have hw := next_ix (n := a) (by omega)
 have hz : ((0 : Int) != 0) = false := rfl
 have hz' : ((0 : Int) == 0) = true := rfl
 have he1 := he
 rw [hts] at he1
 unfold expr_read_one_s3
 have hio : expr_read_is_s3 ([13, 14] : List Int) l (a : Int) names d 0 pl = some (isR (opOf 11 t)) := is_op 11 ht names d 0 pl
 simp only [hz, cond_false, next_eq ht, bind_s, hio]
 cases ho : opOf 11 t with
 | some o =>
  refine ⟨.ok (.mk o 0 t.2.2.2 [], r1), by rw [hts]; exact .oWord rfl ho, a + 1, hd1, ?_⟩
  simp only [isR, cond_true, hw]
 | none =>
  simp only [isR, cond_false]
  cases h2' : (t.1 == 2)
  ·simp only [cond_false, letv_e, Key_eq]
   cases hnm : name_ t
   ·have hgo : (callG (t.1 == 1) default (some (keysT.contains t.2.1)) fun r32 => letv (!r32) fun b38 => letv ((t.1 == 1) && b38) fun b40 => (some b40 : Option Bool)) = some false := by
     unfold name_ key at hnm
     cases h1 : (t.1 == 1)
     ·rfl
     ·rw [h1, Bool.true_and] at hnm; simp only [callG_tt, bind_s, letv_e, hnm, Bool.and_false]
    have hgo' : ∀ (f : Bool → Option R5), (callG (t.1 == 1) default (some (keysT.contains t.2.1)) fun r32 => f ((t.1 == 1) && !r32)) = f false := by
     intro f
     unfold name_ key at hnm
     cases h1 : (t.1 == 1)
     ·rfl
     ·rw [h1, Bool.true_and] at hnm; simp only [callG_tt, bind_s, hnm, Bool.and_false]
    rw [hgo' (fun b => bif b then _ else _)]
    simp only [cond_false]
    cases hop : open_ t
    ·have hop' : ((t.1 == 3) && (t.2.1 == [40])) = false := hop
     rw [hop']
     refine ⟨.error (2, t.2.2.2), by rw [hts]; exact .oForm rfl ho h2' hnm hop, .mk 0 0 0 [], a, hlt, ?_⟩
     simp only [cond_false, fail_eq ht, bind_s]
    ·have hop' : ((t.1 == 3) && (t.2.1 == [40])) = true := hop
     rw [hop']
     simp only [cond_true, hw]
     have h4 : t.1 ≠ 4 := by unfold open_ at hop; simp only [Bool.and_eq_true, beq_iff_eq] at hop; omega
     obtain ⟨r2, hp2, hr2⟩ := h2 (a + 1) (by rw [hd1]; exact he1.tail h4) (by rw [hd1, hts]; simp)
     rw [hd1] at hp2
     cases r2 with
     | error e =>
      obtain ⟨x, k2, hk2, hm⟩ := hr2
      refine ⟨.error e, by rw [hts]; exact .oErr rfl ho h2' hnm hop hp2, x, k2, hk2, ?_⟩
      simp only [hm, bind_s, err_eq hp2, Bool.false_and, callG_ff, cond_false]
     | ok p =>
      obtain ⟨x, ts2⟩ := p
      obtain ⟨k2, hk2, hm⟩ := hr2
      obtain ⟨i1, i2⟩ := hp2.ends (he1.tail h4) _ rfl
      obtain ⟨c, r3, rfl⟩ := i1.ne
      obtain ⟨hc, hd2, hlt2⟩ := drop_cons hk2
      simp only [hm, bind_s, hz', callG_tt, next_eq hc, Bool.true_and]
      have hw2 := next_ix (n := k2) (by omega)
      cases hcl : close_ c
      ·refine ⟨.error (2, c.2.2.2), by rw [hts]; exact .oClose rfl ho h2' hnm hop hp2 hcl, .mk 0 0 0 [], k2, hlt2, ?_⟩
       unfold close_ at hcl
       cases h3 : (c.1 == 3)
       ·have : (c.1 != 3) = true := by simp [bne, h3]
        simp only [this, Bool.not_true, callG_ff, Bool.true_or, cond_true, fail_eq hc, bind_s]
       ·have : (c.1 != 3) = false := by simp [bne, h3]
        rw [h3, Bool.true_and] at hcl
        have h41 : (c.2.1 != [41]) = true := by simp [bne, hcl]
        simp only [this, Bool.not_false, callG_tt, bind_s, h41, Bool.or_true, cond_true, fail_eq hc]
      ·refine ⟨.ok (x, r3), by rw [hts]; exact .oOpen rfl ho h2' hnm hop hp2 hcl, k2 + 1, hd2, ?_⟩
       unfold close_ at hcl
       simp only [Bool.and_eq_true] at hcl
       have h3 : (c.1 != 3) = false := by simp only [bne, hcl.1, Bool.not_true]
       have h41 : (c.2.1 != [41]) = false := by simp only [bne, hcl.2, Bool.not_true]
       simp only [h3, Bool.not_false, callG_tt, bind_s, h41, Bool.or_false, cond_false, cond_true, hw2]
   ·have hgo' : ∀ (f : Bool → Option R5), (callG (t.1 == 1) default (some (keysT.contains t.2.1)) fun r32 => f ((t.1 == 1) && !r32)) = f true := by
     intro f
     unfold name_ key at hnm
     simp only [Bool.and_eq_true] at hnm
     rw [hnm.1]
     simp only [callG_tt, bind_s, hnm.2, Bool.and_self]
    rw [hgo' (fun b => bif b then _ else _)]
    simp only [cond_true, index_eq hn, bind_s]
    cases hat : at_ names t.2.1 with
    | none =>
     refine ⟨.error (3, t.2.2.2), by rw [hts]; exact .oName rfl ho h2' hnm hat, .mk 0 0 0 [], a, hlt, ?_⟩
     simp only [show decide ((-1 : Int) < 0) = true from rfl, cond_true, fail_eq ht, bind_s]
    | some i =>
     refine ⟨.ok (.mk 2 (i : Int) t.2.2.2 [], r1), by rw [hts]; exact .oVar rfl ho h2' hnm hat, a + 1, hd1, ?_⟩
     have : decide (((i : Nat) : Int) < 0) = false := by simp
     simp only [this, cond_false, hw]
  ·refine ⟨.ok (.mk 1 t.2.2.1 t.2.2.2 [], r1), by rw [hts]; exact .oNum rfl ho h2', a + 1, hd1, ?_⟩
   simp only [cond_true, hw]
end Pa
end Go.Proofs.YtdhgpnejphlfpaaDoor
namespace Go.Proofs.YtdhgpnejphlfpaaDoor
namespace Pa
open Job
section
variable (names : List Str) (l : List Tok) (N : Nat)
def Gd (s : Nat) (n : Nat) (f : Int → Int → Int → Option R5) : Prop :=
 ∀ (a : Nat) (d pl : Int), 0 ≤ d → d ≤ 320 → Ends (l.drop a) → (l.drop a).length ≤ n → Snd names l (line s) d (l.drop a) pl (f (a : Int) d pl)
abbrev PF := (List Tok × Int × List Str × Int × Int × Int) → Option R5
def Gk (s : Nat) (n : Nat) (k : PF) : Prop := Gd names l s n fun a d pl => k (l, a, names, d, 0, pl)
end
variable {names : List Str} {l : List Tok} {n : Nat}
theorem Gd.le {s m n : Nat} {f} (h : Gd names l s n f) (hm : m ≤ n) : Gd names l s m f := fun a d pl h0 h1 h2 h3 => h a d pl h0 h1 h2 (by omega)
theorem len_le (a : Nat) : (l.drop a).length ≤ l.length := by simp
theorem gd_one (hn : names.length < 4611686018427387904) (hl : l.length < 4611686018427387904) {k : PF} (hk : Gk names l 1 n k) : Gd names l 11 (n + 1) fun a d pl => expr_read_one_s3 k l a names d 0 pl :=
 fun a d pl h0 h1 h2 h3 => snd_one hn hl h2 (fun b hb1 hb2 => hk b d pl h0 h1 hb1 (by omega))
theorem gd_rec {s : Nat} {F : PF → PF} (h : ∀ m k, m ≤ n → Gk names l s m k → Gk names l s (m + 1) (F k)) : ∀ m, m ≤ n + 1 → Gk names l s m (fixN F m) := by
 intro m
 induction m with
 | zero =>
  intro _ a d pl _ _ h2 h3
  obtain ⟨t, r, hr⟩ := h2.ne
  rw [hr] at h3; simp at h3
 | succ m ih => intro hm; exact h m _ (by omega) (ih (by omega))
theorem gd_fuel {s : Nat} {F : PF → PF} (hl : l.length < 4611686018427387904) (h : ∀ m k, m ≤ n → Gk names l s m k → Gk names l s (m + 1) (F k)) : Gk names l s (n + 1) (fixN F FUEL) := by
 by_cases hf : FUEL ≤ n + 1
 ·intro a d pl h0 h1 h2 h3
  have := len_le (l := l) a
  exact gd_rec (n := n) h FUEL hf a d pl h0 h1 h2 (by show _ ≤ 2 ^ 64; omega)
 · -- a fuel beyond the length: the length alone counts
  intro a d pl h0 h1 h2 h3
  have : ∀ m, n + 1 ≤ m → Gk names l s (n + 1) (fixN F m) := by
   intro m
   induction m with
   | zero => intro hm; omega
   | succ m ih =>
    intro hm
    by_cases he : n + 1 ≤ m
    ·exact h n _ (Nat.le_refl _) ((ih he).le (by omega))
    ·exact gd_rec (n := n) h (m + 1) (by omega) |>.le (by omega)
  exact this FUEL (by omega) a d pl h0 h1 h2 h3
theorem gd_s5 (hn : names.length < 4611686018427387904) (hl : l.length < 4611686018427387904) {k : PF} (hk : Gk names l 1 n k) : Gd names l 10 (n + 1) fun a d pl => expr_read_deepNeg_s3 k l a names d 0 pl := by
 have hF : ∀ m k5, m ≤ n → Gk names l 10 m k5 → Gk names l 10 (m + 1) (fun s => expr_read_lower_s15_F k k5 s.1 s.2.1 s.2.2.1 s.2.2.2.1 s.2.2.2.2.1 s.2.2.2.2.2) := by
  intro m k5 hm h5 a d pl h0 h1 h2 h3
  have hg : ∀ D, expr_read_neg_s3 k k5 l a names D 0 pl = gBefore names l (ops 10) a D 0 pl (expr_read_one_s3 k l a names D 0 pl) (fun a d b p => k5 (l, a, names, d, b, p)) := fun D => by
   unfold expr_read_neg_s3; rw [bind_eta]; rfl
  show Snd names l (line 10) d (l.drop a) pl (gLower names l a d 0 pl (fun D => expr_read_neg_s3 k k5 l a names D 0 pl))
  refine snd_lower rfl h0 h1 h2 (fun hd => ?_)
  show SndI names l 10 (d + 1) (l.drop a) pl (expr_read_neg_s3 k k5 l a names (d + 1) 0 pl)
  rw [hg]
  exact snd_before rfl hl h2 (gd_one hn hl hk a (d + 1) pl (by omega) (by omega) h2 (by omega)) (fun b hb1 hb2 => h5 b (d + 1) pl (by omega) (by omega) hb1 (by omega))
 intro a d pl h0 h1 h2 h3
 show Snd names l (line 10) d (l.drop a) pl (expr_read_deepNeg_s3 k l a names d 0 pl)
 unfold expr_read_deepNeg_s3
 rw [bind_eta]
 exact gd_fuel (n := n) hl hF a d pl h0 h1 h2 h3
theorem gd_prod (hn : names.length < 4611686018427387904) (hl : l.length < 4611686018427387904) {k : PF} (hk : Gk names l 1 n k) : Gd names l 9 (n + 1) fun a d pl => expr_read_prod_s3 k l a names d 0 pl := by
 intro a d pl h0 h1 h2 h3
 have hg : expr_read_prod_s3 k l a names d 0 pl = gLeft names l (ops 9) (expr_read_deepNeg_s3 k l a names d 0 pl) (fun a d b p => expr_read_deepNeg_s3 k l a names d b p) := by
  unfold expr_read_prod_s3; rw [bind_eta]; rfl
 show Snd names l (line 9) d (l.drop a) pl (expr_read_prod_s3 k l a names d 0 pl)
 rw [hg]
 exact snd_left rfl hl h2 (len_le a) (gd_s5 hn hl hk a d pl h0 h1 h2 h3) (fun b hb1 hb2 => gd_s5 hn hl hk b d pl h0 h1 hb1 (by omega))
theorem gd_sum (hn : names.length < 4611686018427387904) (hl : l.length < 4611686018427387904) {k : PF} (hk : Gk names l 1 n k) : Gd names l 8 (n + 1) fun a d pl => expr_read_sum_s3 k l a names d 0 pl := by
 intro a d pl h0 h1 h2 h3
 have hg : expr_read_sum_s3 k l a names d 0 pl = gLeft names l (ops 8) (expr_read_prod_s3 k l a names d 0 pl) (fun a d b p => expr_read_prod_s3 k l a names d b p) := by
  unfold expr_read_sum_s3; rw [bind_eta]; rfl
 show Snd names l (line 8) d (l.drop a) pl (expr_read_sum_s3 k l a names d 0 pl)
 rw [hg]
 exact snd_left rfl hl h2 (len_le a) (gd_prod hn hl hk a d pl h0 h1 h2 h3) (fun b hb1 hb2 => gd_prod hn hl hk b d pl h0 h1 hb1 (by omega))
theorem gd_cmp (hn : names.length < 4611686018427387904) (hl : l.length < 4611686018427387904) {k : PF} (hk : Gk names l 1 n k) : Gd names l 7 (n + 1) fun a d pl => expr_read_cmp_s3 k l a names d 0 pl := by
 intro a d pl h0 h1 h2 h3
 have hg : expr_read_cmp_s3 k l a names d 0 pl = gRight names l (ops 7) (expr_read_sum_s3 k l a names d 0 pl) (fun a d b p => expr_read_sum_s3 k l a names d b p) := rfl
 show Snd names l (line 7) d (l.drop a) pl (expr_read_cmp_s3 k l a names d 0 pl)
 rw [hg]
 obtain ⟨r, hp, hr⟩ := snd_right (s := 7) (whole := fun a d b p => expr_read_sum_s3 k l a names d b p) rfl hl h2 (gd_sum hn hl hk a d pl h0 h1 h2 h3) (fun b hb1 hb2 => gd_sum hn hl hk b d pl h0 h1 hb1 (by omega))
 exact ⟨r, hp d rfl rfl, hr⟩
theorem gd_s4 (hn : names.length < 4611686018427387904) (hl : l.length < 4611686018427387904) {k : PF} (hk : Gk names l 1 n k) : Gd names l 6 (n + 1) fun a d pl => expr_read_deepPre_s3 k l a names d 0 pl := by
 have hF : ∀ m k5, m ≤ n → Gk names l 6 m k5 → Gk names l 6 (m + 1) (fun s => expr_read_lower_s14_F k k5 s.1 s.2.1 s.2.2.1 s.2.2.2.1 s.2.2.2.2.1 s.2.2.2.2.2) := by
  intro m k5 hm h5 a d pl h0 h1 h2 h3
  have hg : ∀ D, expr_read_pre_s3 k k5 l a names D 0 pl = gBefore names l (ops 6) a D 0 pl (expr_read_cmp_s3 k l a names D 0 pl) (fun a d b p => k5 (l, a, names, d, b, p)) := fun D => by
   unfold expr_read_pre_s3; rw [bind_eta]; rfl
  show Snd names l (line 6) d (l.drop a) pl (gLower names l a d 0 pl (fun D => expr_read_pre_s3 k k5 l a names D 0 pl))
  refine snd_lower rfl h0 h1 h2 (fun hd => ?_)
  show SndI names l 6 (d + 1) (l.drop a) pl (expr_read_pre_s3 k k5 l a names (d + 1) 0 pl)
  rw [hg]
  exact snd_before rfl hl h2 (gd_cmp hn hl hk a (d + 1) pl (by omega) (by omega) h2 (by omega)) (fun b hb1 hb2 => h5 b (d + 1) pl (by omega) (by omega) hb1 (by omega))
 intro a d pl h0 h1 h2 h3
 show Snd names l (line 6) d (l.drop a) pl (expr_read_deepPre_s3 k l a names d 0 pl)
 unfold expr_read_deepPre_s3
 rw [bind_eta]
 exact gd_fuel (n := n) hl hF a d pl h0 h1 h2 h3
theorem gd_s3 (hn : names.length < 4611686018427387904) (hl : l.length < 4611686018427387904) {k : PF} (hk : Gk names l 1 n k) : Gd names l 5 (n + 1) fun a d pl => expr_read_deepUntil_s3 k l a names d 0 pl := by
 have hF : ∀ m k5, m ≤ n → Gk names l 5 m k5 → Gk names l 5 (m + 1) (fun s => expr_read_lower_s13_F k k5 s.1 s.2.1 s.2.2.1 s.2.2.2.1 s.2.2.2.2.1 s.2.2.2.2.2) := by
  intro m k5 hm h5 a d pl h0 h1 h2 h3
  have hg : ∀ D, expr_read_until_s3 k k5 l a names D 0 pl = gRight names l (ops 5) (expr_read_deepPre_s3 k l a names D 0 pl) (fun a d b p => k5 (l, a, names, d, b, p)) := fun D => by
   unfold expr_read_until_s3; rw [bind_eta]; rfl
  show Snd names l (line 5) d (l.drop a) pl (gLower names l a d 0 pl (fun D => expr_read_until_s3 k k5 l a names D 0 pl))
  refine snd_lower rfl h0 h1 h2 (fun hd => ?_)
  show SndI names l 5 (d + 1) (l.drop a) pl (expr_read_until_s3 k k5 l a names (d + 1) 0 pl)
  rw [hg]
  exact snd_right rfl hl h2 (gd_s4 hn hl hk a (d + 1) pl (by omega) (by omega) h2 (by omega)) (fun b hb1 hb2 => h5 b (d + 1) pl (by omega) (by omega) hb1 (by omega))
 intro a d pl h0 h1 h2 h3
 show Snd names l (line 5) d (l.drop a) pl (expr_read_deepUntil_s3 k l a names d 0 pl)
 unfold expr_read_deepUntil_s3
 rw [bind_eta]
 exact gd_fuel (n := n) hl hF a d pl h0 h1 h2 h3
theorem gd_and (hn : names.length < 4611686018427387904) (hl : l.length < 4611686018427387904) {k : PF} (hk : Gk names l 1 n k) : Gd names l 4 (n + 1) fun a d pl => expr_read_and_s3 k l a names d 0 pl := by
 intro a d pl h0 h1 h2 h3
 have hg : expr_read_and_s3 k l a names d 0 pl = gLeft names l (ops 4) (expr_read_deepUntil_s3 k l a names d 0 pl) (fun a d b p => expr_read_deepUntil_s3 k l a names d b p) := by
  unfold expr_read_and_s3; rw [bind_eta]; rfl
 show Snd names l (line 4) d (l.drop a) pl (expr_read_and_s3 k l a names d 0 pl)
 rw [hg]
 exact snd_left rfl hl h2 (len_le a) (gd_s3 hn hl hk a d pl h0 h1 h2 h3) (fun b hb1 hb2 => gd_s3 hn hl hk b d pl h0 h1 hb1 (by omega))
theorem gd_or (hn : names.length < 4611686018427387904) (hl : l.length < 4611686018427387904) {k : PF} (hk : Gk names l 1 n k) : Gd names l 3 (n + 1) fun a d pl => expr_read_or_s3 k l a names d 0 pl := by
 intro a d pl h0 h1 h2 h3
 have hg : expr_read_or_s3 k l a names d 0 pl = gLeft names l (ops 3) (expr_read_and_s3 k l a names d 0 pl) (fun a d b p => expr_read_and_s3 k l a names d b p) := by
  unfold expr_read_or_s3; rw [bind_eta]; rfl
 show Snd names l (line 3) d (l.drop a) pl (expr_read_or_s3 k l a names d 0 pl)
 rw [hg]
 exact snd_left rfl hl h2 (len_le a) (gd_and hn hl hk a d pl h0 h1 h2 h3) (fun b hb1 hb2 => gd_and hn hl hk b d pl h0 h1 hb1 (by omega))
theorem gd_s2 (hn : names.length < 4611686018427387904) (hl : l.length < 4611686018427387904) {k : PF} (hk : Gk names l 1 n k) : Gd names l 2 (n + 1) fun a d pl => expr_read_deepImp_s3 k l a names d 0 pl := by
 have hF : ∀ m k5, m ≤ n → Gk names l 2 m k5 → Gk names l 2 (m + 1) (fun s => expr_read_lower_s12_F k k5 s.1 s.2.1 s.2.2.1 s.2.2.2.1 s.2.2.2.2.1 s.2.2.2.2.2) := by
  intro m k5 hm h5 a d pl h0 h1 h2 h3
  have hg : ∀ D, expr_read_imp_s3 k k5 l a names D 0 pl = gRight names l (ops 2) (expr_read_or_s3 k l a names D 0 pl) (fun a d b p => k5 (l, a, names, d, b, p)) := fun D => by
   unfold expr_read_imp_s3; rw [bind_eta]; rfl
  show Snd names l (line 2) d (l.drop a) pl (gLower names l a d 0 pl (fun D => expr_read_imp_s3 k k5 l a names D 0 pl))
  refine snd_lower rfl h0 h1 h2 (fun hd => ?_)
  show SndI names l 2 (d + 1) (l.drop a) pl (expr_read_imp_s3 k k5 l a names (d + 1) 0 pl)
  rw [hg]
  exact snd_right rfl hl h2 (gd_or hn hl hk a (d + 1) pl (by omega) (by omega) h2 (by omega)) (fun b hb1 hb2 => h5 b (d + 1) pl (by omega) (by omega) hb1 (by omega))
 intro a d pl h0 h1 h2 h3
 show Snd names l (line 2) d (l.drop a) pl (expr_read_deepImp_s3 k l a names d 0 pl)
 unfold expr_read_deepImp_s3
 rw [bind_eta]
 exact gd_fuel (n := n) hl hF a d pl h0 h1 h2 h3
theorem gk_F (hn : names.length < 4611686018427387904) (hl : l.length < 4611686018427387904) {k : PF} (hk : Gk names l 1 n k) : Gk names l 1 (n + 1) (fun s => expr_read_lower_s11_F k s.1 s.2.1 s.2.2.1 s.2.2.2.1 s.2.2.2.2.1 s.2.2.2.2.2) := by
 intro a d pl h0 h1 h2 h3
 have hg : ∀ D, expr_read_iff_s3 k l a names D 0 pl = gRight names l (ops 1) (expr_read_deepImp_s3 k l a names D 0 pl) (fun a d b p => k (l, a, names, d, b, p)) := fun D => by
  unfold expr_read_iff_s3; rw [bind_eta]; rfl
 show Snd names l (line 1) d (l.drop a) pl (gLower names l a d 0 pl (fun D => expr_read_iff_s3 k l a names D 0 pl))
 refine snd_lower rfl h0 h1 h2 (fun hd => ?_)
 show SndI names l 1 (d + 1) (l.drop a) pl (expr_read_iff_s3 k l a names (d + 1) 0 pl)
 rw [hg]
 exact snd_right rfl hl h2 (gd_s2 hn hl hk a (d + 1) pl (by omega) (by omega) h2 (by omega)) (fun b hb1 hb2 => hk b (d + 1) pl (by omega) (by omega) hb1 (by omega))
theorem lower_snd (hn : names.length < 4611686018427387904) (hl : l.length < 4611686018427387904) {a : Nat} {d pl : Int} (h0 : 0 ≤ d) (h1 : d ≤ 320) (he : Ends (l.drop a)) :
  Snd names l (line 1) d (l.drop a) pl (expr_read_lower_s11 l (a : Int) names d 0 pl) := by
 have := gd_fuel (names := names) (l := l) (n := l.length) (s := 1) (F := fun k s => expr_read_lower_s11_F k s.1 s.2.1 s.2.2.1 s.2.2.2.1 s.2.2.2.2.1 s.2.2.2.2.2) hl (fun m k _ hk => gk_F hn hl hk)
 exact this a d pl h0 h1 he (by have := len_le (l := l) a; omega)
def told (l : List Tok) : Out → Ex × Int × Int × Int
 | .ok p => (p.1, ((l.length - p.2.length : Nat) : Int), 0, 0)
 | .error e => (.mk 0 0 0 [], 0, e.1, e.2)
theorem Parse_eq (hn : names.length < 4611686018427387904) (hl : l.length < 4611686018427387904) {a : Nat} (he : Ends (l.drop a)) : ∃ r, P names (line 1) 0 (l.drop a) r ∧ expr_Parse_s3 l (a : Int) names = some (told l r) := by
 obtain ⟨r, hp, hr⟩ := lower_snd (pl := 0) hn hl (Int.le_refl 0) (by omega) he
 refine ⟨r, hp, ?_⟩
 unfold expr_Parse_s3
 cases r with
 | error e =>
  obtain ⟨x, k, hk, hm⟩ := hr
  rw [hm]
  simp only [bind_s, err_ne hp, cond_true]
  rfl
 | ok p =>
  obtain ⟨k, hk, hm⟩ := hr
  obtain ⟨e1, e2⟩ := hp.ends he _ rfl
  rw [hm]
  obtain ⟨t, r1, hts⟩ := e1.ne
  have hlt := (drop_cons (hk.trans hts)).2.2
  simp only [bind_s, show ((0 : Int) != 0) = false from rfl, cond_false, told]
  rw [← hk, List.length_drop, show l.length - (l.length - k) = k by omega]
end Pa
end Go.Proofs.YtdhgpnejphlfpaaDoor
namespace Go.Proofs.YtdhgpnejphlfpaaDoor
namespace Sy
open Pa
def Er {α : Type} (x : Except Err α) : Prop := ∀ e, x = .error e → e.1 ≠ 0
theorem Er.ok {α : Type} {a : α} : Er (.ok a : Except Err α) := fun e h => by cases h
theorem Er.lit {α : Type} {e : Err} (h : e.1 ≠ 0) : Er (.error e : Except Err α) := fun e' he => by cases he; exact h
theorem Er.bif {α : Type} {c : Bool} {a b : Except Err α} (ha : c = true → Er a) (hb : c = false → Er b) : Er (bif c then a else b) := by cases c; exact hb rfl; exact ha rfl
theorem Er.of {α : Type} {x : Except Err α} (h : Er x) {e : Err} (he : x = .error e) {β : Type} : Er (.error e : Except Err β) := .lit (h e he)
end Sy
end Go.Proofs.YtdhgpnejphlfpaaDoor
namespace Go.Proofs.YtdhgpnejphlfpaaDoor
theorem type_loop (k : Ex → Option (Int × Int × Int)) (e : Ex) (hk : ∀ x ∈ e.l, k x = some (ty x)) (hl : e.l.length < 4611686018427387904) :
  ∀ (r pre : List Ex), e.l = pre ++ r → ∀ (M : Nat) (i b t : Bool), r.length < M → fixN (expr_Type_L1 k e) M (i, b, t, (pre.length : Int)) = some (tyA e.op e.at_ r i b t)
 | [], pre, h, M, i, b, t, hM => by
  obtain ⟨m, rfl⟩ : ∃ m, M = m + 1 := ⟨M - 1, by simp at hM; omega⟩
  rw [fixN_succ]
  simp only [expr_Type_L1, lt_f h, cond_false, letv_e, expr_Type_K2, tyA, tyFin]
  generalize decide (e.op ≤ 6) = c1
  generalize decide (6 < e.op) = c2
  generalize decide (e.op ≤ 12) = c3
  generalize (e.op == 13) = c4
  generalize (e.op == 14) = c5
  generalize decide (15 ≤ e.op) = c6
  generalize decide (e.op ≤ 19) = c7
  cases c1 <;> cases i <;> cases c2 <;> cases c3 <;> cases c4 <;> cases c5 <;> cases c6 <;> cases c7 <;> cases b <;> cases t <;> rfl
 | x :: r, pre, h, M, i, b, t, hM => by
  obtain ⟨m, rfl⟩ : ∃ m, M = m + 1 := ⟨M - 1, by omega⟩
  rw [fixN_succ]
  have hx : k x = some (ty x) := hk x (by rw [h]; simp)
  have hlen : pre.length < 4611686018427387904 := by rw [h] at hl; simp at hl; omega
  have ih := type_loop k e hk hl r (pre ++ [x]) (by rw [h]; simp) m (i && (ty x).1 == 1) (b && (ty x).1 == 2) (t && (ty x).1 != 1) (by simp at hM; omega)
  rw [show ((pre ++ [x]).length : Int) = ((pre.length + 1 : Nat) : Int) by simp] at ih
  simp only [expr_Type_L1, lt_t h, cond_true, idx_mid h, bind_s, hx, letv_e, next_ix hlen, tyA]
  cases (ty x).2.1 != 0
  ·exact ih
  ·rfl
theorem type_some : ∀ (N : Nat) (e : Ex), e.sz ≤ N → e.sz < 4611686018427387904 → fixN (fun k s => expr_Type_F k s) N e = some (ty e) := by
 intro N
 induction N with
 | zero => intro e h; have := sz_pos e; omega
 | succ N ih =>
  intro e h hb
  rw [fixN_succ]
  show fixN (expr_Type_L1 _ e) FUEL (true, true, true, 0) = _
  have hl := len_lt e
  have := type_loop (fixN (fun k s => expr_Type_F k s) N) e (fun x hx => ih x (by have := sz_lt hx; omega) (by have := sz_lt hx; omega)) (by omega) e.l [] rfl FUEL true true true (by show e.l.length < 2 ^ 64; omega)
  rw [ty_eq]
  exact this
theorem Type_eq (e : Ex) (h : e.sz < 4611686018427387904) : expr_Type e = some (ty e) := type_some FUEL e (by show e.sz ≤ 2 ^ 64; omega) h
end Go.Proofs.YtdhgpnejphlfpaaDoor
namespace Go.Proofs.YtdhgpnejphlfpaaDoor
namespace Mo
open Pa Sy
theorem bindE_e {E A B : Type} (e : E) (k : A → Option (Except E B)) : bindE (some (.error e)) k = some (.error e) := rfl
theorem bindE_o {E A B : Type} (x : A) (k : A → Option (Except E B)) : bindE (some (.ok x) : Option (Except E A)) k = k x := rfl
def Rd {α β : Type} (l : List Tok) (s : Except Err (α × List Tok)) (f : α → Int → β) (m : Option (Except Err β)) : Prop := match s with
 | .error e => m = some (.error e)
 | .ok p => ∃ k : Nat, m = some (.ok (f p.1 (k : Int))) ∧ l.drop k = p.2
def RdS (l : List Tok) (s : Except Err (List Tok)) (m : Option (Except Err Int)) : Prop := match s with
 | .error e => m = some (.error e)
 | .ok r => ∃ k : Nat, m = some (.ok (k : Int)) ∧ l.drop k = r
theorem drop_lt {l a b : List Tok} {i k : Nat} (hi : l.drop i = a) (hk : l.drop k = b) (h : b.length < a.length) : i < k := by
 subst hi; subst hk
 simp only [List.length_drop] at h
 omega
section
variable {l : List Tok} {k : Nat} {t : Tok} {r : List Tok} (N : List Str) (S_ : List (Int × Int)) (I : List Int) (Q : List Str) (C : List Cmd)
theorem next_m (h : l.drop k = t :: r) : model_read_next l (k : Int) N S_ I Q C = some t := by
 unfold model_read_next
 rw [(drop_at h).1]; rfl
theorem is_m (h : l.drop k = t :: r) (kd : Int) (x : Str) : model_read_is kd x l (k : Int) N S_ I Q C = some (isT kd x t) := by
 unfold model_read_is
 rw [next_m N S_ I Q C h, bind_s, letv_e]
 unfold isT
 cases (t.1 == kd)
 ·rfl
 ·rw [callG_tt, bind_s]; rfl
theorem stop_m (h : l.drop k = t :: r) (e : Int) : model_read_stop e l (k : Int) N S_ I Q C = some (.error (e, t.2.2.2)) := by
 unfold model_read_stop
 rw [next_m N S_ I Q C h]; rfl
theorem at_none {names : List Str} {v : Str} : at_ names v = none ↔ names.contains v = false := by
 unfold at_
 rw [List.findIdx?_eq_none_iff]
 constructor
 ·intro h
  cases hc : names.contains v
  ·rfl
  ·have := h v (by simpa using hc)
   simp at this
 ·intro h x hx
  rw [Bool.eq_false_iff]
  intro e
  have : v = x := by simpa using e
  subst this
  have h2 : names.contains v = true := by simpa using hx
  rw [h] at h2; cases h2
theorem contains_m {names : List Str} (hn : names.length < 4611686018427387904) (v : Str) : slices_Contains_string_string_s2 names v = some (names.contains v) := by
 unfold slices_Contains_string_string_s2
 rw [index_eq hn, bind_s]
 cases ha : at_ names v with
 | none => rw [at_none.1 ha]; rfl
 | some i =>
  have : names.contains v = true := by
   cases hc : names.contains v
   ·rw [at_none.2 hc] at ha; cases ha
   ·rfl
  rw [this]
  simp
theorem given_m (hN : N.length < 4611686018427387904) (hQ : Q.length < 4611686018427387904) (v : Str) : model_read_given v l (k : Int) N S_ I Q C = some (N.contains v || Q.contains v) := by
 unfold model_read_given
 rw [contains_m hN, bind_s, contains_m hQ]
 cases N.contains v <;> rfl
theorem name_m (he : Pa.Ends (l.drop k)) (hk : l.length < 4611686018427387904) (hN : N.length < 4611686018427387904) (hQ : Q.length < 4611686018427387904) (full : Bool) :
  Rd l (sName full N Q (l.drop k)) (fun x k => (x, k)) (model_read_name full l (k : Int) N S_ I Q C) := by
 obtain ⟨t, r, ht⟩ := he.ne
 have hd := drop_at ht
 unfold model_read_name
 rw [next_m N S_ I Q C ht, bind_s, ht]
 simp only [sName]
 cases h1 : (t.1 != 1)
 ·simp only [cond_false]
  rw [Key_eq, bind_s, given_m N S_ I Q C hN hQ]
  unfold Pa.key
  cases h2 : keysT.contains t.2.1
  ·simp only [Bool.not_false, callG_tt, bind_s, letv_e, Bool.false_or]
   cases h3 : (N.contains t.2.1 || Q.contains t.2.1)
   ·simp only [cond_false]
    cases full
    ·exact ⟨k + 1, by simp only [cond_false, model_read_name_K1, wrap1 (show k < 4611686018427387904 by omega)], hd.2.1⟩
    ·simp only [cond_true, stop_m N S_ I Q C ht, bindE_e]; rfl
   ·simp only [cond_true, stop_m N S_ I Q C ht, bindE_e]; rfl
  ·simp only [Bool.not_true, callG_ff, letv_e, Bool.true_or, cond_true, stop_m N S_ I Q C ht, bindE_e]; rfl
 ·simp only [cond_true, stop_m N S_ I Q C ht, bindE_e]; rfl
theorem sign_m (he : Pa.Ends (l.drop k)) (hk : l.length < 4611686018427387904) (x : Str) : RdS l (sSign x (l.drop k)) (model_read_sign x l (k : Int) N S_ I Q C) := by
 obtain ⟨t, r, ht⟩ := he.ne
 have hd := drop_at ht
 unfold model_read_sign
 rw [is_m N S_ I Q C ht, bind_s, ht]
 simp only [sSign]
 cases h1 : isT 3 x t
 ·simp only [Bool.not_false, cond_true, cond_false, stop_m N S_ I Q C ht, bindE_e]; rfl
 ·exact ⟨k + 1, by simp only [Bool.not_true, cond_false, model_read_sign_K1, wrap1 (show k < 4611686018427387904 by omega)], hd.2.1⟩
theorem number1_m (he : Pa.Ends (l.drop k)) (hk : l.length < 4611686018427387904) (neg : Bool) : Rd l (sNum1 neg (l.drop k)) (fun x k => (x, k)) (model_read_number_K1 l N S_ I Q C neg (k : Int)) := by
 obtain ⟨t, r, ht⟩ := he.ne
 have hd := drop_at ht
 unfold model_read_number_K1
 rw [next_m N S_ I Q C ht, bind_s, ht]
 simp only [sNum1]
 cases h1 : (t.1 != 2)
 ·refine ⟨k + 1, ?_, hd.2.1⟩
  simp only [cond_false, model_read_number_K2, wrap1 (show k < 4611686018427387904 by omega)]
  cases neg <;> rfl
 ·simp only [cond_true, stop_m N S_ I Q C ht, bindE_e]; rfl
theorem number_m (he : Pa.Ends (l.drop k)) (hk : l.length < 4611686018427387904) : Rd l (sNum (l.drop k)) (fun x k => (x, k)) (model_read_number l (k : Int) N S_ I Q C) := by
 obtain ⟨t, r, ht⟩ := he.ne
 have hd := drop_at ht
 unfold model_read_number sNum
 rw [is_m N S_ I Q C ht, bind_s]
 have hh : isH 3 [45] (l.drop k) = isT 3 [45] t := by rw [ht]; rfl
 rw [hh]
 cases h1 : isT 3 [45] t
 ·exact number1_m N S_ I Q C he hk false
 ·simp only [cond_true, wrap1 (show k < 4611686018427387904 by omega)]
  have e1 : (l.drop k).tail = l.drop (k + 1) := by rw [ht, hd.2.1]; rfl
  rw [e1]
  refine number1_m (k := k + 1) N S_ I Q C ?_ hk true
  rw [hd.2.1]
  rw [ht] at he
  exact he.tail (isT_ne h1 (by decide))
end
end Mo
end Go.Proofs.YtdhgpnejphlfpaaDoor
namespace Go.Proofs.YtdhgpnejphlfpaaDoor
namespace Mo
open Pa Sy
theorem type_s2 (e : Ex) : expr_Type_s2 e = expr_Type_F expr_Type e := rfl
theorem Type_s2_eq (e : Ex) (h : e.sz < 4611686018427387904) : expr_Type_s2 e = some (rt e) := by
 rw [type_s2, ← types_same e.sz e (Nat.le_refl _)]
 have hl := len_lt e
 show fixN (expr_Type_L1 _ e) FUEL (true, true, true, 0) = _
 have := type_loop expr_Type e (fun x hx => Type_eq x (by have := sz_lt hx; omega)) (by omega) e.l [] rfl FUEL true true true (by show e.l.length < 2 ^ 64; omega)
 rw [ty_eq]
 exact this
section
variable {l : List Tok} {k : Nat} (N : List Str) (S_ : List (Int × Int)) (I : List Int) (Q : List Str) (C : List Cmd)
theorem expression_m (he : Pa.Ends (l.drop k)) (hk : l.length < 1099511627776) (hN : N.length < 4611686018427387904) (want : Int) :
  Rd l (sExpr want N (l.drop k)) (fun x k => (x, k)) (model_read_expression want l (k : Int) N S_ I Q C) := by
 obtain ⟨r, hP, hm⟩ := Pa.Parse_eq (names := N) (l := l) hN (by omega) he
 unfold model_read_expression sExpr
 rw [hm, bind_s, readE_eq hP]
 cases r with
 | error e =>
  have h0 : (e.1 != 0) = true := by
   rcases hP.err e rfl with h | h | h <;> rw [h] <;> rfl
  simp only [told, h0, cond_true]
  rfl
 | ok p =>
  have hsz := hP.size p rfl
  have hsuf := hP.suf p rfl
  have hjz : szJ (Job.line 1) = 0 := rfl
  rw [hjz] at hsz
  have hdl : (l.drop k).length ≤ l.length := by simp
  simp only [told, show ((0 : Int) != 0) = false from rfl, cond_false, model_read_expression_K1]
  rw [Type_s2_eq p.1 (by omega), bind_s]
  cases h1 : ((rt p.1).2.1 != 0)
  ·simp only [cond_false, model_read_expression_K2]
   cases h2 : ((rt p.1).1 != want)
   ·simp only [cond_false, model_read_expression_K3]
    refine ⟨l.length - p.2.length, rfl, ?_⟩
    obtain ⟨pre, hpre⟩ := hsuf.trans (List.drop_suffix k l)
    have hlen : l.length = pre.length + p.2.length := by rw [← hpre, List.length_append]
    rw [show l.length - p.2.length = pre.length by omega, ← hpre, List.drop_left]
   ·rfl
  ·rfl
theorem index_idx {names : List Str} (hn : names.length < 4611686018427387904) (v : Str) : slices_Index_string_string_s2 names v = some (idxI names v) := by
 refine (index_eq hn v).trans ?_
 unfold idxI
 cases at_ names v <;> rfl
/-! assignments -/
theorem any_loop (s : List (Int × Ex)) (c : Int) (hs : s.length < 4611686018427387904) : ∀ (r pre : List (Int × Ex)), s = pre ++ r → ∀ M, r.length < M →
  ∃ z, fixN (slices_IndexFunc_api_Set_api_Set_s2_L1 s c) M (pre.length : Int) = some z ∧ decide (0 ≤ z) = r.any (fun x => x.1 == c)
 | [], pre, h, M, hM => by
  obtain ⟨m, rfl⟩ : ∃ m, M = m + 1 := ⟨M - 1, by simp at hM; omega⟩
  rw [fixN_succ]
  simp only [slices_IndexFunc_api_Set_api_Set_s2_L1, Sy.len_f h, cond_false]
  exact ⟨_, rfl, rfl⟩
 | x :: r, pre, h, M, hM => by
  obtain ⟨m, rfl⟩ : ∃ m, M = m + 1 := ⟨M - 1, by omega⟩
  rw [fixN_succ]
  have hlen : pre.length + r.length + 1 = s.length := by rw [h]; simp; omega
  obtain ⟨z, hz, hd⟩ := any_loop s c hs r (pre ++ [x]) (by rw [h]; simp) m (by simp at hM; omega)
  rw [show ((pre ++ [x]).length : Int) = ((pre.length + 1 : Nat) : Int) by simp] at hz
  simp only [slices_IndexFunc_api_Set_api_Set_s2_L1, Sy.len_t h, cond_true, Sy.mid h, bind_s, model_read_assignment_c1, Pa.wrap1 (show pre.length < 4611686018427387904 by omega), List.any_cons]
  cases hv : (x.1 == c)
  ·simp only [cond_false, Bool.false_or]
   exact ⟨z, hz, hd⟩
  ·simp only [cond_true, Bool.true_or]
   exact ⟨_, rfl, by simp⟩
theorem twice_m {s : List (Int × Ex)} (hs : s.length < 4611686018427387904) (c : Int) : slices_ContainsFunc_api_Set_api_Set_s2 s c = some (twice s c) := by
 obtain ⟨z, hz, hd⟩ := any_loop s c hs s [] rfl FUEL (by show _ < 2 ^ 64; omega)
 unfold slices_ContainsFunc_api_Set_api_Set_s2 slices_IndexFunc_api_Set_api_Set_s2
 rw [show fixN (slices_IndexFunc_api_Set_api_Set_s2_L1 s c) FUEL 0 = some z from hz, bind_s, hd]
 rfl
noncomputable def sOne (names : List Str) (acc : List (Int × Ex)) (ts : List Tok) : Except Err ((Int × Ex) × List Tok) := match ts with
 | [] => .error (2, 0)
 | t :: r => bif t.1 != 1 then .error (2, t.2.2.2) else bif decide (idxI names t.2.1 < 0) || twice acc (idxI names t.2.1) then .error (3, t.2.2.2) else
  match sSign [61] r with
  | .error e => .error e
  | .ok r1 => match sExpr 1 names r1 with
   | .error e => .error e
   | .ok (x, r2) => .ok ((idxI names t.2.1, x), r2)
theorem sSets_one (names : List Str) (f : Nat) (acc : List (Int × Ex)) (ts : List Tok) : sSets names (f + 1) acc ts = match sOne names acc ts with
  | .error e => .error e
  | .ok (s, r2) => bif isH 3 [44] r2 then sSets names f (acc ++ [s]) r2.tail else .ok (acc ++ [s], r2) := by
 cases ts with
 | nil => rfl
 | cons t r =>
  simp only [sSets, sOne]
  cases (t.1 != 1)
  ·simp only [cond_false]
   cases (decide (idxI names t.2.1 < 0) || twice acc (idxI names t.2.1))
   ·simp only [cond_false]
    cases sSign [61] r with
    | error e => rfl
    | ok r1 =>
     simp only
     cases sExpr 1 names r1 with
     | error e => rfl
     | ok p => rfl
   ·rfl
  ·rfl
theorem sOne_ok {names : List Str} {acc : List (Int × Ex)} {ts : List Tok} {p : (Int × Ex) × List Tok} (he : Pa.Ends ts) (h : sOne names acc ts = .ok p) : Shorter ts p.2 := by
 obtain ⟨t, r, rfl⟩ := he.ne
 simp only [sOne] at h
 cases h1 : (t.1 != 1)
 ·rw [h1] at h
  simp only [cond_false] at h
  have hr : Pa.Ends r := he.tail (by simp at h1; omega)
  cases h2 : (decide (idxI names t.2.1 < 0) || twice acc (idxI names t.2.1))
  ·rw [h2] at h
   simp only [cond_false] at h
   cases h3 : sSign [61] r with
   | error e => rw [h3] at h; cases h
   | ok r1 =>
    rw [h3] at h
    simp only at h
    have k1 := sSign_ok hr h3
    cases h4 : sExpr 1 names r1 with
    | error e => rw [h4] at h; cases h
    | ok q =>
     rw [h4] at h
     cases h
     have k2 := (sExpr_ok k1.1 h4).1
     exact ⟨k2.1, by have := k1.2; have := k2.2; simp only [List.length_cons] at *; omega⟩
  ·rw [h2] at h; cases h
 ·rw [h1] at h; cases h
theorem assignment_m (he : Pa.Ends (l.drop k)) (hk : l.length < 1099511627776) (hN : N.length < 1099511627776) {acc : List (Int × Ex)} (ha : acc.length < 1099511627776) :
  Rd l (sOne N acc (l.drop k)) (fun x k => (x, k)) (model_read_assignment_s2 acc l (k : Int) N S_ I Q C) := by
 obtain ⟨t, r, ht⟩ := he.ne
 have hd := drop_at ht
 unfold model_read_assignment_s2
 rw [next_m N S_ I Q C ht, bind_s]
 have hr : t.1 ≠ 4 → Pa.Ends (l.drop (k + 1)) := fun h => by
  rw [hd.2.1]
  rw [ht] at he
  exact he.tail h
 rw [ht]
 simp only [sOne]
 cases h1 : (t.1 != 1)
 ·simp only [cond_false, model_read_assignment_s2_K1]
  have h14 : t.1 = 1 := by simpa using h1
  rw [index_idx (by omega), bind_s, twice_m (by omega)]
  have hg : (callG (!decide (idxI N t.2.1 < 0)) default (some (twice acc (idxI N t.2.1))) fun r44 => letv (decide (idxI N t.2.1 < 0) || r44) fun b50 => bif b50 then bindE (model_read_stop 3 l (k : Int) N S_ I Q C) fun r53 => r53.elim else model_read_assignment_s2_K2 l (k : Int) N S_ I Q C (idxI N t.2.1)) =
    bif (decide (idxI N t.2.1 < 0) || twice acc (idxI N t.2.1)) then bindE (model_read_stop 3 l (k : Int) N S_ I Q C) fun r53 => r53.elim else model_read_assignment_s2_K2 l (k : Int) N S_ I Q C (idxI N t.2.1) := by
   cases decide (idxI N t.2.1 < 0) <;> rfl
  rw [letv_e, hg]
  cases h2 : (decide (idxI N t.2.1 < 0) || twice acc (idxI N t.2.1))
  ·simp only [cond_false, model_read_assignment_s2_K2, wrap1 (show k < 4611686018427387904 by omega)]
   have hs := sign_m N S_ I Q C (l := l) (k := k + 1) (hr (by omega)) (by omega) [61]
   rw [hd.2.1] at hs
   cases h3 : sSign [61] r with
   | error e =>
    rw [h3] at hs
    rw [show model_read_sign [61] l ((k + 1 : Nat) : Int) N S_ I Q C = some (.error e) from hs]
    rfl
   | ok r1 =>
    rw [h3] at hs
    obtain ⟨k1, hm1, hd1⟩ := hs
    have hr1 := (sSign_ok (by rw [← hd.2.1]; exact hr (by omega)) h3).1
    rw [hm1, bindE_o]
    have hx := expression_m N S_ I Q C (l := l) (k := k1) (by rw [hd1]; exact hr1) hk (by omega) 1
    rw [hd1] at hx
    simp only
    cases h4 : sExpr 1 N r1 with
    | error e =>
     rw [h4] at hx
     rw [show model_read_expression 1 l (k1 : Int) N S_ I Q C = some (.error e) from hx]
     rfl
    | ok p =>
     rw [h4] at hx
     obtain ⟨k2, hm2, hd2⟩ := hx
     rw [hm2, bindE_o]
     exact ⟨k2, rfl, hd2⟩
  ·simp only [cond_true, stop_m N S_ I Q C ht, bindE_e]; rfl
 ·simp only [cond_true, stop_m N S_ I Q C ht, bindE_e]; rfl
end
end Mo
end Go.Proofs.YtdhgpnejphlfpaaDoor
namespace Go.Proofs.YtdhgpnejphlfpaaDoor
namespace Mo
open Pa Sy
open Lx (strip)
def tl (ts ts' : List Tok) : Prop := ts'.map strip = ts.map strip
def relX {α β : Type} (R : α → β → Prop) : Except Err α → Except Err β → Prop
 | .ok a, .ok b => R a b
 | .error e, .error f => f.1 = e.1
 | _, _ => False
theorem relX_ok {α β : Type} {R : α → β → Prop} {a : α} {y : Except Err β} (h : relX R (.ok a) y) : ∃ b, y = .ok b ∧ R a b := by
 cases y with
 | ok b => exact ⟨b, rfl, h⟩
 | error e => exact h.elim
theorem relX_err {α β : Type} {R : α → β → Prop} {e : Err} {y : Except Err β} (h : relX R (.error e) y) : ∃ f, y = .error f ∧ f.1 = e.1 := by
 cases y with
 | ok b => exact h.elim
 | error f => exact ⟨f, rfl, h⟩
theorem tl_isT {t u : Tok} (h : strip u = strip t) (k : Int) (x : Str) : isT k x u = isT k x t := by unfold isT; rw [st1 h, st2 h]
theorem tl_isH {ts us : List Tok} (h : tl ts us) (k : Int) (x : Str) : isH k x us = isH k x ts := by
 cases ts with
 | nil =>
  have : us = [] := by simpa [tl] using h
  rw [this]
 | cons t r =>
  obtain ⟨u, r', rfl, hu, _⟩ := map_cons h
  exact tl_isT hu k x
theorem tl_tail {ts us : List Tok} (h : tl ts us) : tl ts.tail us.tail := by
 unfold tl at *
 rw [List.map_tail, List.map_tail, h]
theorem tl_len {ts us : List Tok} (h : tl ts us) : us.length = ts.length := by
 have := congrArg List.length h
 simpa using this
theorem sSign_b {x : Str} {ts us : List Tok} (h : tl ts us) : relX tl (sSign x ts) (sSign x us) := by
 cases ts with
 | nil =>
  have : us = [] := by simpa [tl] using h
  rw [this]; rfl
 | cons t r =>
  obtain ⟨u, r', rfl, hu, hr⟩ := map_cons h
  simp only [sSign, tl_isT hu]
  cases isT 3 x t
  ·rfl
  ·exact hr
theorem sName_b {full : Bool} {names procs : List Str} {ts us : List Tok} (h : tl ts us) : relX (fun p q => q.1 = p.1 ∧ tl p.2 q.2) (sName full names procs ts) (sName full names procs us) := by
 cases ts with
 | nil =>
  have : us = [] := by simpa [tl] using h
  rw [this]; rfl
 | cons t r =>
  obtain ⟨u, r', rfl, hu, hr⟩ := map_cons h
  simp only [sName, st1 hu, st2 hu]
  cases (t.1 != 1)
  ·cases (key t.2.1 || names.contains t.2.1 || procs.contains t.2.1)
   ·cases full
    ·exact ⟨rfl, hr⟩
    ·rfl
   ·rfl
  ·rfl
theorem sNum1_b {neg : Bool} {ts us : List Tok} (h : tl ts us) : relX (fun p q => q.1 = p.1 ∧ tl p.2 q.2) (sNum1 neg ts) (sNum1 neg us) := by
 cases ts with
 | nil =>
  have : us = [] := by simpa [tl] using h
  rw [this]; rfl
 | cons t r =>
  obtain ⟨u, r', rfl, hu, hr⟩ := map_cons h
  simp only [sNum1, st1 hu, st3 hu]
  cases (t.1 != 2)
  ·exact ⟨rfl, hr⟩
  ·rfl
theorem sNum_b {ts us : List Tok} (h : tl ts us) : relX (fun p q => q.1 = p.1 ∧ tl p.2 q.2) (sNum ts) (sNum us) := by
 unfold sNum
 rw [tl_isH h]
 cases isH 3 [45] ts
 ·exact sNum1_b h
 ·exact sNum1_b (tl_tail h)
def clrS (s : Int × Ex) : Int × Ex := (s.1, mp 0 s.2)
def clrC (c : Cmd) : Cmd := (c.1, mp 0 c.2.1, c.2.2.map clrS)
def eqM (m n : Mdl) : Prop := n.1 = m.1 ∧ n.2.1 = m.2.1 ∧ n.2.2.1 = m.2.2.1 ∧ n.2.2.2.1 = m.2.2.2.1 ∧ n.2.2.2.2.map clrC = m.2.2.2.2.map clrC
theorem eqM_refl (m : Mdl) : eqM m m := ⟨rfl, rfl, rfl, rfl, rfl⟩
def eqP (p q : Mdl × List Tok) : Prop := eqM p.1 q.1 ∧ tl p.2 q.2
theorem sVar_b {m n : Mdl} {ts us : List Tok} (hm : eqM m n) (h : tl ts us) : relX eqP (sVar m ts) (sVar n us) := by
 obtain ⟨m1, m2, m3, m4, m5⟩ := hm
 unfold sVar
 rw [m1, m2, m3, m4]
 have b1 := sName_b (full := decide (16 ≤ (m.1.length : Int))) (names := m.1) (procs := m.2.2.2.1) h
 cases h1 : sName (decide (16 ≤ (m.1.length : Int))) m.1 m.2.2.2.1 ts with
 | error e => rw [h1] at b1; obtain ⟨f, hf, he⟩ := relX_err b1; rw [hf]; exact he
 | ok p1 =>
  rw [h1] at b1
  obtain ⟨⟨y1, u1⟩, hf, e1, t1⟩ := relX_ok b1
  obtain ⟨x1, s1⟩ := p1
  simp only at e1 t1
  subst e1
  rw [hf]
  simp only
  have b2 := sNum_b t1
  cases h2 : sNum s1 with
  | error e => rw [h2] at b2; obtain ⟨f, hf, he⟩ := relX_err b2; rw [hf]; exact he
  | ok p2 =>
   rw [h2] at b2
   obtain ⟨⟨y2, u2⟩, hf, e2, t2⟩ := relX_ok b2
   obtain ⟨x2, s2⟩ := p2
   simp only at e2 t2
   subst e2
   rw [hf]
   simp only
   have b3 := sNum_b t2
   cases h3 : sNum s2 with
   | error e => rw [h3] at b3; obtain ⟨f, hf, he⟩ := relX_err b3; rw [hf]; exact he
   | ok p3 =>
    rw [h3] at b3
    obtain ⟨⟨y3, u3⟩, hf, e3, t3⟩ := relX_ok b3
    obtain ⟨x3, s3⟩ := p3
    simp only at e3 t3
    subst e3
    rw [hf]
    simp only
    have b4 := sNum_b t3
    cases h4 : sNum s3 with
    | error e => rw [h4] at b4; obtain ⟨f, hf, he⟩ := relX_err b4; rw [hf]; exact he
    | ok p4 =>
     rw [h4] at b4
     obtain ⟨⟨y4, u4⟩, hf, e4, t4⟩ := relX_ok b4
     obtain ⟨x4, s4⟩ := p4
     simp only at e4 t4
     subst e4
     rw [hf]
     simp only
     have b5 := sSign_b (x := [59]) t4
     cases h5 : sSign [59] s4 with
     | error e => rw [h5] at b5; obtain ⟨f, hf, he⟩ := relX_err b5; rw [hf]; exact he
     | ok s5 =>
      rw [h5] at b5
      obtain ⟨u5, hf, t5⟩ := relX_ok b5
      rw [hf]
      simp only
      cases (!(rightB y2 y3) || decide (y4 < y2) || decide (y3 < y4))
      ·exact ⟨⟨rfl, rfl, rfl, rfl, m5⟩, t5⟩
      ·rfl
theorem readE_b {names : List Str} {ts us : List Tok} (h : tl ts us) : relO (readE names ts) (readE names us) := by
 by_cases hx : ∃ r, P names (.line 1) 0 ts r
 ·obtain ⟨r, hr⟩ := hx
  obtain ⟨r', p1, p2⟩ := hr.blank (.line 1) us rfl h
  rw [readE_eq hr, readE_eq p1]
  exact p2
 ·have hy : ¬ ∃ r, P names (.line 1) 0 us r := fun ⟨r, hr⟩ => by
   obtain ⟨r', p1, _⟩ := hr.blank (.line 1) ts rfl h.symm
   exact hx ⟨r', p1⟩
  unfold readE
  rw [dif_neg hx, dif_neg hy]
  rfl
theorem sExpr_b {want : Int} {names : List Str} {ts us : List Tok} (h : tl ts us) : relX (fun p q => mp 0 q.1 = mp 0 p.1 ∧ tl p.2 q.2) (sExpr want names ts) (sExpr want names us) := by
 unfold sExpr
 have b := readE_b (names := names) h
 cases h1 : readE names ts with
 | error e => rw [h1] at b; obtain ⟨f, hf, he⟩ := relO_err b; rw [hf]; exact he
 | ok p =>
  rw [h1] at b
  obtain ⟨⟨y, u⟩, hf, e1, t1⟩ := relO_ok b
  obtain ⟨x, s⟩ := p
  rw [hf]
  simp only at e1 t1 ⊢
  obtain ⟨r1, r2⟩ := rt_of e1
  rw [r1, r2]
  cases ((rt x).2.1 != 0)
  ·cases ((rt x).1 != want)
   ·exact ⟨e1, t1⟩
   ·rfl
  ·rfl
theorem twice_b {acc bcc : List (Int × Ex)} (h : bcc.map clrS = acc.map clrS) (i : Int) : twice bcc i = twice acc i := by
 unfold twice
 have e : ∀ l : List (Int × Ex), l.any (fun s => s.1 == i) = (l.map clrS).any (fun s => s.1 == i) := fun l => by
  rw [List.any_map]; rfl
 rw [e bcc, h, ← e acc]
theorem sOne_b {names : List Str} {acc bcc : List (Int × Ex)} {ts us : List Tok} (ha : bcc.map clrS = acc.map clrS) (h : tl ts us) : relX (fun p q => clrS q.1 = clrS p.1 ∧ tl p.2 q.2) (sOne names acc ts) (sOne names bcc us) := by
 cases ts with
 | nil =>
  have : us = [] := by simpa [tl] using h
  rw [this]; rfl
 | cons t r =>
  obtain ⟨u, r', rfl, hu, hr⟩ := map_cons h
  simp only [sOne, st1 hu, st2 hu, twice_b ha]
  cases (t.1 != 1)
  ·cases (decide (idxI names t.2.1 < 0) || twice acc (idxI names t.2.1))
   ·simp only [cond_false]
    have b1 := sSign_b (x := [61]) hr
    cases h1 : sSign [61] r with
    | error e => rw [h1] at b1; obtain ⟨f, hf, he⟩ := relX_err b1; rw [hf]; exact he
    | ok s1 =>
     rw [h1] at b1
     obtain ⟨u1, hf, t1⟩ := relX_ok b1
     rw [hf]
     simp only
     have b2 := sExpr_b (want := 1) (names := names) t1
     cases h2 : sExpr 1 names s1 with
     | error e => rw [h2] at b2; obtain ⟨f, hf, he⟩ := relX_err b2; rw [hf]; exact he
     | ok p2 =>
      rw [h2] at b2
      obtain ⟨⟨y2, u2⟩, hf, e2, t2⟩ := relX_ok b2
      rw [hf]
      exact ⟨by unfold clrS; rw [e2], t2⟩
   ·rfl
  ·rfl
theorem sSets_b {names : List Str} : ∀ (f : Nat) {acc bcc : List (Int × Ex)} {ts us : List Tok}, bcc.map clrS = acc.map clrS → tl ts us → relX (fun p q => q.1.map clrS = p.1.map clrS ∧ tl p.2 q.2) (sSets names f acc ts) (sSets names f bcc us)
 | 0, _, _, _, _, _, _ => rfl
 | f + 1, acc, bcc, ts, us, ha, h => by
  rw [sSets_one, sSets_one]
  have b1 := sOne_b (names := names) ha h
  cases h1 : sOne names acc ts with
  | error e => rw [h1] at b1; obtain ⟨g, hf, he⟩ := relX_err b1; rw [hf]; exact he
  | ok p1 =>
   rw [h1] at b1
   obtain ⟨⟨y1, u1⟩, hf, e1, t1⟩ := relX_ok b1
   obtain ⟨x1, s1⟩ := p1
   rw [hf]
   simp only at e1 t1 ⊢
   rw [tl_isH t1]
   have hc : (bcc ++ [y1]).map clrS = (acc ++ [x1]).map clrS := by simp [ha, e1]
   cases isH 3 [44] s1
   ·exact ⟨hc, t1⟩
   ·exact sSets_b f hc (tl_tail t1)
theorem sCmd_b {m n : Mdl} {ts us : List Tok} (hm : eqM m n) (h : tl ts us) : relX eqP (sCmd m ts) (sCmd n us) := by
 obtain ⟨m1, m2, m3, m4, m5⟩ := hm
 have hl : n.2.2.2.2.length = m.2.2.2.2.length := by simpa using congrArg List.length m5
 unfold sCmd
 rw [m1, m2, m3, m4, hl]
 cases decide (256 ≤ (m.2.2.2.2.length : Int))
 ·simp only [cond_false]
  have b1 := sExpr_b (want := 2) (names := m.1) h
  cases h1 : sExpr 2 m.1 ts with
  | error e => rw [h1] at b1; obtain ⟨f, hf, he⟩ := relX_err b1; rw [hf]; exact he
  | ok p1 =>
   rw [h1] at b1
   obtain ⟨⟨y1, u1⟩, hf, e1, t1⟩ := relX_ok b1
   obtain ⟨x1, s1⟩ := p1
   rw [hf]
   simp only at e1 t1 ⊢
   have b2 := sSign_b (x := [58]) t1
   cases h2 : sSign [58] s1 with
   | error e => rw [h2] at b2; obtain ⟨f, hf, he⟩ := relX_err b2; rw [hf]; exact he
   | ok s2 =>
    rw [h2] at b2
    obtain ⟨u2, hf, t2⟩ := relX_ok b2
    rw [hf]
    simp only
    rw [tl_len t2]
    have b3 := sSets_b (names := m.1) (s2.length + 1) (acc := []) (bcc := []) rfl t2
    cases h3 : sSets m.1 (s2.length + 1) [] s2 with
    | error e => rw [h3] at b3; obtain ⟨f, hf, he⟩ := relX_err b3; rw [hf]; exact he
    | ok p3 =>
     rw [h3] at b3
     obtain ⟨⟨y3, u3⟩, hf, e3, t3⟩ := relX_ok b3
     obtain ⟨x3, s3⟩ := p3
     rw [hf]
     simp only at e3 t3 ⊢
     have b4 := sSign_b (x := [59]) t3
     cases h4 : sSign [59] s3 with
     | error e => rw [h4] at b4; obtain ⟨f, hf, he⟩ := relX_err b4; rw [hf]; exact he
     | ok s4 =>
      rw [h4] at b4
      obtain ⟨u4, hf, t4⟩ := relX_ok b4
      rw [hf]
      exact ⟨⟨rfl, rfl, rfl, rfl, by simp [m5, clrC, e1, e3]⟩, t4⟩
 ·rfl
theorem sCmds_b : ∀ (f : Nat) {m n : Mdl} {ts us : List Tok}, eqM m n → tl ts us → relX eqP (sCmds f m ts) (sCmds f n us)
 | 0, _, _, _, _, _, _ => rfl
 | f + 1, m, n, ts, us, hm, h => by
  simp only [sCmds, tl_isH h]
  cases isH 3 [125] ts
  ·simp only [cond_false]
   have b1 := sCmd_b hm h
   cases h1 : sCmd m ts with
   | error e => rw [h1] at b1; obtain ⟨g, hf, he⟩ := relX_err b1; rw [hf]; exact he
   | ok p1 =>
    rw [h1] at b1
    obtain ⟨⟨y1, u1⟩, hf, e1, t1⟩ := relX_ok b1
    rw [hf]
    exact sCmds_b f e1 t1
  ·exact ⟨hm, tl_tail h⟩
theorem sProc_b {m n : Mdl} {ts us : List Tok} (hm : eqM m n) (h : tl ts us) : relX eqP (sProc m ts) (sProc n us) := by
 obtain ⟨m1, m2, m3, m4, m5⟩ := hm
 unfold sProc
 rw [m1, m2, m3, m4]
 have b1 := sName_b (full := false) (names := m.1) (procs := m.2.2.2.1) h
 cases h1 : sName false m.1 m.2.2.2.1 ts with
 | error e => rw [h1] at b1; obtain ⟨f, hf, he⟩ := relX_err b1; rw [hf]; exact he
 | ok p1 =>
  rw [h1] at b1
  obtain ⟨⟨y1, u1⟩, hf, e1, t1⟩ := relX_ok b1
  obtain ⟨x1, s1⟩ := p1
  simp only at e1 t1
  subst e1
  rw [hf]
  simp only
  have b2 := sSign_b (x := [123]) t1
  cases h2 : sSign [123] s1 with
  | error e => rw [h2] at b2; obtain ⟨f, hf, he⟩ := relX_err b2; rw [hf]; exact he
  | ok s2 =>
   rw [h2] at b2
   obtain ⟨u2, hf, t2⟩ := relX_ok b2
   rw [hf]
   simp only
   rw [tl_len t2]
   exact sCmds_b _ ⟨rfl, rfl, rfl, rfl, m5⟩ t2
theorem sItems_b : ∀ (f : Nat) {m n : Mdl} {ts us : List Tok}, eqM m n → tl ts us → relX eqM (sItems f m ts) (sItems f n us)
 | 0, _, _, _, _, _, _ => rfl
 | f + 1, m, n, ts, us, hm, h => by
  cases ts with
  | nil =>
   have : us = [] := by simpa [tl] using h
   rw [this]; rfl
  | cons t r =>
   obtain ⟨u, r', rfl, hu, hr⟩ := map_cons h
   simp only [sItems, st1 hu, tl_isT hu, hm.1]
   cases (t.1 == 4)
   ·simp only [cond_false]
    cases isT 1 [118, 97, 114] t
    ·cases isT 1 [112, 114, 111, 99] t
     ·rfl
     ·simp only [cond_false, cond_true]
      have b1 := sProc_b hm hr
      cases h1 : sProc m r with
      | error e => rw [h1] at b1; obtain ⟨g, hf, he⟩ := relX_err b1; rw [hf]; exact he
      | ok p1 =>
       rw [h1] at b1
       obtain ⟨⟨y1, u1⟩, hf, e1, t1⟩ := relX_ok b1
       rw [hf]
       exact sItems_b f e1 t1
    ·simp only [cond_true]
     have b1 := sVar_b hm hr
     cases h1 : sVar m r with
     | error e => rw [h1] at b1; obtain ⟨g, hf, he⟩ := relX_err b1; rw [hf]; exact he
     | ok p1 =>
      rw [h1] at b1
      obtain ⟨⟨y1, u1⟩, hf, e1, t1⟩ := relX_ok b1
      rw [hf]
      exact sItems_b f e1 t1
   ·cases m.1.isEmpty
    ·exact hm
    ·rfl
theorem sys_b {ts us : List Tok} (h : tl ts us) : relX eqM (Sy.sys ts) (Sy.sys us) := by
 unfold Sy.sys
 rw [tl_len h]
 exact sItems_b _ (eqM_refl _) h
end Mo
end Go.Proofs.YtdhgpnejphlfpaaDoor
namespace Go.Proofs.YtdhgpnejphlfpaaDoor
mutual
def same : Ex → Ex → Bool
 | .mk o n _ l, b => o == b.op && n == b.n && sameL l b.l
def sameL : List Ex → List Ex → Bool
 | [], [] => true
 | x :: l, y :: m => same x y && sameL l m
 | [], _ :: _ => false
 | _ :: _, [] => false
end
theorem same_eq (a b : Ex) : same a b = (a.op == b.op && a.n == b.n && sameL a.l b.l) := by cases a; simp only [same, Ex.op, Ex.n, Ex.l]
theorem sameL_len : ∀ (l m : List Ex), l.length ≠ m.length → sameL l m = false
 | [], [], h => absurd rfl h
 | x :: l, y :: m, h => by simp only [sameL, sameL_len l m (by simpa using h), Bool.and_false]
 | [], _ :: _, _ => by simp only [sameL]
 | _ :: _, [], _ => by simp only [sameL]
theorem same_loop (k : Ex × Ex → Option Bool) (a b : Ex) (hk : ∀ x ∈ a.l, ∀ y, k (x, y) = some (same x y)) (hl : a.l.length < 4611686018427387904) :
  ∀ (r r' pre pre' : List Ex), a.l = pre ++ r → b.l = pre' ++ r' → pre.length = pre'.length → r.length = r'.length → ∀ (M : Nat), r.length < M → fixN (scrutinyref13_Same_L1 k a b) M (pre.length : Int) = some (sameL r r')
 | [], r', pre, pre', h, h', _, hrr, M, hM => by
  obtain ⟨m, rfl⟩ : ∃ m, M = m + 1 := ⟨M - 1, by simp at hM; omega⟩
  obtain rfl : r' = [] := List.eq_nil_of_length_eq_zero (by simpa using hrr.symm)
  rw [fixN_succ]
  simp only [scrutinyref13_Same_L1, lt_f h, cond_false, sameL]
 | x :: r, r', pre, pre', h, h', hpp, hrr, M, hM => by
  obtain ⟨m, rfl⟩ : ∃ m, M = m + 1 := ⟨M - 1, by omega⟩
  obtain ⟨y, r'', rfl⟩ : ∃ y t, r' = y :: t := by
   cases r' with
   | nil => simp at hrr
   | cons y t => exact ⟨y, t, rfl⟩
  rw [fixN_succ]
  have hlen : pre.length < 4611686018427387904 := by rw [h] at hl; simp at hl; omega
  have hx := hk x (by rw [h]; simp) y
  have ih := same_loop k a b hk hl r r'' (pre ++ [x]) (pre' ++ [y]) (by rw [h]; simp) (by rw [h']; simp) (by simp [hpp]) (by simpa using hrr) m (by simp at hM; omega)
  rw [show ((pre ++ [x]).length : Int) = ((pre.length + 1 : Nat) : Int) by simp] at ih
  have hy : idx b.l (pre.length : Int) = some y := by rw [hpp]; exact idx_mid h'
  simp only [scrutinyref13_Same_L1, lt_t h, cond_true, idx_mid h, hy, bind_s, hx, next_ix hlen, sameL]
  cases same x y
  ·rfl
  ·simp only [Bool.not_true, cond_false, Bool.true_and]; exact ih
theorem same_some : ∀ (N : Nat) (a b : Ex), a.sz ≤ N → a.sz < 4611686018427387904 → fixN (fun k (s : Ex × Ex) => scrutinyref13_Same_F k s.1 s.2) N (a, b) = some (same a b) := by
 intro N
 induction N with
 | zero => intro e _ h; have := sz_pos e; omega
 | succ N ih =>
  intro a b h hb
  rw [fixN_succ]
  have hl := len_lt a
  show scrutinyref13_Same_F _ a b = _
  unfold scrutinyref13_Same_F
  simp only [letv_e, bne]
  rw [same_eq]
  cases (a.op == b.op)
  ·rfl
  cases (a.n == b.n)
  ·rfl
  cases hq : ((List.length a.l : Int) == (List.length b.l : Int))
  ·simp only [Bool.not_true, Bool.or_false, Bool.not_false, Bool.or_true, cond_true, Bool.true_and]
   rw [sameL_len _ _ (by have := beq_eq_false_iff_ne.1 hq; omega)]
  ·simp only [Bool.not_true, Bool.or_false, cond_false, Bool.true_and]
   have hq' := beq_iff_eq.1 hq
   exact same_loop (fixN (fun k (s : Ex × Ex) => scrutinyref13_Same_F k s.1 s.2) N) a b (fun x hx y => ih x y (by have := sz_lt hx; omega) (by have := sz_lt hx; omega)) (by omega) a.l b.l [] [] rfl rfl rfl (by omega) FUEL (by show a.l.length < 2 ^ 64; omega)
theorem RSame_eq (a b : Ex) (h : a.sz < 4611686018427387904) : scrutinyref13_Same a b = some (same a b) := same_some FUEL a b (by show a.sz ≤ 2 ^ 64; omega) h
end Go.Proofs.YtdhgpnejphlfpaaDoor
namespace Go.Proofs.YtdhgpnejphlfpaaDoor
def all2 {α β : Type} (R : α → β → Bool) : List α → List β → Bool
 | [], [] => true
 | x :: l, y :: m => R x y && all2 R l m
 | _, _ => false
theorem all2_len {α β : Type} {R : α → β → Bool} : ∀ {l : List α} {m : List β}, l.length ≠ m.length → all2 R l m = false
 | [], [], h => absurd rfl h
 | x :: l, y :: m, h => by simp only [all2, all2_len (l := l) (m := m) (by simpa using h), Bool.and_false]
 | [], _ :: _, _ => rfl
 | _ :: _, [], _ => rfl
theorem all2_eq {α : Type} [DecidableEq α] : ∀ (l m : List α), all2 (fun x y => decide (x = y)) l m = decide (l = m)
 | [], [] => by simp [all2]
 | x :: l, y :: m => by
  simp only [all2, all2_eq l m, List.cons.injEq, Bool.decide_and]
 | [], _ :: _ => by simp [all2]
 | _ :: _, [] => by simp [all2]
theorem all2_loop {α β : Type} {F : (Int → Option Bool) → Int → Option Bool} {s1 : List α} {s2 : List β} {R : α → β → Bool} (hl : s1.length < 4611686018427387904)
  (hstep : ∀ again (i : Nat) (x : α) (y : β), s1[i]? = some x → s2[i]? = some y → F again (i : Int) = bif R x y then again (((i + 1 : Nat) : Int)) else some false)
  (hend : ∀ again, F again (s1.length : Int) = some true) :
  ∀ (r : List α) (r' : List β) (pre : List α) (pre' : List β), s1 = pre ++ r → s2 = pre' ++ r' → pre.length = pre'.length → r.length = r'.length → ∀ M, r.length < M → fixN F M (pre.length : Int) = some (all2 R r r')
 | [], r', pre, pre', h, h', hp, hr, M, hM => by
  obtain ⟨m, rfl⟩ : ∃ m, M = m + 1 := ⟨M - 1, by simp at hM; omega⟩
  obtain rfl : r' = [] := List.eq_nil_of_length_eq_zero (by simpa using hr.symm)
  rw [fixN_succ]
  have : pre = s1 := by simpa using h.symm
  rw [this]
  exact hend _
 | x :: r, [], pre, pre', h, h', hp, hr, M, hM => by simp at hr
 | x :: r, y :: r', pre, pre', h, h', hp, hr, M, hM => by
  obtain ⟨m, rfl⟩ : ∃ m, M = m + 1 := ⟨M - 1, by omega⟩
  rw [fixN_succ]
  have ih := all2_loop hl hstep hend r r' (pre ++ [x]) (pre' ++ [y]) (by rw [h]; simp) (by rw [h']; simp) (by simp [hp]) (by simpa using hr) m (by simp at hM; omega)
  rw [show ((pre ++ [x]).length : Int) = ((pre.length + 1 : Nat) : Int) by simp] at ih
  rw [hstep _ pre.length x y (by rw [h]; simp) (by rw [h', hp]; simp), ih]
  simp only [all2]
  cases R x y <;> rfl
theorem all2_fix {α β : Type} {F : (Int → Option Bool) → Int → Option Bool} {s1 : List α} {s2 : List β} {R : α → β → Bool} (hl : s1.length < 4611686018427387904) (he : s1.length = s2.length)
  (hstep : ∀ again (i : Nat) (x : α) (y : β), s1[i]? = some x → s2[i]? = some y → F again (i : Int) = bif R x y then again (((i + 1 : Nat) : Int)) else some false)
  (hend : ∀ again, F again (s1.length : Int) = some true) : fixN F FUEL 0 = some (all2 R s1 s2) :=
 all2_loop hl hstep hend s1 s2 [] [] rfl rfl rfl he FUEL (by show _ < 2 ^ 64; omega)
theorem some_ix {α : Type} {l : List α} {i : Nat} {x : α} (h : l[i]? = some x) : idx l (i : Int) = some x ∧ i < l.length := ⟨by simp [idx, h], (List.getElem?_eq_some_iff.1 h).1⟩
theorem len_ne {α β : Type} {l : List α} {m : List β} : ((List.length l : Int) != (List.length m : Int)) = !decide (l.length = m.length) := by
 by_cases h : l.length = m.length
 ·rw [decide_eq_true h, h]; simp
 ·rw [decide_eq_false h]; simp; omega
mutual
theorem same_mp : ∀ x y : Ex, mp 0 x = mp 0 y → same x y = true
 | .mk o n a l, .mk o' n' a' l', h => by
  simp only [mp, Ex.mk.injEq, true_and] at h
  obtain ⟨h1, h2, h3⟩ := h
  subst h1
  have hn : n = n' := by
   cases hc : (o == 2)
   ·rw [hc] at h2; exact h2
   ·rw [hc] at h2; simp only [cond_true] at h2; omega
  subst hn
  rw [same_eq]
  simp only [Ex.op, Ex.n, Ex.l, beq_self_eq_true, Bool.true_and]
  exact sameL_mp l l' h3
theorem sameL_mp : ∀ l m : List Ex, mpL 0 l = mpL 0 m → sameL l m = true
 | [], [], _ => by simp only [sameL]
 | x :: l, y :: m, h => by
  simp only [mpL, List.cons.injEq] at h
  simp only [sameL, same_mp x y h.1, sameL_mp l m h.2, Bool.and_self]
 | [], _ :: _, h => by simp [mpL] at h
 | _ :: _, [], h => by simp [mpL] at h
end
namespace Mo
open Pa Sy
def sameS (x y : Int × Ex) : Bool := x.1 == y.1 && same x.2 y.2
def sameC (x y : Cmd) : Bool := x.1 == y.1 && same x.2.1 y.2.1 && all2 sameS x.2.2 y.2.2
def sameM (m n : Mdl) : Bool := decide (m.1 = n.1) && decide (m.2.1 = n.2.1) && decide (m.2.2.1 = n.2.2.1) && decide (m.2.2.2.1 = n.2.2.2.1) && all2 sameC m.2.2.2.2 n.2.2.2.2
theorem sameS_all : ∀ (l m : List (Int × Ex)), m.map clrS = l.map clrS → all2 sameS l m = true
 | [], [], _ => rfl
 | x :: l, y :: m, h => by
  simp only [List.map_cons, List.cons.injEq] at h
  obtain ⟨h1, h2⟩ := h
  have e1 : y.1 = x.1 := congrArg (·.1) h1
  have e2 : mp 0 y.2 = mp 0 x.2 := congrArg (·.2) h1
  simp only [all2, sameS, e1, beq_self_eq_true, same_mp x.2 y.2 e2.symm, sameS_all l m h2, Bool.and_self]
 | [], _ :: _, h => by simp at h
 | _ :: _, [], h => by simp at h
theorem sameC_all : ∀ (l m : List Cmd), m.map clrC = l.map clrC → all2 sameC l m = true
 | [], [], _ => rfl
 | x :: l, y :: m, h => by
  simp only [List.map_cons, List.cons.injEq] at h
  obtain ⟨h1, h2⟩ := h
  have e1 : y.1 = x.1 := congrArg (·.1) h1
  have e2 : mp 0 y.2.1 = mp 0 x.2.1 := congrArg (·.2.1) h1
  have e3 : y.2.2.map clrS = x.2.2.map clrS := congrArg (·.2.2) h1
  simp only [all2, sameC, e1, beq_self_eq_true, same_mp x.2.1 y.2.1 e2.symm, sameS_all _ _ e3, sameC_all l m h2, Bool.and_self]
 | [], _ :: _, h => by simp at h
 | _ :: _, [], h => by simp at h
theorem sameM_eq {m n : Mdl} (h : eqM m n) : sameM m n = true := by
 obtain ⟨h1, h2, h3, h4, h5⟩ := h
 unfold sameM
 rw [h1, h2, h3, h4, sameC_all _ _ h5]
 simp
structure Sml (m : Mdl) : Prop where
 names : m.1.length < 4611686018427387904
 schema : m.2.1.length < 4611686018427387904
 init : m.2.2.1.length < 4611686018427387904
 procs : m.2.2.2.1.length < 4611686018427387904
 cmds : m.2.2.2.2.length < 4611686018427387904
 cmd : ∀ c ∈ m.2.2.2.2, c.2.1.sz < 4611686018427387904 ∧ c.2.2.length < 4611686018427387904 ∧ ∀ s ∈ c.2.2, s.2.sz < 4611686018427387904
theorem Sml.empty : Sml ([], [], [], [], []) := ⟨by decide, by decide, by decide, by decide, by decide, fun c h => by cases h⟩
theorem Sml.of {m : Mdl} (h : Part m) (hq : m.2.2.2.1.length < 4611686018427387904) : Sml m := ⟨by have := h.names; omega, by have := h.schema; have := h.names; omega, by have := h.init; have := h.names; omega, hq, by have := h.cmds; omega, fun c hc => by
 have := h.cmd c hc
 exact ⟨by have := this.sz; omega, by have := this.len; omega, fun s hs => by have := (this.sets s hs).sz; omega⟩⟩
theorem strs_m {l m : List Str} (hl : l.length < 4611686018427387904) : slices_Equal_string_string l m = some (decide (l = m)) := by
 unfold slices_Equal_string_string
 rw [len_ne]
 by_cases h : l.length = m.length
 ·rw [decide_eq_true h]
  rw [Bool.not_true, cond_false, all2_fix (R := fun x y => decide (x = y)) hl h (fun again i x y hx hy => ?_) (fun again => ?_), all2_eq]
  ·obtain ⟨x1, x2⟩ := some_ix hx
   obtain ⟨y1, y2⟩ := some_ix hy
   simp only [slices_Equal_string_string_L1, x1, y1, bind_s, decide_eq_true (show ((i : Nat) : Int) < (l.length : Int) by omega), cond_true, Pa.wrap1 (show i < 4611686018427387904 by omega)]
   by_cases e : x = y
   ·rw [decide_eq_true e, e]; simp
   ·rw [decide_eq_false e, show (x != y) = true by simpa using e]; rfl
  ·simp only [slices_Equal_string_string_L1, decide_eq_false (show ¬ (l.length : Int) < (l.length : Int) by omega), cond_false]
 ·rw [decide_eq_false h, decide_eq_false (fun e => h (by rw [e]))]; rfl
theorem ints_m {l m : List Int} (hl : l.length < 4611686018427387904) : slices_Equal_int_int l m = some (decide (l = m)) := by
 unfold slices_Equal_int_int
 rw [len_ne]
 by_cases h : l.length = m.length
 ·rw [decide_eq_true h]
  rw [Bool.not_true, cond_false, all2_fix (R := fun x y => decide (x = y)) hl h (fun again i x y hx hy => ?_) (fun again => ?_), all2_eq]
  ·obtain ⟨x1, x2⟩ := some_ix hx
   obtain ⟨y1, y2⟩ := some_ix hy
   simp only [slices_Equal_int_int_L1, x1, y1, bind_s, decide_eq_true (show ((i : Nat) : Int) < (l.length : Int) by omega), cond_true, Pa.wrap1 (show i < 4611686018427387904 by omega)]
   by_cases e : x = y
   ·rw [decide_eq_true e, e]; simp
   ·rw [decide_eq_false e, show (x != y) = true by simpa using e]; rfl
  ·simp only [slices_Equal_int_int_L1, decide_eq_false (show ¬ (l.length : Int) < (l.length : Int) by omega), cond_false]
 ·rw [decide_eq_false h, decide_eq_false (fun e => h (by rw [e]))]; rfl
theorem eqT44_dec (x y : Int × Int) : eqT44 x.1 x.2 y.1 y.2 = decide (x = y) := by
 obtain ⟨a, b⟩ := x
 obtain ⟨c, d⟩ := y
 simp only [eqT44, Prod.mk.injEq, Bool.decide_and]
 congr 1
theorem fields_m {l m : List (Int × Int)} (hl : l.length < 4611686018427387904) : slices_Equal_api_Field_api_Field l m = some (decide (l = m)) := by
 unfold slices_Equal_api_Field_api_Field
 rw [len_ne]
 by_cases h : l.length = m.length
 ·rw [decide_eq_true h]
  rw [Bool.not_true, cond_false, all2_fix (R := fun x y => decide (x = y)) hl h (fun again i x y hx hy => ?_) (fun again => ?_), all2_eq]
  ·obtain ⟨x1, x2⟩ := some_ix hx
   obtain ⟨y1, y2⟩ := some_ix hy
   simp only [slices_Equal_api_Field_api_Field_L1, x1, y1, bind_s, decide_eq_true (show ((i : Nat) : Int) < (l.length : Int) by omega), cond_true, Pa.wrap1 (show i < 4611686018427387904 by omega), eqT44_dec]
   cases decide (x = y) <;> rfl
  ·simp only [slices_Equal_api_Field_api_Field_L1, decide_eq_false (show ¬ (l.length : Int) < (l.length : Int) by omega), cond_false]
 ·rw [decide_eq_false h, decide_eq_false (fun e => h (by rw [e]))]; rfl
theorem names_m {l m : List Str} (hl : l.length < 4611686018427387904) : scrutinyref14_names l m = some (decide (l = m)) := by
 unfold scrutinyref14_names
 rw [len_ne]
 by_cases h : l.length = m.length
 ·rw [decide_eq_true h]
  rw [Bool.not_true, cond_false, all2_fix (R := fun x y => decide (x = y)) hl h (fun again i x y hx hy => ?_) (fun again => ?_), all2_eq]
  ·obtain ⟨x1, x2⟩ := some_ix hx
   obtain ⟨y1, y2⟩ := some_ix hy
   simp only [scrutinyref14_names_L1, x1, y1, bind_s, decide_eq_true (show ((i : Nat) : Int) < (l.length : Int) by omega), cond_true, Pa.wrap1 (show i < 4611686018427387904 by omega)]
   by_cases e : x = y
   ·rw [decide_eq_true e, e]; simp
   ·rw [decide_eq_false e, show (x != y) = true by simpa using e]; rfl
  ·simp only [scrutinyref14_names_L1, decide_eq_false (show ¬ (l.length : Int) < (l.length : Int) by omega), cond_false]
 ·rw [decide_eq_false h, decide_eq_false (fun e => h (by rw [e]))]; rfl
theorem vec_m {l m : List Int} (hl : l.length < 4611686018427387904) : scrutinyref02_Vec l m = some (decide (l = m)) := by
 unfold scrutinyref02_Vec
 rw [len_ne]
 by_cases h : l.length = m.length
 ·rw [decide_eq_true h]
  rw [Bool.not_true, cond_false, all2_fix (R := fun x y => decide (x = y)) hl h (fun again i x y hx hy => ?_) (fun again => ?_), all2_eq]
  ·obtain ⟨x1, x2⟩ := some_ix hx
   obtain ⟨y1, y2⟩ := some_ix hy
   simp only [scrutinyref02_Vec_L1, x1, y1, bind_s, decide_eq_true (show ((i : Nat) : Int) < (l.length : Int) by omega), cond_true, Pa.wrap1 (show i < 4611686018427387904 by omega)]
   by_cases e : x = y
   ·rw [decide_eq_true e, e]; simp
   ·rw [decide_eq_false e, show (x != y) = true by simpa using e]; rfl
  ·simp only [scrutinyref02_Vec_L1, decide_eq_false (show ¬ (l.length : Int) < (l.length : Int) by omega), cond_false]
 ·rw [decide_eq_false h, decide_eq_false (fun e => h (by rw [e]))]; rfl
/-! the program's Same -/
theorem sameL_all2 : ∀ l m : List Ex, sameL l m = all2 same l m
 | [], [] => by simp only [sameL, all2]
 | x :: l, y :: m => by simp only [sameL, all2, sameL_all2 l m]
 | [], _ :: _ => by simp only [sameL, all2]
 | _ :: _, [] => by simp only [sameL, all2]
theorem psame_some : ∀ (N : Nat) (a b : Ex), a.sz ≤ N → a.sz < 4611686018427387904 → fixN (fun k (s : Ex × Ex) => expr_Same_F k s.1 s.2) N (a, b) = some (same a b) := by
 intro N
 induction N with
 | zero => intro e _ h; have := sz_pos e; omega
 | succ N ih =>
  intro a b h hb
  rw [fixN_succ]
  have hl := len_lt a
  show expr_Same_F _ a b = _
  generalize fixN (fun k (s : Ex × Ex) => expr_Same_F k s.1 s.2) N = kk at ih ⊢
  unfold expr_Same_F
  simp only [letv_e]
  rw [same_eq]
  cases ha : (a.op == b.op && a.n == b.n)
  ·rfl
  ·rw [callG_tt]
   have : slices_EqualFunc_api_Expr_api_Expr_api_Expr_api_Expr kk a.l b.l = some (sameL a.l b.l) := by
    unfold slices_EqualFunc_api_Expr_api_Expr_api_Expr_api_Expr
    rw [len_ne, sameL_all2]
    by_cases hq : a.l.length = b.l.length
    ·rw [decide_eq_true hq]
     rw [Bool.not_true, cond_false]
     refine all2_fix (by omega) hq (fun again i x y hx hy => ?_) (fun again => ?_)
     ·obtain ⟨x1, x2⟩ := some_ix hx
      obtain ⟨y1, y2⟩ := some_ix hy
      have hm : x ∈ a.l := List.mem_of_getElem? hx
      have := sz_lt hm
      have i1 := ih x y (by omega) (by omega)
      simp only [slices_EqualFunc_api_Expr_api_Expr_api_Expr_api_Expr_L1, x1, y1, bind_s, decide_eq_true (show ((i : Nat) : Int) < (a.l.length : Int) by omega), cond_true, Pa.wrap1 (show i < 4611686018427387904 by omega), i1]
      cases same x y <;> rfl
     ·simp only [slices_EqualFunc_api_Expr_api_Expr_api_Expr_api_Expr_L1, decide_eq_false (show ¬ (a.l.length : Int) < (a.l.length : Int) by omega), cond_false]
    ·rw [decide_eq_false hq, all2_len hq]; rfl
   rw [this, bind_s]
theorem PSame_eq (a b : Ex) (h : a.sz < 4611686018427387904) : expr_Same a b = some (same a b) := psame_some FUEL a b (by show a.sz ≤ 2 ^ 64; omega) h
theorem sets_same {l m : List (Int × Ex)} (hl : l.length < 4611686018427387904) (hs : ∀ s ∈ l, s.2.sz < 4611686018427387904) : slices_EqualFunc_api_Set_api_Set_api_Set_api_Set l m = some (all2 sameS l m) := by
 unfold slices_EqualFunc_api_Set_api_Set_api_Set_api_Set
 rw [len_ne]
 by_cases hq : l.length = m.length
 ·rw [decide_eq_true hq]
  rw [Bool.not_true, cond_false]
  refine all2_fix hl hq (fun again i x y hx hy => ?_) (fun again => ?_)
  ·obtain ⟨x1, x2⟩ := some_ix hx
   obtain ⟨y1, y2⟩ := some_ix hy
   have i1 := PSame_eq x.2 y.2 (hs x (List.mem_of_getElem? hx))
   have hc : model_Same_c1 x y = some (sameS x y) := by
    simp only [model_Same_c1, letv_e, i1, sameS]
    cases (x.1 == y.1) <;> rfl
   simp only [slices_EqualFunc_api_Set_api_Set_api_Set_api_Set_L1, x1, y1, bind_s, decide_eq_true (show ((i : Nat) : Int) < (l.length : Int) by omega), cond_true, Pa.wrap1 (show i < 4611686018427387904 by omega), hc]
   cases sameS x y <;> rfl
  ·simp only [slices_EqualFunc_api_Set_api_Set_api_Set_api_Set_L1, decide_eq_false (show ¬ (l.length : Int) < (l.length : Int) by omega), cond_false]
 ·rw [decide_eq_false hq, all2_len hq]; rfl
theorem cmds_same {l m : List Cmd} (hl : l.length < 4611686018427387904) (hs : ∀ c ∈ l, c.2.1.sz < 4611686018427387904 ∧ c.2.2.length < 4611686018427387904 ∧ ∀ s ∈ c.2.2, s.2.sz < 4611686018427387904) :
  slices_EqualFunc_api_Cmd_api_Cmd_api_Cmd_api_Cmd l m = some (all2 sameC l m) := by
 unfold slices_EqualFunc_api_Cmd_api_Cmd_api_Cmd_api_Cmd
 rw [len_ne]
 by_cases hq : l.length = m.length
 ·rw [decide_eq_true hq]
  rw [Bool.not_true, cond_false]
  refine all2_fix hl hq (fun again i x y hx hy => ?_) (fun again => ?_)
  ·obtain ⟨x1, x2⟩ := some_ix hx
   obtain ⟨y1, y2⟩ := some_ix hy
   obtain ⟨c1, c2, c3⟩ := hs x (List.mem_of_getElem? hx)
   have i1 := PSame_eq x.2.1 y.2.1 c1
   have i2 := sets_same (m := y.2.2) c2 c3
   have hc : model_Same_c2 x y = some (sameC x y) := by
    simp only [model_Same_c2, letv_e, i1, i2, sameC]
    cases (x.1 == y.1)
    ·rfl
    ·cases same x.2.1 y.2.1 <;> rfl
   simp only [slices_EqualFunc_api_Cmd_api_Cmd_api_Cmd_api_Cmd_L1, x1, y1, bind_s, decide_eq_true (show ((i : Nat) : Int) < (l.length : Int) by omega), cond_true, Pa.wrap1 (show i < 4611686018427387904 by omega), hc]
   cases sameC x y <;> rfl
  ·simp only [slices_EqualFunc_api_Cmd_api_Cmd_api_Cmd_api_Cmd_L1, decide_eq_false (show ¬ (l.length : Int) < (l.length : Int) by omega), cond_false]
 ·rw [decide_eq_false hq, all2_len hq]; rfl
theorem Same_m {m n : Mdl} (h : Sml m) : model_Same m n = some (sameM m n) := by
 unfold model_Same
 rw [strs_m h.names, bind_s, fields_m h.schema, ints_m h.init, strs_m h.procs, cmds_same h.cmds h.cmd]
 unfold sameM
 cases decide (m.1 = n.1)
 ·rfl
 cases decide (m.2.1 = n.2.1)
 ·rfl
 cases decide (m.2.2.1 = n.2.2.1)
 ·rfl
 cases decide (m.2.2.2.1 = n.2.2.2.1)
 ·rfl
 rfl
/-! the document's Same -/
theorem ref_sets {m n : Mdl} {i : Nat} {c d : Cmd} (hc : m.2.2.2.2[i]? = some c) (hd : n.2.2.2.2[i]? = some d) (hl : c.2.2.length < 4611686018427387904) (hs : ∀ s ∈ c.2.2, s.2.sz < 4611686018427387904)
  (_he : c.2.2.length = d.2.2.length) (again : Int → Option Bool) : ∀ (r r' pre pre' : List (Int × Ex)), c.2.2 = pre ++ r → d.2.2 = pre' ++ r' → pre.length = pre'.length → r.length = r'.length → ∀ M, r.length < M →
  fixN (scrutinyref14_Same_L3 m n (i : Int) again) M (pre.length : Int) = bif all2 sameS r r' then again (IntKind.i64.wrap ((i : Int) + 1)) else some false := by
 obtain ⟨c1, c2⟩ := some_ix hc
 obtain ⟨d1, d2⟩ := some_ix hd
 intro r
 induction r with
 | nil =>
  intro r' pre pre' h h' hp hr M hM
  obtain ⟨k, rfl⟩ : ∃ k, M = k + 1 := ⟨M - 1, by simp at hM; omega⟩
  obtain rfl : r' = [] := List.eq_nil_of_length_eq_zero (by simpa using hr.symm)
  rw [fixN_succ]
  simp only [scrutinyref14_Same_L3, c1, bind_s, Sy.len_f h, cond_false]
  rfl
 | cons x r ih =>
  intro r' pre pre' h h' hp hr M hM
  obtain ⟨k, rfl⟩ : ∃ k, M = k + 1 := ⟨M - 1, by omega⟩
  obtain ⟨y, r'', rfl⟩ : ∃ y t, r' = y :: t := by
   cases r' with
   | nil => simp at hr
   | cons y t => exact ⟨y, t, rfl⟩
  rw [fixN_succ]
  have hlen : pre.length < 4611686018427387904 := by rw [h] at hl; simp at hl; omega
  have ih := ih r'' (pre ++ [x]) (pre' ++ [y]) (by rw [h]; simp) (by rw [h']; simp) (by simp [hp]) (by simpa using hr) k (by simp at hM; omega)
  rw [show ((pre ++ [x]).length : Int) = ((pre.length + 1 : Nat) : Int) by simp] at ih
  have hy : idx d.2.2 (pre.length : Int) = some y := by rw [hp]; exact Sy.mid h'
  have hsx := RSame_eq x.2 y.2 (hs x (by rw [h]; simp))
  simp only [scrutinyref14_Same_L3, c1, d1, bind_s, Sy.len_t h, cond_true, Sy.mid h, hy, hsx, letv_e, next_ix hlen, ih, all2, sameS]
  cases same x.2 y.2
  ·rw [Bool.and_false]; rfl
  ·simp only [Bool.not_true, Bool.not_false, callG_v, cond_true, Bool.false_or, bne, Sy.mid h, hy]
   cases (x.1 == y.1) <;> rfl
theorem RSame_m {m n : Mdl} (h : Sml m) : scrutinyref14_Same m n = some (sameM m n) := by
 unfold scrutinyref14_Same
 rw [names_m h.names, bind_s, names_m h.procs, bind_s, vec_m h.init, bind_s]
 simp only [letv_e, len_ne]
 unfold sameM
 by_cases h1 : m.1 = n.1
 case neg => rw [decide_eq_false h1]; rfl
 by_cases h4 : m.2.2.2.1 = n.2.2.2.1
 case neg => rw [decide_eq_false h4]; simp
 by_cases h3 : m.2.2.1 = n.2.2.1
 case neg => rw [decide_eq_false h3]; simp
 by_cases l2 : m.2.1.length = n.2.1.length
 case neg => rw [decide_eq_false l2, decide_eq_false (fun e : m.2.1 = n.2.1 => l2 (by rw [e]))]; simp
 by_cases l5 : m.2.2.2.2.length = n.2.2.2.2.length
 case neg => rw [decide_eq_false l5, all2_len l5]; simp
 rw [decide_eq_true h1, decide_eq_true h4, decide_eq_true h3, decide_eq_true l2, decide_eq_true l5]
 simp only [Bool.not_true, Bool.or_false, cond_false, Bool.and_true, Bool.true_and]
 have cm : fixN (scrutinyref14_Same_L2 m n) FUEL 0 = some (all2 sameC m.2.2.2.2 n.2.2.2.2) := by
  refine all2_fix h.cmds l5 (fun again i x y hx hy => ?_) (fun again => ?_)
  ·obtain ⟨x1, x2⟩ := some_ix hx
   obtain ⟨y1, y2⟩ := some_ix hy
   obtain ⟨c1, c2, c3⟩ := h.cmd x (List.mem_of_getElem? hx)
   have i1 := RSame_eq x.2.1 y.2.1 c1
   have hlc := h.cmds
   have i2 := fun he => ref_sets hx hy c2 c3 he again x.2.2 y.2.2 [] [] rfl rfl rfl he FUEL (by show _ < 2 ^ 64; omega)
   simp only [scrutinyref14_Same_L2, x1, y1, bind_s, decide_eq_true (show ((i : Nat) : Int) < (m.2.2.2.2.length : Int) by omega), cond_true, i1, letv_e, len_ne, sameC]
   cases same x.2.1 y.2.1
   ·rw [Bool.and_false, Bool.false_and]; rfl
   ·simp only [Bool.not_true, Bool.not_false, callG_v, cond_true, Bool.false_or, bne]
    by_cases hq : (x.1 == y.1) = true
    case neg =>
     have hq' : (x.1 == y.1) = false := by simpa using hq
     simp only [hq', Bool.not_false, Bool.true_or, cond_true, Bool.false_and, cond_false]
    ·simp only [hq, Bool.not_true, Bool.not_false, cond_true, Bool.false_or, Bool.and_true, Bool.true_and]
     by_cases he : x.2.2.length = y.2.2.length
     ·rw [decide_eq_true he]
      simp only [Bool.not_true, cond_false]
      have := i2 he
      rw [Pa.wrap1 (show i < 4611686018427387904 by omega)] at this
      exact this
     ·rw [decide_eq_false he, all2_len he]; rfl
  ·simp only [scrutinyref14_Same_L2, decide_eq_false (show ¬ (m.2.2.2.2.length : Int) < (m.2.2.2.2.length : Int) by omega), cond_false]
 -- the ranges, and then the commands
 have key : ∀ (r r' pre pre' : List (Int × Int)), m.2.1 = pre ++ r → n.2.1 = pre' ++ r' → pre.length = pre'.length → r.length = r'.length → ∀ M, r.length < M →
   fixN (scrutinyref14_Same_L1 m n) M (pre.length : Int) = some (decide (r = r') && all2 sameC m.2.2.2.2 n.2.2.2.2) := by
  intro r
  induction r with
  | nil =>
   intro r' pre pre' h h' hp hr M hM
   obtain ⟨k, rfl⟩ : ∃ k, M = k + 1 := ⟨M - 1, by simp at hM; omega⟩
   obtain rfl : r' = [] := List.eq_nil_of_length_eq_zero (by simpa using hr.symm)
   rw [fixN_succ]
   simp only [scrutinyref14_Same_L1, Sy.len_f h, cond_false]
   rw [cm]; rfl
  | cons x r ih =>
   intro r' pre pre' h' h'' hp hr M hM
   obtain ⟨k, rfl⟩ : ∃ k, M = k + 1 := ⟨M - 1, by omega⟩
   obtain ⟨y, r'', rfl⟩ : ∃ y t, r' = y :: t := by
    cases r' with
    | nil => simp at hr
    | cons y t => exact ⟨y, t, rfl⟩
   rw [fixN_succ]
   have hlen : pre.length < 4611686018427387904 := by have hl := h.schema; rw [h'] at hl; simp at hl; omega
   have ih := ih r'' (pre ++ [x]) (pre' ++ [y]) (by rw [h']; simp) (by rw [h'']; simp) (by simp [hp]) (by simpa using hr) k (by simp at hM; omega)
   rw [show ((pre ++ [x]).length : Int) = ((pre.length + 1 : Nat) : Int) by simp] at ih
   have hy : idx n.2.1 (pre.length : Int) = some y := by rw [hp]; exact Sy.mid h''
   simp only [scrutinyref14_Same_L1, bind_s, Sy.len_t h', cond_true, Sy.mid h', hy, eqT44_dec, next_ix hlen, ih, List.cons.injEq, Bool.decide_and]
   cases decide (x = y) <;> rfl
 exact key m.2.1 n.2.1 [] [] rfl rfl rfl l2 FUEL (by have := h.schema; show _ < 2 ^ 64; omega)
end Mo
end Go.Proofs.YtdhgpnejphlfpaaDoor
namespace Go.Proofs.YtdhgpnejphlfpaaDoor
namespace Mo
open Pa Sy
noncomputable def sTail (N : List Str) (f : Nat) (acc : List (Int × Ex)) (ts : List Tok) : Except Err (List (Int × Ex) × List Tok) := match sSets N f acc ts with
 | .error e => .error e
 | .ok p => match sSign [59] p.2 with
  | .error e => .error e
  | .ok r => .ok (p.1, r)
theorem sTail_e {N : List Str} {f : Nat} {acc : List (Int × Ex)} {ts : List Tok} {e : Err} (h : sOne N acc ts = .error e) : sTail N (f + 1) acc ts = .error e := by
 unfold sTail
 rw [sSets_one, h]
theorem sTail_more {N : List Str} {f : Nat} {acc : List (Int × Ex)} {ts : List Tok} {p : (Int × Ex) × List Tok} (h : sOne N acc ts = .ok p) (hh : isH 3 [44] p.2 = true) : sTail N (f + 1) acc ts = sTail N f (acc ++ [p.1]) p.2.tail := by
 unfold sTail
 rw [sSets_one, h]
 simp only [hh, cond_true]
theorem sTail_last {N : List Str} {f : Nat} {acc : List (Int × Ex)} {ts : List Tok} {p : (Int × Ex) × List Tok} (h : sOne N acc ts = .ok p) (hh : isH 3 [44] p.2 = false) : sTail N (f + 1) acc ts = match sSign [59] p.2 with
  | .error e => .error e
  | .ok r => .ok (acc ++ [p.1], r) := by
 unfold sTail
 rw [sSets_one, h]
 simp only [hh, cond_false]
theorem isT_59 {t : Tok} (h : isT 3 [59] t = true) : isT 3 [44] t = false := by
 unfold isT at *
 simp only [Bool.and_eq_true, beq_iff_eq] at h
 rw [h.2, Bool.and_eq_false_iff]
 exact .inr (by decide)
section
variable {l : List Tok} (N : List Str) (S_ : List (Int × Int)) (I : List Int) (Q : List Str) (C : List Cmd)
theorem sets_m (hk : l.length < 1099511627776) (hN : N.length < 1099511627776) (hC : C.length < 1000000) (g : Ex × Int) : ∀ (f : Nat) (acc : List (Int × Ex)) (k M : Nat), Pa.Ends (l.drop k) → (l.drop k).length < f → (l.drop k).length < M → acc.length ≤ k → k ≤ l.length →
  Rd l (sTail N f acc (l.drop k)) (fun sets k' => (k', C ++ [(IntKind.i64.wrap ((Q.length : Int) - 1), g.1, sets)])) (fixN (model_read_command_L2 l N S_ I Q C g) M ((k : Int), acc))
 | 0, acc, k, M, he, hf, hM, ha, hkl => by omega
 | f + 1, acc, k, 0, he, hf, hM, ha, hkl => by omega
 | f + 1, acc, k, M + 1, he, hf, hM, ha, hkl => by
  rw [fixN_succ]
  simp only [model_read_command_L2]
  have h1 := assignment_m N S_ I Q C (l := l) (k := k) he hk hN (acc := acc) (by omega)
  cases ho : sOne N acc (l.drop k) with
  | error e =>
   rw [ho] at h1
   rw [sTail_e ho, show model_read_assignment_s2 acc l (k : Int) N S_ I Q C = some (.error e) from h1]
   rfl
  | ok p =>
   rw [ho] at h1
   obtain ⟨k1, hm1, hd1⟩ := h1
   have hsh := sOne_ok he ho
   obtain ⟨t2, r2, ht2⟩ := hsh.1.ne
   have hd2 : l.drop k1 = t2 :: r2 := by rw [hd1, ht2]
   have hlt := (drop_at hd2).2.2.1
   have hkk : k < k1 := drop_lt rfl hd1 hsh.2
   rw [hm1, bindE_o]
   simp only
   rw [Sy.chk_t (Sy.room_ok (by simp; omega) (by simp; omega)), is_m N S_ I Q C hd2, bind_s]
   cases h59 : isT 3 [59] t2
   ·simp only [cond_false]
    have hs := sign_m N S_ I Q C (l := l) (k := k1) (by rw [hd1]; exact hsh.1) (by omega) [44]
    rw [hd2] at hs
    cases h44 : isT 3 [44] t2
    ·have e1 : sSign [44] (t2 :: r2) = .error (2, t2.2.2.2) := by simp only [sSign, h44, cond_false]
     have e2 : sSign [59] (t2 :: r2) = .error (2, t2.2.2.2) := by simp only [sSign, h59, cond_false]
     rw [e1] at hs
     rw [sTail_last ho (by rw [ht2]; exact h44), ht2, e2, show model_read_sign [44] l (k1 : Int) N S_ I Q C = some (.error (2, t2.2.2.2)) from hs]
     rfl
    ·have e1 : sSign [44] (t2 :: r2) = .ok r2 := by simp only [sSign, h44, cond_true]
     rw [e1] at hs
     obtain ⟨k2, hm2, hd3⟩ := hs
     have hr2 : Pa.Ends r2 := by
      have := hsh.1
      rw [ht2] at this
      exact this.tail (isT_ne h44 (by decide))
     have hk2 : k1 < k2 := drop_lt hd2 hd3 (by simp)
     have hlen2 : (l.drop k2).length < (l.drop k).length := by
      rw [hd3]
      have := hsh.2
      rw [ht2] at this
      simp only [List.length_cons] at this
      omega
     have hk2l : k2 ≤ l.length := by
      obtain ⟨t3, r3, ht3⟩ := hr2.ne
      have := (drop_at (hd3.trans ht3)).2.2.1
      omega
     rw [hm2, bindE_o, sTail_more ho (by rw [ht2]; exact h44), ht2]
     have := sets_m hk hN hC g f (acc ++ [p.1]) k2 M (by rw [hd3]; exact hr2) (by omega) (by omega) (by simp; omega) hk2l
     rw [hd3] at this
     exact this
   ·simp only [cond_true]
    have e2 : sSign [59] (t2 :: r2) = .ok r2 := by simp only [sSign, h59, cond_true]
    rw [Sy.chk_t (Sy.room_ok (by simp; omega) (by simp; omega)), sTail_last ho (by rw [ht2]; exact isT_59 h59), ht2, e2]
    exact ⟨k1 + 1, by rw [wrap1 (show k1 < 4611686018427387904 by omega)], (drop_at hd2).2.1⟩
variable {k : Nat}
theorem command_m (he : Pa.Ends (l.drop k)) (hk : l.length < 1099511627776) (hN : N.length < 1099511627776) (_hkl : k ≤ l.length) :
  Rd l (sCmd (N, S_, I, Q, C) (l.drop k)) (fun m' k' => (k', m'.2.2.2.2)) (model_read_command l (k : Int) N S_ I Q C) := by
 obtain ⟨t, r, ht⟩ := he.ne
 unfold model_read_command sCmd
 cases h256 : decide (256 ≤ (List.length C : Int))
 ·have hC : C.length < 256 := by have := of_decide_eq_false h256; omega
  simp only [cond_false, model_read_command_K1]
  have hx := expression_m N S_ I Q C (l := l) (k := k) he hk (by omega) 2
  cases h1 : sExpr 2 N (l.drop k) with
  | error e =>
   rw [h1] at hx
   rw [show model_read_expression 2 l (k : Int) N S_ I Q C = some (.error e) from hx]
   rfl
  | ok p =>
   rw [h1] at hx
   obtain ⟨k1, hm1, hd1⟩ := hx
   have he1 := (sExpr_ok he h1).1
   have hk1 : k < k1 := drop_lt rfl hd1 he1.2
   rw [hm1, bindE_o]
   have hs := sign_m N S_ I Q C (l := l) (k := k1) (by rw [hd1]; exact he1.1) (by omega) [58]
   rw [hd1] at hs
   simp only
   cases h2 : sSign [58] p.2 with
   | error e =>
    rw [h2] at hs
    rw [show model_read_sign [58] l (k1 : Int) N S_ I Q C = some (.error e) from hs]
    rfl
   | ok r2 =>
    rw [h2] at hs
    obtain ⟨k2, hm2, hd2⟩ := hs
    have he2 := sSign_ok he1.1 h2
    have hk2 : k1 < k2 := drop_lt hd1 hd2 he2.2
    rw [hm2, bindE_o]
    have hk2l : k2 ≤ l.length := by
     obtain ⟨t3, r3, ht3⟩ := he2.1.ne
     have := (drop_at (hd2.trans ht3)).2.2.1
     omega
    have hdl : (l.drop k2).length ≤ l.length := by simp
    have hl := sets_m (l := l) N S_ I Q C hk hN (by omega) (p.1, (k1 : Int)) (r2.length + 1) [] k2 FUEL (by rw [hd2]; exact he2.1) (by rw [hd2]; omega) (by show _ < 2 ^ 64; omega) (by simp) hk2l
    rw [hd2] at hl
    unfold sTail at hl
    simp only
    cases h3 : sSets N (r2.length + 1) [] r2 with
    | error e => rw [h3] at hl; exact hl
    | ok q =>
     rw [h3] at hl
     simp only at hl ⊢
     cases h4 : sSign [59] q.2 with
     | error e => rw [h4] at hl; exact hl
     | ok r4 =>
      rw [h4] at hl
      obtain ⟨k4, hm4, hd4⟩ := hl
      exact ⟨k4, hm4, hd4⟩
 ·simp only [cond_true, stop_m N S_ I Q C ht, bindE_e]
  rw [ht]
  rfl
end
end Mo
end Go.Proofs.YtdhgpnejphlfpaaDoor
namespace Go.Proofs.YtdhgpnejphlfpaaDoor
namespace Mo
open Pa Sy
theorem fuel2 : ∃ m, FUEL = m + 2 := ⟨18446744073709551614, rfl⟩
theorem right_m (lo hi : Int) : schema_Right_s2 [(lo, hi)] = some (rightB lo hi) := by
 obtain ⟨m, hm⟩ := fuel2
 unfold schema_Right_s2 schema_each_bool_s2 slices_Contains_bool_bool slices_Index_bool_bool
 rw [hm]
 have h1 : (decide ((1 : Int) ≤ (List.length ([(lo, hi)] : List (Int × Int)) : Int)) && decide ((List.length ([(lo, hi)] : List (Int × Int)) : Int) ≤ 17)) = true := rfl
 simp only [letv_e]
 rw [h1, callG_tt, Sy.chk_t (by rfl), Sy.chk_t (by rfl)]
 have h2 : fixN (schema_each_bool_s2_L1 [(lo, hi)]) (m + 2) (List.replicate (Int.toNat (List.length ([(lo, hi)] : List (Int × Int)) : Int)) false, 0) = some [rightB lo hi] := by
  rw [fixN_succ]
  have hb : schema_span_may (lo, hi) = some (rightB lo hi) := by
   unfold schema_span_may rightB
   simp only [letv_e]
   congr 1
   by_cases a1 : lo < -1073741824 <;> by_cases a2 : 1073741824 < hi <;> by_cases a3 : hi < lo <;> by_cases a4 : 65535 < IntKind.i64.wrap (hi - lo) <;>
    simp [a1, a2, a3, a4] <;> omega
  simp only [schema_each_bool_s2_L1]
  rw [show decide ((0 : Int) < (List.length ([(lo, hi)] : List (Int × Int)) : Int)) = true from rfl, cond_true, show idx ([(lo, hi)] : List (Int × Int)) 0 = some (lo, hi) from rfl, bind_s, hb, bind_s]
  rw [show idx (List.replicate (Int.toNat (List.length ([(lo, hi)] : List (Int × Int)) : Int)) false) 0 = some false from rfl, bind_s]
  rw [show IntKind.i64.wrap (0 + 1) = (1 : Int) from rfl, fixN_succ]
  simp only [schema_each_bool_s2_L1]
  rw [show decide ((1 : Int) < (List.length ([(lo, hi)] : List (Int × Int)) : Int)) = false from rfl, cond_false]
  rfl
 rw [h2, bind_s, callG_tt]
 have h3 : fixN (slices_Index_bool_bool_L1 [rightB lo hi] false) (m + 2) 0 = some (bif rightB lo hi then -1 else 0) := by
  rw [fixN_succ]
  simp only [slices_Index_bool_bool_L1]
  rw [show decide ((0 : Int) < (List.length ([rightB lo hi] : List Bool) : Int)) = true from rfl, cond_true, show idx ([rightB lo hi] : List Bool) 0 = some (rightB lo hi) from rfl, bind_s]
  rw [show IntKind.i64.wrap (0 + 1) = (1 : Int) from rfl, fixN_succ]
  simp only [slices_Index_bool_bool_L1]
  rw [show decide ((1 : Int) < (List.length ([rightB lo hi] : List Bool) : Int)) = false from rfl, cond_false]
  cases rightB lo hi <;> rfl
 rw [h3, bind_s, bind_s]
 cases rightB lo hi <;> rfl
theorem in_m (lo hi v : Int) : schema_In_s2 [(lo, hi)] [v] = some (bif decide (lo ≤ v) && decide (v ≤ hi) then 0 else 5) := by
 obtain ⟨m, hm⟩ := fuel2
 unfold schema_In_s2
 rw [hm, show ((List.length ([v] : List Int) : Int) != (List.length ([(lo, hi)] : List (Int × Int)) : Int)) = false from rfl, cond_false, fixN_succ]
 simp only [schema_In_s2_L1]
 rw [show decide ((0 : Int) < (List.length ([v] : List Int) : Int)) = true from rfl, cond_true, show idx ([v] : List Int) 0 = some v from rfl, bind_s, show idx ([(lo, hi)] : List (Int × Int)) 0 = some (lo, hi) from rfl, bind_s]
 rw [show schema_span_has (lo, hi) v = some (decide (lo ≤ v) && decide (v ≤ hi)) from rfl, bind_s, show IntKind.i64.wrap (0 + 1) = (1 : Int) from rfl, fixN_succ]
 simp only [schema_In_s2_L1]
 rw [show decide ((1 : Int) < (List.length ([v] : List Int) : Int)) = false from rfl, cond_false]
 cases (decide (lo ≤ v) && decide (v ≤ hi)) <;> rfl
theorem dec_not (a b : Int) : decide (a < b) = !decide (b ≤ a) := by
 by_cases h : a < b
 ·rw [decide_eq_true h, decide_eq_false (by omega)]; rfl
 ·rw [decide_eq_false h, decide_eq_true (by omega)]; rfl
section
variable {l : List Tok} {k : Nat} (N : List Str) (S_ : List (Int × Int)) (I : List Int) (Q : List Str) (C : List Cmd)
theorem variable_m (he : Pa.Ends (l.drop k)) (hk : l.length < 1099511627776) (hN : N.length ≤ l.length) (hS : S_.length ≤ l.length) (hI : I.length ≤ l.length) (hQ : Q.length ≤ l.length) :
  Rd l (sVar (N, S_, I, Q, C) (l.drop k)) (fun m' k' => (k', m'.1, m'.2.1, m'.2.2.1)) (model_read_variable l (k : Int) N S_ I Q C) := by
 unfold model_read_variable sVar
 have h1 := name_m N S_ I Q C (l := l) (k := k) he (by omega) (by omega) (by omega) (decide (16 ≤ (N.length : Int)))
 simp only
 cases e1 : sName (decide (16 ≤ (N.length : Int))) N Q (l.drop k) with
 | error e => rw [e1] at h1; rw [show model_read_name _ l (k : Int) N S_ I Q C = some (.error e) from h1]; rfl
 | ok p1 =>
  rw [e1] at h1
  obtain ⟨k1, m1, d1⟩ := h1
  have s1 := (sName_ok he e1).1
  obtain ⟨t1, r1, ht1⟩ := s1.1.ne
  rw [m1, bindE_o]
  simp only
  rw [next_m N S_ I Q C (d1.trans ht1), bind_s]
  have h2 := number_m N S_ I Q C (l := l) (k := k1) (by rw [d1]; exact s1.1) (by omega)
  rw [d1] at h2
  cases e2 : sNum p1.2 with
  | error e => rw [e2] at h2; rw [show model_read_number l (k1 : Int) N S_ I Q C = some (.error e) from h2]; rfl
  | ok p2 =>
   rw [e2] at h2
   obtain ⟨k2, m2, d2⟩ := h2
   have s2 := sNum_ok s1.1 e2
   rw [m2, bindE_o]
   simp only
   have h3 := number_m N S_ I Q C (l := l) (k := k2) (by rw [d2]; exact s2.1) (by omega)
   rw [d2] at h3
   cases e3 : sNum p2.2 with
   | error e => rw [e3] at h3; rw [show model_read_number l (k2 : Int) N S_ I Q C = some (.error e) from h3]; rfl
   | ok p3 =>
    rw [e3] at h3
    obtain ⟨k3, m3, d3⟩ := h3
    have s3 := sNum_ok s2.1 e3
    rw [m3, bindE_o]
    simp only
    have h4 := number_m N S_ I Q C (l := l) (k := k3) (by rw [d3]; exact s3.1) (by omega)
    rw [d3] at h4
    cases e4 : sNum p3.2 with
    | error e => rw [e4] at h4; rw [show model_read_number l (k3 : Int) N S_ I Q C = some (.error e) from h4]; rfl
    | ok p4 =>
     rw [e4] at h4
     obtain ⟨k4, m4, d4⟩ := h4
     have s4 := sNum_ok s3.1 e4
     rw [m4, bindE_o]
     simp only
     have h5 := sign_m N S_ I Q C (l := l) (k := k4) (by rw [d4]; exact s4.1) (by omega) [59]
     rw [d4] at h5
     cases e5 : sSign [59] p4.2 with
     | error e => rw [e5] at h5; rw [show model_read_sign [59] l (k4 : Int) N S_ I Q C = some (.error e) from h5]; rfl
     | ok r5 =>
      rw [e5] at h5
      obtain ⟨k5, m5, d5⟩ := h5
      rw [m5, bindE_o, right_m, bind_s, in_m, letv_e]
      have hg : (callG (!!rightB p2.1 p3.1) default (some (bif decide (p2.1 ≤ p4.1) && decide (p4.1 ≤ p3.1) then (0 : Int) else 5)) fun r81 => letv (r81 != 0) fun b87 => letv (!rightB p2.1 p3.1 || b87) fun b89 =>
        bif b89 then (some (.error (5, t1.2.2.2)) : Option (Except (Int × Int) (Int × List Str × List (Int × Int) × List Int))) else model_read_variable_K1 N S_ I (p1.1, (k1 : Int)) (p2.1, (k2 : Int)) (p3.1, (k3 : Int)) (p4.1, (k4 : Int)) (k5 : Int)) =
        bif !(rightB p2.1 p3.1) || decide (p4.1 < p2.1) || decide (p3.1 < p4.1) then some (.error (5, t1.2.2.2)) else model_read_variable_K1 N S_ I (p1.1, (k1 : Int)) (p2.1, (k2 : Int)) (p3.1, (k3 : Int)) (p4.1, (k4 : Int)) (k5 : Int) := by
       cases rightB p2.1 p3.1
       ·rfl
       ·simp only [Bool.not_true, Bool.not_false, callG_tt, bind_s, letv_e, Bool.false_or]
        rw [dec_not p4.1 p2.1, dec_not p3.1 p4.1]
        cases decide (p2.1 ≤ p4.1) <;> cases decide (p4.1 ≤ p3.1) <;> rfl
      rw [hg]
      have hp : headP p1.2 = t1.2.2.2 := by rw [ht1]; rfl
      rw [hp]
      cases hb : (!(rightB p2.1 p3.1) || decide (p4.1 < p2.1) || decide (p3.1 < p4.1))
      ·simp only [cond_false, model_read_variable_K1]
       rw [Sy.chk_t (Sy.room_ok (by simp; omega) (by simp; omega)), show idx ([(p2.1, p3.1)] : List (Int × Int)) 0 = some (p2.1, p3.1) from rfl, bind_s, Sy.chk_t (Sy.room_ok (by simp; omega) (by simp; omega)), Sy.chk_t (Sy.room_ok (by simp; omega) (by simp; omega))]
       exact ⟨k5, rfl, d5⟩
      ·rfl
theorem commands_m (hk : l.length < 1099511627776) (hN : N.length < 1099511627776) (nm : Str × Int) : ∀ (f : Nat) (C : List Cmd) (k M : Nat), Pa.Ends (l.drop k) → (l.drop k).length < f → (l.drop k).length < M →
  Rd l (sCmds f (N, S_, I, Q ++ [nm.1], C) (l.drop k)) (fun m' k' => (k', m'.2.2.2.1, m'.2.2.2.2)) (fixN (model_read_process_L1 l N S_ I Q nm) M ((k : Int), C))
 | 0, C, k, M, he, hf, hM => by omega
 | f + 1, C, k, 0, he, hf, hM => by omega
 | f + 1, C, k, M + 1, he, hf, hM => by
  rw [fixN_succ]
  obtain ⟨t, r, ht⟩ := he.ne
  have hd := drop_at ht
  simp only [model_read_process_L1]
  rw [is_m N S_ I (Q ++ [nm.1]) C ht, bind_s]
  have hH : isH 3 [125] (l.drop k) = isT 3 [125] t := by rw [ht]; rfl
  unfold sCmds
  rw [hH]
  cases h1 : isT 3 [125] t
  ·simp only [Bool.not_false, cond_true, cond_false]
   have hc := command_m N S_ I (Q ++ [nm.1]) C (l := l) (k := k) he hk hN (Nat.le_of_lt hd.2.2.1)
   cases h2 : sCmd (N, S_, I, Q ++ [nm.1], C) (l.drop k) with
   | error e =>
    rw [h2] at hc
    rw [show model_read_command l (k : Int) N S_ I (Q ++ [nm.1]) C = some (.error e) from hc]
    rfl
   | ok p =>
    rw [h2] at hc
    obtain ⟨k1, m1, d1⟩ := hc
    obtain ⟨s1, g, r1, r2, sets, r3, _, _, _, _, hp, _, _⟩ := sCmd_ok he h2
    rw [m1, bindE_o]
    have ih := commands_m hk hN nm f p.1.2.2.2.2 k1 M (by rw [d1]; exact s1.1) (by rw [d1]; have := s1.2; omega) (by rw [d1]; have := s1.2; omega)
    rw [d1] at ih
    have hpe : p.1 = (N, S_, I, Q ++ [nm.1], p.1.2.2.2.2) := by rw [hp]
    rw [← hpe] at ih
    exact ih
  ·simp only [Bool.not_true, cond_true, cond_false]
   exact ⟨k + 1, by rw [wrap1 (show k < 4611686018427387904 by omega)], by rw [ht, hd.2.1]; rfl⟩
theorem process_m (he : Pa.Ends (l.drop k)) (hk : l.length < 1099511627776) (hN : N.length ≤ l.length) (hQ : Q.length ≤ l.length) :
  Rd l (sProc (N, S_, I, Q, C) (l.drop k)) (fun m' k' => (k', m'.2.2.2.1, m'.2.2.2.2)) (model_read_process l (k : Int) N S_ I Q C) := by
 unfold model_read_process sProc
 have h1 := name_m N S_ I Q C (l := l) (k := k) he (by omega) (by omega) (by omega) false
 simp only
 cases e1 : sName false N Q (l.drop k) with
 | error e => rw [e1] at h1; rw [show model_read_name false l (k : Int) N S_ I Q C = some (.error e) from h1]; rfl
 | ok p1 =>
  rw [e1] at h1
  obtain ⟨k1, m1, d1⟩ := h1
  have s1 := (sName_ok he e1).1
  rw [m1, bindE_o]
  simp only
  rw [Sy.chk_t (Sy.room_ok (by simp; omega) (by simp; omega))]
  have h2 := sign_m N S_ I (Q ++ [p1.1]) C (l := l) (k := k1) (by rw [d1]; exact s1.1) (by omega) [123]
  rw [d1] at h2
  cases e2 : sSign [123] p1.2 with
  | error e => rw [e2] at h2; rw [show model_read_sign [123] l (k1 : Int) N S_ I (Q ++ [p1.1]) C = some (.error e) from h2]; rfl
  | ok r2 =>
   rw [e2] at h2
   obtain ⟨k2, m2, d2⟩ := h2
   have s2 := sSign_ok s1.1 e2
   rw [m2, bindE_o]
   have hdl : (l.drop k2).length ≤ l.length := by simp
   have := commands_m (l := l) N S_ I Q hk (by omega) (p1.1, (k1 : Int)) (r2.length + 1) C k2 FUEL (by rw [d2]; exact s2.1) (by rw [d2]; omega) (by show _ < 2 ^ 64; omega)
   rw [d2] at this
   exact this
end
end Mo
end Go.Proofs.YtdhgpnejphlfpaaDoor
namespace Go.Proofs.YtdhgpnejphlfpaaDoor
namespace Mo
open Pa Sy
def RdA (s : Except Err Mdl) (m : Option (Except Err (Int × List Str × List (Int × Int) × List Int × List Str × List Cmd))) : Prop := match s with
 | .error e => m = some (.error e)
 | .ok m' => ∃ k : Nat, m = some (.ok ((k : Int), m'))
theorem sProc_ok {m : Mdl} {ts : List Tok} {p : Mdl × List Tok} (he : Pa.Ends ts) (h : sProc m ts = .ok p) : Shorter ts p.2 ∧ p.1.1 = m.1 ∧ p.1.2.1 = m.2.1 ∧ p.1.2.2.1 = m.2.2.1 ∧ p.1.2.2.2.1.length = m.2.2.2.1.length + 1 := by
 unfold sProc at h
 cases h1 : sName false m.1 m.2.2.2.1 ts with
 | error e => rw [h1] at h; cases h
 | ok q1 =>
  rw [h1] at h
  simp only at h
  have s1 := (sName_ok he h1).1
  cases h2 : sSign [123] q1.2 with
  | error e => rw [h2] at h; cases h
  | ok r2 =>
   rw [h2] at h
   simp only at h
   have s2 := sSign_ok s1.1 h2
   have key : ∀ (f : Nat) (m : Mdl) (ts : List Tok) (p : Mdl × List Tok), Pa.Ends ts → sCmds f m ts = .ok p → Shorter ts p.2 ∧ p.1.1 = m.1 ∧ p.1.2.1 = m.2.1 ∧ p.1.2.2.1 = m.2.2.1 ∧ p.1.2.2.2.1 = m.2.2.2.1 := by
    intro f
    induction f with
    | zero => intro m ts p _ h; cases h
    | succ f ih =>
     intro m ts p he h
     unfold sCmds at h
     cases hh : isH 3 [125] ts
     ·rw [hh] at h
      simp only [cond_false] at h
      cases hc : sCmd m ts with
      | error e => rw [hc] at h; cases h
      | ok q =>
       rw [hc] at h
       obtain ⟨s3, g, r1, r2, sets, r3, _, _, _, _, hp, _, _⟩ := sCmd_ok he hc
       obtain ⟨a1, a2, a3, a4, a5⟩ := ih _ _ _ s3.1 h
       rw [hp] at a2 a3 a4 a5
       exact ⟨s3.trans a1, a2, a3, a4, a5⟩
     ·rw [hh] at h
      simp only [cond_true] at h
      cases h
      have := isH_ends he (by decide) hh
      exact ⟨⟨this.1, by have := this.2; simp only; omega⟩, rfl, rfl, rfl, rfl⟩
   obtain ⟨a1, a2, a3, a4, a5⟩ := key _ _ _ _ s2.1 h
   exact ⟨(s1.trans s2).trans a1, a2, a3, a4, by rw [a5]; simp⟩
theorem all_m {l : List Tok} (hk : l.length < 1099511627776) : ∀ (f : Nat) (N : List Str) (S_ : List (Int × Int)) (I : List Int) (Q : List Str) (C : List Cmd) (k M : Nat), Pa.Ends (l.drop k) → (l.drop k).length < f → (l.drop k).length < M → N.length ≤ k → S_.length ≤ k → I.length ≤ k → Q.length ≤ k →
  RdA (sItems f (N, S_, I, Q, C) (l.drop k)) (fixN (model_read_all_L1 l) M ((k : Int), N, S_, I, Q, C))
 | 0, N, S_, I, Q, C, k, M, he, hf, hM, _, _, _, _ => by omega
 | f + 1, N, S_, I, Q, C, k, 0, he, hf, hM, _, _, _, _ => by omega
 | f + 1, N, S_, I, Q, C, k, M + 1, he, hf, hM, bN, bS, bI, bQ => by
  rw [fixN_succ]
  obtain ⟨t, r, ht⟩ := he.ne
  have hd := drop_at ht
  have hw : IntKind.i64.wrap ((k : Int) + 1) = ((k + 1 : Nat) : Int) := wrap1 (by omega)
  simp only [model_read_all_L1]
  rw [next_m N S_ I Q C ht, bind_s, is_m N S_ I Q C ht, is_m N S_ I Q C ht, bind_s, hw, ht]
  unfold sItems
  simp only
  have hr : t.1 ≠ 4 → Pa.Ends (l.drop (k + 1)) := fun h => by
   rw [hd.2.1]
   rw [ht] at he
   exact he.tail h
  have hdl : (l.drop k).length = r.length + 1 := by rw [ht]; rfl
  cases h4 : (t.1 == 4)
  ·rw [show (t.1 != 4) = true by simpa [bne] using h4, cond_true, cond_false]
   have ht4 : t.1 ≠ 4 := by simpa using h4
   cases hv : isT 1 [118, 97, 114] t
   ·simp only [cond_false, bind_s]
    cases hp : isT 1 [112, 114, 111, 99] t
    ·simp only [Bool.not_false, cond_true, cond_false, stop_m N S_ I Q C ht, bindE_e]; rfl
    ·simp only [Bool.not_true, cond_true, cond_false]
     have h := process_m N S_ I Q C (l := l) (k := k + 1) (hr ht4) hk (by omega) (by omega)
     rw [hd.2.1] at h
     cases e1 : sProc (N, S_, I, Q, C) r with
     | error e =>
      rw [e1] at h
      rw [show model_read_process l ((k + 1 : Nat) : Int) N S_ I Q C = some (.error e) from h]
      rfl
     | ok p =>
      rw [e1] at h
      obtain ⟨k1, m1, d1⟩ := h
      obtain ⟨s1, a2, a3, a4, a5⟩ := sProc_ok (by rw [← hd.2.1]; exact hr ht4) e1
      have hkk : k + 1 < k1 := drop_lt hd.2.1 d1 s1.2
      rw [m1, bindE_o]
      simp only at a2 a3 a4 a5 ⊢
      have ih := all_m hk f p.1.1 p.1.2.1 p.1.2.2.1 p.1.2.2.2.1 p.1.2.2.2.2 k1 M (by rw [d1]; exact s1.1) (by rw [d1]; have := s1.2; omega) (by rw [d1]; have := s1.2; omega) (by rw [a2]; omega) (by rw [a3]; omega) (by rw [a4]; omega) (by rw [a5]; omega)
      rw [d1] at ih
      have e2 : ((k1 : Int), N, S_, I, p.1.2.2.2.1, p.1.2.2.2.2) = ((k1 : Int), p.1.1, p.1.2.1, p.1.2.2.1, p.1.2.2.2.1, p.1.2.2.2.2) := by rw [a2, a3, a4]
      rw [e2]
      exact ih
   ·simp only [cond_true]
    have h := variable_m N S_ I Q C (l := l) (k := k + 1) (hr ht4) hk (by omega) (by omega) (by omega) (by omega)
    rw [hd.2.1] at h
    cases e1 : sVar (N, S_, I, Q, C) r with
    | error e =>
     rw [e1] at h
     rw [show model_read_variable l ((k + 1 : Nat) : Int) N S_ I Q C = some (.error e) from h]
     rfl
    | ok p =>
     rw [e1] at h
     obtain ⟨k1, m1, d1⟩ := h
     obtain ⟨s1, name, lo, hi, first, hp, _⟩ := sVar_ok (by rw [← hd.2.1]; exact hr ht4) e1
     have hkk : k + 1 < k1 := drop_lt hd.2.1 d1 s1.2
     rw [m1, bindE_o]
     simp only at hp ⊢
     have ih := all_m hk f p.1.1 p.1.2.1 p.1.2.2.1 p.1.2.2.2.1 p.1.2.2.2.2 k1 M (by rw [d1]; exact s1.1) (by rw [d1]; have := s1.2; omega) (by rw [d1]; have := s1.2; omega) (by rw [hp]; simp; omega) (by rw [hp]; simp; omega) (by rw [hp]; simp; omega) (by rw [hp]; simp; omega)
     rw [d1] at ih
     have e2 : ((k1 : Int), p.1.1, p.1.2.1, p.1.2.2.1, Q, C) = ((k1 : Int), p.1.1, p.1.2.1, p.1.2.2.1, p.1.2.2.2.1, p.1.2.2.2.2) := by rw [hp]
     rw [e2]
     exact ih
  ·rw [show (t.1 != 4) = false by simpa [bne] using h4, cond_true, cond_false]
   cases N with
   | nil =>
    rw [show ((List.length ([] : List Str) : Int) == 0) = true from rfl, cond_true]
    simp only [stop_m [] S_ I Q C ht, bindE_e]
    rfl
   | cons x N =>
    rw [show ((List.length (x :: N) : Int) == 0) = false by simp; omega, cond_false]
    exact ⟨k, rfl⟩
theorem Parse_m (text : Str) : model_Parse text = some (outS (sysT text)) := by
 unfold model_Parse sysT
 rw [Lx.Tokens_eq, bind_s]
 unfold Lx.tokens
 by_cases h : 65536 < text.length
 ·rw [if_pos h, if_pos h]
  rfl
 ·rw [if_neg h, if_neg h]
  have hx : Lx.lexS (text.length + 1) 0 text = Lx.lex text := rfl
  rw [hx]
  cases hl : Lx.lex text with
  | error e =>
   have h0 : (e.1 != 0) = true := bne_iff_ne.2 (lexS_err _ _ _ _ hl)
   simp only [Lx.res, h0, cond_true]
   rfl
  | ok l =>
   have hg := lex_good hl
   have hlen := hg.len
   simp only [Lx.res, show ((0 : Int) != 0) = false from rfl, cond_false]
   have := all_m (l := l) (by omega) (l.length + 1) [] [] [] [] [] 0 FUEL (by simpa using hg.ends) (by simp) (by show _ < 2 ^ 64; simp; omega) (by simp) (by simp) (by simp) (by simp)
   unfold model_read_all
   rw [show l.drop 0 = l from rfl, show ((0 : Nat) : Int) = 0 from rfl] at this
   have hs : sItems (l.length + 1) ([], [], [], [], []) l = Sy.sys l := rfl
   rw [hs] at this
   cases hsys : Sy.sys l with
   | error e =>
    rw [hsys] at this
    rw [show fixN (model_read_all_L1 l) FUEL (0, [], [], [], [], []) = some (.error e) from this]
    rfl
   | ok m =>
    rw [hsys] at this
    obtain ⟨k, hm⟩ := this
    rw [hm]
    rfl
end Mo
end Go.Proofs.YtdhgpnejphlfpaaDoor
namespace Go.Proofs.YtdhgpnejphlfpaaDoor
namespace Mo
theorem shown_true : scrutinylaw14_shown = some true := by
 show _ = _
 kernel_rfl
end Mo
end Go.Proofs.YtdhgpnejphlfpaaDoor
namespace Go.Proofs.YtdhgpnejphlfpaaDoor
namespace Mo
open Pa Sy
open Lx (strip lexes stops Tk)
/-! tokens -/
def lexes0 (s : Str) (k : List Tk) : Prop := ∃ l, Lx.lex s = .ok l ∧ l.map strip = k ∧ headP l = 0
theorem lexes0.le {s : Str} {k : List Tk} (h : lexes0 s k) : lexes s k := by
 obtain ⟨l, h1, h2, _⟩ := h
 exact ⟨l, h1, h2⟩
/-! the whole -/
end Mo
end Go.Proofs.YtdhgpnejphlfpaaDoor
namespace Go.Proofs.YtdhgpnejphlfpaaDoor
namespace Mo
open Pa Sy
open Lx (strip)
theorem sProc_procs {m : Mdl} {ts : List Tok} {p : Mdl × List Tok} (he : Pa.Ends ts) (h : sProc m ts = .ok p) : p.1.2.2.2.1.length ≤ m.2.2.2.1.length + 1 := by
 have := (sProc_ok he h).2.2.2.2
 omega
theorem sItems_procs : ∀ (f : Nat) (m : Mdl) (ts : List Tok) (p : Mdl), Pa.Ends ts → sItems f m ts = .ok p → p.2.2.2.1.length ≤ m.2.2.2.1.length + ts.length := by
 intro f
 induction f with
 | zero => intro _ _ _ _ h; simp [sItems] at h
 | succ f ih =>
  intro m ts p he h
  obtain ⟨t, r, rfl⟩ := he.ne
  simp only [sItems] at h
  cases c4 : (t.1 == 4)
  ·rw [c4] at h
   simp only [cond_false] at h
   have her := he.tail (by simpa using c4)
   cases cv : isT 1 [118, 97, 114] t
   ·rw [cv] at h
    simp only [cond_false] at h
    cases cp : isT 1 [112, 114, 111, 99] t
    ·rw [cp] at h; cases h
    ·rw [cp] at h
     simp only [cond_true] at h
     cases h1 : sProc m r with
     | error e => rw [h1] at h; cases h
     | ok q =>
      obtain ⟨m', r'⟩ := q
      rw [h1] at h
      simp only at h
      have g := sProc_ok her h1
      have g1 := sProc_procs her h1
      have i1 := ih m' r' p g.1.1 h
      have := g.1.2
      simp only [List.length_cons] at *
      omega
   ·rw [cv] at h
    simp only [cond_true] at h
    cases h1 : sVar m r with
    | error e => rw [h1] at h; cases h
    | ok q =>
     obtain ⟨m', r'⟩ := q
     rw [h1] at h
     simp only at h
     obtain ⟨g, name, lo, hi, first, g2, _⟩ := sVar_ok her h1
     have i1 := ih m' r' p g.1 h
     have := g.2
     simp only at g2
     rw [g2] at i1
     simp only [List.length_cons] at *
     omega
  ·rw [c4] at h
   simp only [cond_true] at h
   cases hne : m.1.isEmpty
   ·rw [hne] at h; cases h; simp only [List.length_cons]; omega
   ·rw [hne] at h; cases h
theorem sysT_sml {text : Str} {m : Mdl} (h : sysT text = .ok m) : Sml m := by
 refine Sml.of (sysT_good h).toPart ?_
 unfold sysT at h
 split at h
 ·cases h
 ·rename_i hl
  cases hx : Lx.lex text with
  | error e => rw [hx] at h; cases h
  | ok l =>
   rw [hx] at h
   have hg := lex_good hx
   have := sItems_procs _ _ _ _ hg.ends h
   have := hg.len
   simp at *
   omega
theorem outS_sml (text : Str) : Sml (outS (sysT text)).1 := by
 cases h : sysT text with
 | error e => exact Sml.empty
 | ok m => exact sysT_sml h
theorem modelBlanks_true (text : Str) (gap : Int) (_ : text.length ≤ 9223372036854775807) (hgap : 0 ≤ gap ∧ gap ≤ 255) : scrutinylaw14_ModelBlanks text gap = some true := by
 unfold scrutinylaw14_ModelBlanks
 rw [shown_true, bind_s]
 by_cases ht : 600 < text.length
 ·rw [decide_eq_true (by omega), cond_true]
 rw [decide_eq_false (by omega), cond_false, Lx.refTokens_eq, bind_s, Lx.tokens_lex (by omega)]
 cases hl : Lx.lex text with
 | error e =>
  have he : (e.1 != 0) = true := by
   have := lexS_err _ _ _ _ hl
   simpa using this
  simp only [Lx.res, he, cond_true]
 | ok l =>
  have h1 := Lx.lex_len hl
  simp only [Lx.res, bne_self_eq_false, cond_false]
  obtain ⟨m, hm⟩ : ∃ m : Nat, gap = (m : Int) := ⟨gap.toNat, by omega⟩
  obtain ⟨g, hg1, hg⟩ := Lx.gap_idx m
  show (idx Lx.gaps (Int.tmod gap 4)).bind _ = _
  rw [hm, hg1, bind_s]
  have hlast := Lx.lex_last _ _ hl
  have hw := Lx.lex_whole _ _ hl
  have htx := Lx.lex_texts _ _ hl
  have hgl : ∀ g ∈ Lx.gaps, g.length ≤ 16 := by decide
  have hgl := hgl g hg
  have hbl : ∀ k, k ≤ l.length → (Lx.body g (l.take k)).length ≤ 600 + 16 * k := by
   intro k hk
   have := Lx.body_len hg (l.take k)
   have := Lx.texts_take k l
   simp only [List.length_take, Nat.min_eq_left hk] at *
   omega
  have hdl : l.dropLast = l.take (l.length - 1) := List.dropLast_eq_take
  refine Lx.fixN_up (N := FUEL) (fun k => (Lx.body g (l.take k), (k : Int))) (l.length - 1) (some true) ?_ ?_ 0 (by omega) (by rw [Lx.FUEL_val]; omega)
  ·intro again k hk
   unfold scrutinylaw14_ModelBlanks_L1
   simp only []
   have hb := hbl k (by omega)
   have hb2 := hbl (k + 1) (by omega)
   have e : Lx.body g (l.take (k + 1)) = (Lx.body g (l.take k) ++ l[k].2.1) ++ g := by
    rw [List.take_succ_eq_append_getElem (by omega), Lx.body_append]
   have hx : (Lx.body g (l.take k)).length + l[k].2.1.length + g.length ≤ 600 + 16 * (k + 1) := by
    rw [e] at hb2; simp only [List.length_append] at hb2; omega
   rw [w64 (by omega), decide_eq_true (by omega), cond_true, Lx.idx_lt (show k < l.length by omega), bind_s, Lx.catB_true (by omega), Lx.chk_true, Lx.catB_true (by simp; omega), Lx.chk_true, e]
   rw [w64 (by omega)]; rfl
  ·intro again
   unfold scrutinylaw14_ModelBlanks_L1
   simp only []
   have hb := hbl (l.length - 1) (by omega)
   rw [w64 (by omega), decide_eq_false (by omega), cond_false, Parse_m, bind_s, Parse_m, bind_s]
   obtain ⟨l', h3, h4⟩ := Lx.lex_body hg (l.take (l.length - 1)) (by rw [← hdl]; exact hw)
   have e5 : l = l.dropLast ++ [(4, [], 0, (text.length : Int))] := by
    have hne : l ≠ [] := by intro h; subst h; simp at h1
    have := List.dropLast_concat_getLast hne
    rw [List.getLast?_eq_some_getLast hne, Option.some.injEq] at hlast
    rw [hlast] at this
    exact this.symm
   have htl : tl l l' := by
    unfold tl
    rw [h4, ← hdl]
    conv => rhs; rw [e5]
    simp [strip]
   have es : sysT text = Sy.sys l := by
    unfold sysT; rw [if_neg (by omega), hl]
   have es' : sysT (Lx.body g (l.take (l.length - 1))) = Sy.sys l' := by
    unfold sysT; rw [if_neg (by omega), h3]
   have hb := sys_b htl
   have hs1 := outS_sml text
   rw [es] at hs1
   rw [es, es']
   cases hx : Sy.sys l with
   | error e =>
    rw [hx] at hb hs1
    obtain ⟨f, hf, he⟩ := relX_err hb
    rw [hf]
    simp only [outS, he, beq_self_eq_true, letv_e, Bool.true_and, callG_tt, Same_m Sml.empty, RSame_m Sml.empty, bind_s]
    rfl
   | ok m =>
    rw [hx] at hb hs1
    obtain ⟨n, hf, he⟩ := relX_ok hb
    rw [hf]
    have hs1 : Sml m := hs1
    simp only [outS, beq_self_eq_true, letv_e, Bool.true_and, callG_tt, Same_m hs1, RSame_m hs1, bind_s, sameM_eq he]
end Mo
end Go.Proofs.YtdhgpnejphlfpaaDoor
namespace Go.Proofs.YtdhgpnejphlfpaaDoor
open Go.Lib Go.ChangeAt Go.ChangeShapes Go.WideShapes Go.RowKit
theorem laid_at {P : Program} {w : World} : ∀ (l : List (String × DataW Unit)) (ps : List MemPlace), DataW.LaidVars P w l ps → ∀ (i : Nat) (n : String) (d : DataW Unit), l[i]? = some (n, d) →
  ∃ g t cs fuel p, P.globalNamed n = some g ∧ (P.globals[g]?).map (·.type) = some t ∧ w.var? P n = some cs ∧ DataW.trod (fun _ => ()) P w 0 (fun _ => true) false fuel t cs.toList = some (d, p)
 | [], _, _, i, n, d, h => by simp at h
 | (n0, d0) :: l, ps, h, i, n, d, hi => by
  obtain ⟨g, t, cs, fuel, p, q, h1, h2, h3, h4, h5, _⟩ := h
  cases i with
  | zero =>
   simp only [List.getElem?_cons_zero, Option.some.injEq, Prod.mk.injEq] at hi
   obtain ⟨rfl, rfl⟩ := hi
   exact ⟨g, t, cs, fuel, p, h1, h2, h3, h4⟩
  | succ i => exact laid_at l q h5 i n d (by simpa using hi)
theorem cells_of_strs {H : Type} {enc : TypeId × Value → H} {P : Program} {w : World} {base : Nat} {sp : Nat → Bool} {held : Bool} {fuel : Nat} {t e : TypeId} {n : Nat} {cs : List Value} {zs : List Str} {p : List MemPlace}
  (ht : P.underlying t = some (.array n e)) (he : P.underlying e = some .string) (hce : P.cellsOf e = 1) (hct : P.cellsOf t = n)
  (h : DataW.trod enc P w base sp held fuel t cs = some (.agg (zs.map fun z => .lit (.string z)), p)) : cs = zs.map S := by
 cases fuel with
 | zero => simp [DataW.trod] at h
 | succ fuel =>
  simp only [DataW.trod, ht, hce, hct, Nat.mul_one] at h
  split at h
  ·rename_i hl
   obtain ⟨xs, hm, hx⟩ := Option.map_eq_some_iff.1 h
   have hxs : xs.map (·.1) = zs.map fun z => (DataW.lit (.string z) : DataW H) := by
    have := congrArg Prod.fst hx
    simpa using this
   have hxl : xs.length = n := by simpa using mapM_length hm
   have hzl : zs.length = n := by
    have := congrArg List.length hxs
    simp at this
    omega
   apply List.ext_getElem?
   intro i
   by_cases hi : i < n
   ·obtain ⟨b, hb, hf⟩ := mapM_at hm i i (by simp [hi])
    obtain ⟨z, hc, rfl, _⟩ := DataW.trod_string he hf
    have h1 : cs[i]? = some (.string z) := by
     have := congrArg (·[0]?) hc
     simpa [List.getElem?_take, List.getElem?_drop] using this
    have h2 : (xs.map (·.1))[i]? = some (DataW.lit (.string z.data.toList) : DataW H) := by simp [hb]
    rw [hxs] at h2
    simp only [List.getElem?_map, Option.map_eq_some_iff, DataW.lit.injEq, Lit.string.injEq] at h2
    obtain ⟨z', hz', hz2⟩ := h2
    subst hz2
    simp [h1, hz', S]
   ·rw [List.getElem?_eq_none (by omega), List.getElem?_eq_none (by simp; omega)]
  ·cases h
theorem laidMet_of {P : Program} {laid : List (String × DataW Unit)} {w : World} (hf : (laid.filter fun x => x.2.handleName?.isSome) = []) (h : laidMetH P laid w) : laidMet P laid w := by
 unfold laidMetH at h
 rw [hf] at h
 exact h
theorem gl_strs {P : Program} {laid : List (String × DataW Unit)} {w : World} {Γ : Ctx} (h : laidMet P laid w) (i : Nat) {n : String} {zs : List Str} {g : Nat} {t e : TypeId} {k : Nat}
  (hi : laid[i]? = some (n, .agg (zs.map fun z => .lit (.string z)))) (hg : P.globalNamed n = some g) (hty : (P.globals[g]?).map (·.type) = some t)
  (ht : P.underlying t = some (.array k e)) (he : P.underlying e = some .string) (hce : P.cellsOf e = 1) (hct : P.cellsOf t = k) (hM : ¬ Γ.M g) : (gl g (zs.map S)).P Γ.M w := by
 obtain ⟨ps, hl, _⟩ := h
 obtain ⟨g', t', cs, fuel, p, hg', ht', hv, hd⟩ := laid_at _ _ hl i n _ hi
 obtain rfl := Option.some.inj (hg.symm.trans hg')
 obtain rfl := Option.some.inj (hty.symm.trans ht')
 have e1 := cells_of_strs ht he hce hct hd
 refine ⟨hM, ?_⟩
 unfold World.var? at hv
 rw [hg] at hv
 simp only [Option.bind_some] at hv
 split at hv
 ·rename_i c ty fr hb
  obtain rfl := Option.some.inj hv
  exact ⟨ty, fr, by rw [hb, ← e1]⟩
 ·cases hv
theorem gl_ints {P : Program} {laid : List (String × DataW Unit)} {w : World} {Γ : Ctx} (h : laidMet P laid w) (i : Nat) {n : String} {kd : IntKind} {zs : List Int} {g : Nat} {t e : TypeId} {k : Nat}
  (hi : laid[i]? = some (n, tabData kd zs)) (hg : P.globalNamed n = some g) (hty : (P.globals[g]?).map (·.type) = some t)
  (ht : P.underlying t = some (.array k e)) (he : P.underlying e = some (.int kd)) (hce : P.cellsOf e = 1) (hct : P.cellsOf t = k) (hM : ¬ Γ.M g) : (gl g (zs.map (Value.int kd))).P Γ.M w := by
 obtain ⟨ps, hl, _⟩ := h
 obtain ⟨g', t', cs, fuel, p, hg', ht', hv, hd⟩ := laid_at _ _ hl i n _ hi
 obtain rfl := Option.some.inj (hg.symm.trans hg')
 obtain rfl := Option.some.inj (hty.symm.trans ht')
 have e1 := cells_of_tab ht he hce hct hd
 refine ⟨hM, ?_⟩
 unfold World.var? at hv
 rw [hg] at hv
 simp only [Option.bind_some] at hv
 split at hv
 ·rename_i c ty fr hb
  obtain rfl := Option.some.inj hv
  exact ⟨ty, fr, by rw [hb, ← e1]⟩
 ·cases hv
/-! the row at the start: nothing is owned -/
def NoM (Γ : Ctx) : Prop := ∀ b, ¬ Γ.M b
theorem noM_nil : NoM [] := fun b h => by obtain ⟨it, h, _⟩ := h; cases h
theorem noM_cons {it : Item} {Γ : Ctx} (hp : it.own = []) (h : NoM Γ) : NoM (it :: Γ) := fun b hb => by
 rcases Ctx.M_cons.1 hb with h1 | h1
 ·rw [hp] at h1; cases h1
 ·exact h b h1
theorem sat_start (w : World) : Sat [kept w (fun _ => False)] w := Sat.nil.add rfl ⟨SameEnv.refl w, Nat.le_refl _, fun b _ _ => ⟨noM_nil b, rfl⟩⟩
theorem noM_start (w : World) : NoM [kept w (fun _ => False)] := noM_cons rfl noM_nil
theorem below_end {w w' : World} {Γ : Ctx} {i : Nat} (h : Sat Γ w') (hi : Γ[i]? = some (kept w (fun _ => False))) : Below w.heap.size w w' := by
 obtain ⟨h1, h2, h3⟩ := h.kept hi
 exact ⟨h1.os, h1.tape, h1.output, h2, fun k hk => (h3 k hk (fun h => h)).2⟩
end Go.Proofs.YtdhgpnejphlfpaaDoor
