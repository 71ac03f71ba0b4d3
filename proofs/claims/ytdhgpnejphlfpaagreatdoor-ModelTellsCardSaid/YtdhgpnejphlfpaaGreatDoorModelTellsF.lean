/-
  Own texts for the statement ModelTells, cut down to what it needs: TrA, TrPa, TrSys, TrPb, TrGen, SysT, MoStrip, MoLoc, LexProg, PrKey, PrRead, PrRead2, SysErr, TrType, MoA, MoB, MoBlk, TrSame, MoSame, MoC, MoD, MoE, MoSml, MoShown, TrRKey. (cut and joined by a program)
-/
import Derived.Test.YtdhgpnejphlfpaaGreatDoorModelTellsA
import Derived.Test.YtdhgpnejphlfpaaGreatDoorModelTellsB
import Derived.Test.YtdhgpnejphlfpaaGreatDoorModelTellsC
import Derived.Test.YtdhgpnejphlfpaaGreatDoorModelTellsD
import Derived.Test.YtdhgpnejphlfpaaGreatDoorModelTellsE
import Derived.KernelRfl
namespace Go.Proofs.YtdhgpnejphlfpaaGreatDoor
mutual
noncomputable def Ex.sz : Ex → Nat
 | .mk _ _ _ l => szL l + 1
noncomputable def szL : List Ex → Nat
 | [] => 0
 | x :: r => Ex.sz x + szL r
end
theorem Ex.JI (e : Ex) : e.sz = szL e.l + 1 := by cases e; simp only [Ex.sz, Ex.l]
theorem qg (e : Ex) : 1 ≤ e.sz := by rw [Ex.JI]; omega
theorem HK {x : Ex} : ∀ {l : List Ex}, x ∈ l → x.sz ≤ szL l
 | y :: l, h => by
  simp only [szL]
  rcases List.mem_cons.1 h with rfl | h
  ·omega
  ·have := HK h; omega
theorem FO : ∀ (l : List Ex), l.length ≤ szL l
 | [] => Nat.le_refl _
 | x :: l => by have := FO l; have := qg x; simp only [szL, List.length_cons]; omega
theorem nb {e x : Ex} (h : x ∈ e.l) : x.sz < e.sz := by have := HK h; rw [Ex.JI e]; omega
theorem rX (e : Ex) : e.l.length < e.sz := by have := FO e.l; rw [Ex.JI e]; omega
theorem ai {α ρ : Type} (x : α) (k : α → Option ρ) : (some x).bind k = k x := rfl
theorem aH {α ρ : Type} (x : α) (k : α → Option ρ) : ab x k = k x := rfl
theorem bZ {α ρ : Type} (d : α) (m : Option α) (k : α → Option ρ) : ax true d m k = m.bind k := rfl
theorem kT {α ρ : Type} (d : α) (m : Option α) (k : α → Option ρ) : ax false d m k = k d := rfl
theorem yt {l pre r : List Ex} {x : Ex} (h : l = pre ++ x :: r) : idx l (pre.length : Int) = some x := by subst h; simp [idx]
theorem g8 {n : Nat} (h : n < 4611686018427387904) : IntKind.i64.wrap ((n : Int) + 1) = ((n + 1 : Nat) : Int) := by rw [w64 (by omega)]; omega
theorem K0 {l pre r : List Ex} {x : Ex} (h : l = pre ++ x :: r) : decide ((pre.length : Int) < (List.length l : Int)) = true := by subst h; simp; omega
theorem Jw {l pre : List Ex} (h : l = pre ++ []) : decide ((pre.length : Int) < (List.length l : Int)) = false := by subst h; simp
noncomputable def qU (op a : Int) (i b t : Bool) : Int × Int × Int :=
 bif decide (op ≤ 6) && i then (1, 0, 0)
 else bif decide (6 < op) && decide (op ≤ 12) && i || op == 13 || op == 14 || decide (15 ≤ op) && decide (op ≤ 19) && b then (2, 0, 0)
 else bif decide (15 ≤ op) && t then (3, 0, 0) else (0, 4, a)
mutual
noncomputable def ty : Ex → Int × Int × Int
 | .mk op _ a l => tyA op a l true true true
noncomputable def tyA (op a : Int) : List Ex → Bool → Bool → Bool → Int × Int × Int
 | [], i, b, t => qU op a i b t
 | x :: r, i, b, t => bif (ty x).2.1 != 0 then (0, (ty x).2.1, (ty x).2.2) else tyA op a r (i && (ty x).1 == 1) (b && (ty x).1 == 2) (t && (ty x).1 != 1)
end
theorem CA (e : Ex) : ty e = tyA e.op e.at_ e.l true true true := by cases e; simp only [ty, Ex.op, Ex.at_, Ex.l]
theorem ID (op a : Int) (i b t : Bool) : (qU op a i b t).2.1 = 0 → (qU op a i b t).1 = 1 ∨ (qU op a i b t).1 = 2 ∨ (qU op a i b t).1 = 3 := by
 unfold qU
 cases decide (op ≤ 6) && i
 ·cases decide (6 < op) && decide (op ≤ 12) && i || op == 13 || op == 14 || decide (15 ≤ op) && decide (op ≤ 19) && b
  ·cases decide (15 ≤ op) && t
   ·intro h; cases h
   ·intro _; exact .inr (.inr rfl)
  ·intro _; exact .inr (.inl rfl)
 ·intro _; exact .inl rfl
theorem Fo (op a : Int) : ∀ (l : List Ex) (i b t : Bool), (tyA op a l i b t).2.1 = 0 → (tyA op a l i b t).1 = 1 ∨ (tyA op a l i b t).1 = 2 ∨ (tyA op a l i b t).1 = 3
 | [], i, b, t => ID op a i b t
 | x :: r, i, b, t => by
  simp only [tyA]
  cases h : (ty x).2.1 != 0
  ·simp only [cond_false]; exact Fo op a r _ _ _
  ·simp only [cond_true]
   intro h0
   rw [h0] at h; cases h
theorem NG (e : Ex) : (ty e).2.1 = 0 → (ty e).1 = 1 ∨ (ty e).1 = 2 ∨ (ty e).1 = 3 := by rw [CA]; exact Fo _ _ _ _ _ _
noncomputable def mm (op : Int) : Int := bif op == 1 || op == 2 || op == 13 || op == 14 then 0 else bif op == 6 || op == 15 || op == 20 || op == 21 || op == 22 then 1 else 2
noncomputable def ph (op n len want vars : Int) : Bool :=
 !(decide (op < 1) || decide (24 < op) || len != want) && !((op == 1) && (decide (n < 0) || decide (1073741824 < n)) || (op == 2) && (decide (n < 0) || decide (vars ≤ n)) || decide (2 < op) && n != 0)
mutual
noncomputable def jc (vars : Int) : Ex → Bool
 | .mk op n _ l => ph op n (l.length : Int) (mm op) vars && sM vars l
noncomputable def sM (vars : Int) : List Ex → Bool
 | [] => true
 | x :: r => jc vars x && sM vars r
end
theorem FL (vars : Int) (e : Ex) : jc vars e = (ph e.op e.n (e.l.length : Int) (mm e.op) vars && sM vars e.l) := by cases e; simp only [jc, Ex.op, Ex.n, Ex.l]
noncomputable def tr (b : Bool) : Int := bif b then 1 else 0
noncomputable def evF (op n : Int) (v : List Int) (a b : Int) : Int :=
 bif op == 1 then n else bif op == 2 then (bif decide (n < 0) || decide ((List.length v : Int) ≤ n) then 0 else v.getD n.toNat 0)
 else bif op == 3 then IntKind.i64.wrap (a + b) else bif op == 5 then IntKind.i64.wrap (a * b) else bif op == 6 then IntKind.i64.wrap (0 - a) else bif op == 4 then IntKind.i64.wrap (a - b)
 else bif op == 8 then tr ((a == b) != true) else bif op == 7 then tr ((a == b) != false) else bif op == 19 then tr ((a == b) != false)
 else bif op == 12 then tr (decide (a < b) != true) else bif op == 9 then tr (decide (a < b) != false) else bif op == 11 then tr (decide (a ≤ b) != true) else bif op == 10 then tr (decide (a ≤ b) != false)
 else bif op == 13 then 1 else bif op == 15 then IntKind.i64.wrap (1 - a) else bif op == 16 then IntKind.i64.wrap (a * b) else bif op == 17 then max a b else bif op == 18 then max (IntKind.i64.wrap (1 - a)) b else 0
mutual
noncomputable def ev (v : List Int) : Ex → Int
 | .mk op n _ l => evF op n v (ev0 v l) (ev1 v l)
noncomputable def ev0 (v : List Int) : List Ex → Int
 | [] => 0
 | x :: _ => ev v x
noncomputable def ev1 (v : List Int) : List Ex → Int
 | [] => 0
 | _ :: r => ev0 v r
end
noncomputable def CC (op a len i b t : Int) : Int × Int × Int :=
 bif decide (op ≤ 6) && (i == len) then (1, 0, 0)
 else bif decide (7 ≤ op) && decide (op ≤ 12) && (i == len) || op == 13 || op == 14 then (2, 0, 0)
 else bif decide (15 ≤ op) && decide (op ≤ 19) && (b == len) then (2, 0, 0)
 else bif decide (15 ≤ op) && (b + t == len) then (3, 0, 0) else (0, 4, a)
mutual
noncomputable def rt : Ex → Int × Int × Int
 | .mk op _ a l => rtA op a (l.length : Int) l 0 0 0
noncomputable def rtA (op a len : Int) : List Ex → Int → Int → Int → Int × Int × Int
 | [], i, b, t => CC op a len i b t
 | x :: r, i, b, t => bif (rt x).2.1 != 0 then (0, (rt x).2.1, (rt x).2.2) else rtA op a len r (bif (rt x).1 == 1 then i + 1 else i) (bif (rt x).1 == 2 then b + 1 else b) (bif (rt x).1 == 3 then t + 1 else t)
end
theorem rt_eq (e : Ex) : rt e = rtA e.op e.at_ (e.l.length : Int) e.l 0 0 0 := by cases e; simp only [rt, Ex.op, Ex.at_, Ex.l]
theorem Bn {α ρ : Type} (g : Bool) (d v : α) (k : α → Option ρ) : ax g d (some v) k = k (bif g then v else d) := by cases g <;> rfl
theorem Jk (op a len : Int) (i b t : Int) : qU op a (i == len) (b == len) (b + t == len) = CC op a len i b t := by
 unfold qU CC
 have h6 : decide (6 < op) = decide (7 ≤ op) := by
  by_cases h : 6 < op
  ·rw [decide_eq_true h, decide_eq_true (by omega)]
  ·rw [decide_eq_false h, decide_eq_false (by omega)]
 rw [h6]
 cases (decide (op ≤ 6) && (i == len))
 ·cases (decide (7 ≤ op) && decide (op ≤ 12) && (i == len))
  ·cases (op == 13)
   ·cases (op == 14)
    ·cases (decide (15 ≤ op) && decide (op ≤ 19) && (b == len)) <;> rfl
    ·rfl
   ·rfl
  ·rfl
 ·rfl
theorem z0 (op a len : Int) : ∀ (r : List Ex) (m : Int) (i b t : Int), (∀ x ∈ r, ty x = rt x) → m + r.length = len → 0 ≤ i ∧ 0 ≤ b ∧ 0 ≤ t → i + b + t = m →
  tyA op a r (i == m) (b == m) (b + t == m) = rtA op a len r i b t
 | [], m, i, b, t, _, hm, h0, _ => by
  obtain rfl : m = len := by simpa using hm
  simp only [tyA, rtA]
  exact Jk op a m i b t
 | x :: r, m, i, b, t, hx, hm, h0, hs => by
  have e := hx x (by simp)
  have one := NG x
  simp only [tyA, rtA, e] at one ⊢
  cases hf : ((rt x).2.1 != 0)
  ·simp only [cond_false]
   have ih := z0 op a len r (m + 1)
   have hr : ∀ y ∈ r, ty y = rt y := fun y hy => hx y (List.mem_cons_of_mem _ hy)
   have hm' : m + 1 + (r.length : Int) = len := by simp only [List.length_cons] at hm; omega
   have q : ∀ z : Int, z ≤ m → ((z == m) && true) = (z + 1 == m + 1) := fun z _ => by
    rw [Bool.and_true, Bool.eq_iff_iff, beq_iff_eq, beq_iff_eq]; omega
   have q0 : ∀ z : Int, z ≤ m → ((z == m) && false) = (z == m + 1) := fun z hz => by
    rw [Bool.and_false]; symm; rw [beq_eq_false_iff_ne]; omega
   rcases one (by simpa using hf) with h1 | h1 | h1
   ·rw [h1]
    have := ih (i + 1) b t hr hm' ⟨by omega, by omega, by omega⟩ (by omega)
    rw [← q i (by omega), ← q0 b (by omega), ← q0 (b + t) (by omega)] at this
    exact this
   ·rw [h1]
    have := ih i (b + 1) t hr hm' ⟨by omega, by omega, by omega⟩ (by omega)
    rw [show b + 1 + t = b + t + 1 by omega, ← q0 i (by omega), ← q b (by omega), ← q (b + t) (by omega)] at this
    exact this
   ·rw [h1]
    have := ih i b (t + 1) hr hm' ⟨by omega, by omega, by omega⟩ (by omega)
    rw [show b + (t + 1) = b + t + 1 by omega, ← q0 i (by omega), ← q0 b (by omega), ← q (b + t) (by omega)] at this
    exact this
  ·rfl
theorem Hv : ∀ (N : Nat) (e : Ex), e.sz ≤ N → ty e = rt e := by
 intro N
 induction N with
 | zero => intro e h; have := qg e; omega
 | succ N ih =>
  intro e h
  rw [CA, rt_eq]
  exact z0 e.op e.at_ (e.l.length : Int) e.l 0 0 0 0 (fun x hx => ih x (by have := nb hx; omega)) (by omega) ⟨by omega, by omega, by omega⟩ rfl
theorem H6 {vars : Int} {e : Ex} (h : jc vars e = true) : (1 ≤ e.op ∧ e.op ≤ 24) ∧ (e.l.length : Int) = mm e.op ∧ (e.op = 1 → 0 ≤ e.n ∧ e.n ≤ 1073741824) ∧ (e.op = 2 → 0 ≤ e.n ∧ e.n < vars) ∧ ∀ x ∈ e.l, jc vars x = true := by
 rw [FL] at h
 simp only [ph, Bool.and_eq_true, Bool.not_eq_true', Bool.or_eq_false_iff, decide_eq_false_iff_not, bne_eq_false_iff_eq, Bool.and_eq_false_imp, beq_iff_eq] at h
 obtain ⟨⟨⟨⟨h1, h2⟩, h3⟩, ⟨h4, h5⟩, _⟩, h6⟩ := h
 refine ⟨by omega, h3, fun h => by have := h4 h; omega, fun h => by have := h5 h; omega, ?_⟩
 have : ∀ (l : List Ex), sM vars l = true → ∀ x ∈ l, jc vars x = true := fun l => by
  induction l with
  | nil => intro _ x hx; cases hx
  | cons y r ih =>
   intro h x hx
   simp only [sM, Bool.and_eq_true] at h
   rcases List.mem_cons.1 hx with rfl | hx
   ·exact h.1
   ·exact ih h.2 x hx
 exact this _ h6
end Go.Proofs.YtdhgpnejphlfpaaGreatDoor
namespace Go.Proofs.YtdhgpnejphlfpaaGreatDoor
noncomputable def gn : List Str := [[116, 114, 117, 101], [102, 97, 108, 115, 101], [88], [70], [71], [85], [82], [118, 97, 114], [112, 114, 111, 99]]
noncomputable def I8 : List Str := [[], [], [], [43], [45], [42], [45], [61, 61], [33, 61], [60], [60, 61], [62], [62, 61], [116, 114, 117, 101], [102, 97, 108, 115, 101], [33], [38], [124], [45, 62], [60, 45, 62], [88], [70], [71], [85], [82]]
noncomputable def aN (op : Int) : Str := I8.getD op.toNat []
namespace Pa
abbrev Tok := Int × Str × Int × Int
abbrev Out := Except (Int × Int) (Ex × List Tok)
noncomputable def key (s : Str) : Bool := gn.contains s
noncomputable def sgn (t : Tok) : Bool := t.1 == 3 || (t.1 == 1 && key t.2.1)
noncomputable def ops : Nat → List Int
 | 1 => [19]
 | 2 => [18]
 | 3 => [17]
 | 4 => [16]
 | 5 => [23, 24]
 | 6 => [15, 20, 21, 22]
 | 7 => [7, 8, 9, 10, 11, 12]
 | 8 => [3, 4]
 | 9 => [5]
 | 10 => [6]
 | 11 => [13, 14]
 | _ => []
noncomputable def fnd (l : List Int) (t : Tok) : Option Int := bif sgn t then l.find? (fun o => aN o == t.2.1) else none
noncomputable def bA (s : Nat) (t : Tok) : Option Int := fnd (ops s) t
noncomputable def kd : Nat → Nat
 | 6 => 0
 | 10 => 0
 | 1 => 1
 | 2 => 1
 | 5 => 1
 | 7 => 1
 | 3 => 2
 | 4 => 2
 | 8 => 2
 | 9 => 2
 | 11 => 3
 | _ => 4
noncomputable def lf (s : Nat) : Bool := s == 1 || s == 2 || s == 5 || s == 6 || s == 10
noncomputable def dn (s : Nat) (d : Int) : Int := bif lf s then d + 1 else d
noncomputable def iA (s : Nat) (d : Int) : Bool := lf s && decide (320 ≤ d)
noncomputable def nx (s : Nat) : Nat := bif s == 7 then 8 else s
noncomputable def at_ (names : List Str) (v : Str) : Option Nat := names.findIdx? (fun x => v == x)
noncomputable def open_ (t : Tok) : Bool := t.1 == 3 && t.2.1 == [40]
noncomputable def close_ (t : Tok) : Bool := t.1 == 3 && t.2.1 == [41]
noncomputable def iR (t : Tok) : Bool := t.1 == 1 && !key t.2.1
noncomputable def CR (k : Int) (a : Int) (r : Out) : Out := r.map fun p => (.mk k 0 a [p.1], p.2)
noncomputable def D4 (k : Int) (a : Int) (x : Ex) (r : Out) : Out := r.map fun p => (.mk k 0 a [x, p.1], p.2)
inductive Job where
 | line (s : Nat)
 | loop (s : Nat) (a : Ex)
open Job
inductive P (names : List Str) : Job → Int → List Tok → Out → Prop
 | big {s d t ts} : iA s d = true → P names (line s) d (t :: ts) (.error (9, t.2.2.2))
 | pre {s d t ts k r} : kd s = 0 → iA s d = false → bA s t = some k → P names (line s) (dn s d) ts r → P names (line s) d (t :: ts) (CR k t.2.2.2 r)
 | other {s d t ts r} : kd s = 0 → iA s d = false → bA s t = none → P names (line (s + 1)) (dn s d) (t :: ts) r → P names (line s) d (t :: ts) r
 | rErr {s d ts e} : kd s = 1 → iA s d = false → P names (line (s + 1)) (dn s d) ts (.error e) → P names (line s) d ts (.error e)
 | rOne {s d ts a t ts'} : kd s = 1 → iA s d = false → P names (line (s + 1)) (dn s d) ts (.ok (a, t :: ts')) → bA s t = none → P names (line s) d ts (.ok (a, t :: ts'))
 | rTwo {s d ts a t ts' k r} : kd s = 1 → iA s d = false → P names (line (s + 1)) (dn s d) ts (.ok (a, t :: ts')) → bA s t = some k → P names (line (nx s)) (dn s d) ts' r → P names (line s) d ts (D4 k t.2.2.2 a r)
 | lErr {s d ts e} : kd s = 2 → P names (line (s + 1)) d ts (.error e) → P names (line s) d ts (.error e)
 | lGo {s d ts a ts' r} : kd s = 2 → P names (line (s + 1)) d ts (.ok (a, ts')) → P names (loop s a) d ts' r → P names (line s) d ts r
 | lpEnd {s a d t ts} : bA s t = none → P names (loop s a) d (t :: ts) (.ok (a, t :: ts))
 | lpErr {s a d t ts k e} : bA s t = some k → P names (line (s + 1)) d ts (.error e) → P names (loop s a) d (t :: ts) (.error e)
 | lpGo {s a d t ts k b ts' r} : bA s t = some k → P names (line (s + 1)) d ts (.ok (b, ts')) → P names (loop s (.mk k 0 t.2.2.2 [a, b])) d ts' r → P names (loop s a) d (t :: ts) r
 | oWord {s d t ts k} : kd s = 3 → bA s t = some k → P names (line s) d (t :: ts) (.ok (.mk k 0 t.2.2.2 [], ts))
 | oNum {s d t ts} : kd s = 3 → bA s t = none → (t.1 == 2) = true → P names (line s) d (t :: ts) (.ok (.mk 1 t.2.2.1 t.2.2.2 [], ts))
 | oVar {s d t ts i} : kd s = 3 → bA s t = none → (t.1 == 2) = false → iR t = true → at_ names t.2.1 = some i → P names (line s) d (t :: ts) (.ok (.mk 2 (i : Int) t.2.2.2 [], ts))
 | oName {s d t ts} : kd s = 3 → bA s t = none → (t.1 == 2) = false → iR t = true → at_ names t.2.1 = none → P names (line s) d (t :: ts) (.error (3, t.2.2.2))
 | oOpen {s d t ts a c ts'} : kd s = 3 → bA s t = none → (t.1 == 2) = false → iR t = false → open_ t = true → P names (line 1) d ts (.ok (a, c :: ts')) → close_ c = true → P names (line s) d (t :: ts) (.ok (a, ts'))
 | oErr {s d t ts e} : kd s = 3 → bA s t = none → (t.1 == 2) = false → iR t = false → open_ t = true → P names (line 1) d ts (.error e) → P names (line s) d (t :: ts) (.error e)
 | oClose {s d t ts a c ts'} : kd s = 3 → bA s t = none → (t.1 == 2) = false → iR t = false → open_ t = true → P names (line 1) d ts (.ok (a, c :: ts')) → close_ c = false → P names (line s) d (t :: ts) (.error (2, c.2.2.2))
 | oForm {s d t ts} : kd s = 3 → bA s t = none → (t.1 == 2) = false → iR t = false → open_ t = false → P names (line s) d (t :: ts) (.error (2, t.2.2.2))
theorem jZ {s : Nat} {d : Int} (h : iA s d = true) : kd s = 0 ∨ kd s = 1 := by
 unfold iA lf at h
 simp only [Bool.and_eq_true, Bool.or_eq_true, beq_iff_eq] at h
 rcases h.1 with (((rfl | rfl) | rfl) | rfl) | rfl <;> simp [kd]
theorem P.det {names : List Str} {j : Job} {d : Int} {ts : List Tok} {r r' : Out} (h : P names j d ts r) (h' : P names j d ts r') : r = r' := by
 induction h generalizing r' with
 | big h0 => have := jZ h0; cases h' <;> simp_all
 | pre h0 h1 h2 h3 ih => cases h' <;> simp_all <;> (rename_i h4; rw [ih h4])
 | other h0 h1 h2 h3 ih =>
  cases h' with
  | other _ _ _ h => exact ih h
  | _ => simp_all
 | rErr h0 h1 h2 ih =>
  cases h' with
  | rErr _ _ h => exact ih h
  | rOne _ _ h => cases ih h
  | rTwo _ _ h => cases ih h
  | _ => simp_all
 | rOne h0 h1 h2 h3 ih =>
  cases h' with
  | rErr _ _ h => cases ih h
  | rOne _ _ h => exact ih h
  | rTwo _ _ h h4 => cases ih h; simp_all
  | _ => simp_all
 | rTwo h0 h1 h2 h3 h4 ih ih2 =>
  cases h' with
  | rErr _ _ h => cases ih h
  | rOne _ _ h => cases ih h; simp_all
  | rTwo _ _ h h5 h6 => cases ih h; rw [h3] at h5; cases h5; rw [ih2 h6]
  | _ => simp_all
 | lErr h0 h1 ih =>
  cases h' with
  | lErr _ h => exact ih h
  | lGo _ h => cases ih h
  | big h => have := jZ h; simp_all
  | _ => simp_all
 | lGo h0 h1 h2 ih ih2 =>
  cases h' with
  | lErr _ h => cases ih h
  | lGo _ h h3 => cases ih h; exact ih2 h3
  | big h => have := jZ h; simp_all
  | _ => simp_all
 | lpEnd h0 => cases h' <;> simp_all
 | lpErr h0 h1 ih =>
  cases h' with
  | lpErr _ h => exact ih h
  | lpGo _ h => cases ih h
  | _ => simp_all
 | lpGo h0 h1 h2 ih ih2 =>
  cases h' with
  | lpErr _ h => cases ih h
  | lpGo h4 h h3 => cases ih h; rw [h0] at h4; cases h4; exact ih2 h3
  | _ => simp_all
 | oOpen h0 h1 h2 h3 h4 h5 h6 ih =>
  cases h' with
  | oOpen _ _ _ _ _ h _ => cases ih h; rfl
  | oErr _ _ _ _ _ h => cases ih h
  | oClose _ _ _ _ _ h h7 => cases ih h; simp_all
  | big h => have := jZ h; simp_all
  | _ => simp_all
 | oErr h0 h1 h2 h3 h4 h5 ih =>
  cases h' with
  | oOpen _ _ _ _ _ h _ => cases ih h
  | oErr _ _ _ _ _ h => exact ih h
  | oClose _ _ _ _ _ h h7 => cases ih h
  | big h => have := jZ h; simp_all
  | _ => simp_all
 | oClose h0 h1 h2 h3 h4 h5 h6 ih =>
  cases h' with
  | oOpen _ _ _ _ _ h _ => cases ih h; simp_all
  | oErr _ _ _ _ _ h => cases ih h
  | oClose _ _ _ _ _ h h7 => cases ih h; rfl
  | big h => have := jZ h; simp_all
  | _ => simp_all
 | oWord h0 h1 => cases h' <;> first | (rename_i h; have := jZ h; simp_all; done) | simp_all
 | oNum h0 h1 h2 => cases h' <;> first | (rename_i h; have := jZ h; simp_all; done) | simp_all
 | oVar h0 h1 h2 h3 h4 => cases h' <;> first | (rename_i h; have := jZ h; simp_all; done) | simp_all
 | oName h0 h1 h2 h3 h4 => cases h' <;> first | (rename_i h; have := jZ h; simp_all; done) | simp_all
 | oForm h0 h1 h2 h3 h4 => cases h' <;> first | (rename_i h; have := jZ h; simp_all; done) | simp_all
noncomputable def Ends : List Tok → Prop
 | [] => False
 | t :: ts => Ends ts ∨ (ts = [] ∧ t.1 = 4)
theorem Ends.tail {t : Tok} {ts : List Tok} (h : Ends (t :: ts)) (h4 : t.1 ≠ 4) : Ends ts := by
 rcases h with h | ⟨_, h⟩
 ·exact h
 ·exact absurd h h4
theorem Ends.ne {ts : List Tok} (h : Ends ts) : ∃ t r, ts = t :: r := by
 cases ts with
 | nil => exact h.elim
 | cons t r => exact ⟨t, r, rfl⟩
theorem HU {t : Tok} (h : sgn t = true) : t.1 ≠ 4 := by
 unfold sgn at h
 intro h4
 rw [h4] at h; simp at h
theorem LO {l : List Int} {t : Tok} {k : Int} (h : fnd l t = some k) : sgn t = true := by
 unfold fnd at h
 cases hs : sgn t
 ·rw [hs] at h; cases h
 ·rfl
theorem Og {l : List Int} {t : Tok} {k : Int} (h : fnd l t = some k) : t.1 ≠ 4 := HU (LO h)
theorem na {s : Nat} {t : Tok} {k : Int} (h : bA s t = some k) : t.1 ≠ 4 := Og h
noncomputable def shorter : Job → Nat → Nat → Prop
 | line _, a, b => a < b
 | loop _ _, a, b => a ≤ b
theorem P.ends {names : List Str} {j : Job} {d : Int} {ts : List Tok} {r : Out} (h : P names j d ts r) : Ends ts → ∀ p, r = .ok p → Ends p.2 ∧ shorter j p.2.length ts.length := by
 induction h with
 | big => intro _ p h; cases h
 | @pre s d t ts k r h0 h1 h2 h3 ih =>
  intro he p h
  cases r with
  | error e => cases h
  | ok q =>
   obtain ⟨i1, i2⟩ := ih (he.tail (na h2)) q rfl
   cases h
   refine ⟨i1, ?_⟩
   simp only [shorter, List.length_cons] at *; omega
 | other h0 h1 h2 h3 ih => intro he p h; exact ih he p h
 | rErr => intro _ p h; cases h
 | rOne h0 h1 h2 h3 ih => intro he p h; exact ih he p h
 | @rTwo s d ts a t ts' k r h0 h1 h2 h3 h4 ih ih2 =>
  intro he p h
  cases r with
  | error e => cases h
  | ok q =>
   obtain ⟨i1, i2⟩ := ih he _ rfl
   obtain ⟨i3, i4⟩ := ih2 (i1.tail (na h3)) q rfl
   cases h
   refine ⟨i3, ?_⟩
   simp only [shorter, List.length_cons] at *; omega
 | lErr => intro _ p h; cases h
 | lGo h0 h1 h2 ih ih2 =>
  intro he p h
  obtain ⟨i1, i2⟩ := ih he _ rfl
  obtain ⟨i3, i4⟩ := ih2 i1 p h
  refine ⟨i3, ?_⟩
  simp only [shorter] at *; omega
 | lpEnd h0 => intro he p h; cases h; exact ⟨he, Nat.le_refl _⟩
 | lpErr => intro _ p h; cases h
 | lpGo h0 h1 h2 ih ih2 =>
  intro he p h
  obtain ⟨i1, i2⟩ := ih (he.tail (na h0)) _ rfl
  obtain ⟨i3, i4⟩ := ih2 i1 p h
  refine ⟨i3, ?_⟩
  simp only [shorter, List.length_cons] at *; omega
 | oWord h0 h1 => intro he p h; cases h; exact ⟨he.tail (na h1), Nat.lt_succ_self _⟩
 | oNum h0 h1 h2 => intro he p h; cases h; exact ⟨he.tail (by have := beq_iff_eq.1 h2; omega), Nat.lt_succ_self _⟩
 | oVar h0 h1 h2 h3 h4 => intro he p h; cases h; exact ⟨he.tail (by unfold iR at h3; simp only [Bool.and_eq_true, beq_iff_eq] at h3; omega), Nat.lt_succ_self _⟩
 | oName => intro _ p h; cases h
 | oOpen h0 h1 h2 h3 h4 h5 h6 ih =>
  intro he p h
  cases h
  obtain ⟨i1, i2⟩ := ih (he.tail (by unfold open_ at h4; simp only [Bool.and_eq_true, beq_iff_eq] at h4; omega)) _ rfl
  refine ⟨i1.tail (by unfold close_ at h6; simp only [Bool.and_eq_true, beq_iff_eq] at h6; omega), ?_⟩
  simp only [shorter, List.length_cons] at *; omega
 | oErr => intro _ p h; cases h
 | oClose => intro _ p h; cases h
 | oForm => intro _ p h; cases h
theorem P.err {names : List Str} {j : Job} {d : Int} {ts : List Tok} {r : Out} (h : P names j d ts r) : ∀ e, r = .error e → e.1 = 9 ∨ e.1 = 2 ∨ e.1 = 3 := by
 induction h with
 | big => intro e h; cases h; exact .inl rfl
 | @pre s d t ts k r h0 h1 h2 h3 ih =>
  intro e h
  cases r with
  | error e' => cases h; exact ih _ rfl
  | ok q => cases h
 | other h0 h1 h2 h3 ih => exact ih
 | rErr _ _ _ ih => exact ih
 | rOne => intro e h; cases h
 | @rTwo s d ts a t ts' k r h0 h1 h2 h3 h4 ih ih2 =>
  intro e h
  cases r with
  | error e' => cases h; exact ih2 _ rfl
  | ok q => cases h
 | lErr _ _ ih => exact ih
 | lGo _ _ _ _ ih => exact ih
 | lpEnd => intro e h; cases h
 | lpErr _ _ ih => exact ih
 | lpGo _ _ _ _ ih => exact ih
 | oWord => intro e h; cases h
 | oNum => intro e h; cases h
 | oVar => intro e h; cases h
 | oName => intro e h; cases h; exact .inr (.inr rfl)
 | oOpen => intro e h; cases h
 | oErr _ _ _ _ _ _ ih => exact ih
 | oClose => intro e h; cases h; exact .inr (.inl rfl)
 | oForm => intro e h; cases h; exact .inr (.inl rfl)
end Pa
end Go.Proofs.YtdhgpnejphlfpaaGreatDoor
namespace Go.Proofs.YtdhgpnejphlfpaaGreatDoor
namespace Sy
open Pa
abbrev Cmd := Int × Ex × List (Int × Ex)
abbrev Mdl := List Str × List (Int × Int) × List Int × List Str × List Cmd
abbrev Err := Int × Int
noncomputable def yi (names : List Str) (ts : List Tok) : Out :=
 open Classical in if h : ∃ r, P names (.line 1) 0 ts r then Classical.choose h else .error (2, 0)
theorem CO {names : List Str} {ts : List Tok} {r : Out} (h : P names (.line 1) 0 ts r) : yi names ts = r := by
 unfold yi
 rw [dif_pos ⟨r, h⟩]
 exact (Classical.choose_spec (⟨r, h⟩ : ∃ r, P names (.line 1) 0 ts r)).det h
theorem K8 {names : List Str} {ts : List Tok} {p : Ex × List Tok} (h : yi names ts = .ok p) : P names (.line 1) 0 ts (.ok p) := by
 unfold yi at h
 split at h
 ·rename_i hx
  have := Classical.choose_spec hx
  rw [h] at this; exact this
 ·cases h
noncomputable def isT (k : Int) (x : Str) (t : Tok) : Bool := (t.1 == k) && (t.2.1 == x)
noncomputable def vA : List Tok → Int
 | [] => 0
 | t :: _ => t.2.2.2
noncomputable def isH (k : Int) (x : Str) : List Tok → Bool
 | [] => false
 | t :: _ => isT k x t
noncomputable def aA (x : Str) (ts : List Tok) : Except Err (List Tok) := match ts with
 | [] => .error (2, 0)
 | t :: r => bif isT 3 x t then .ok r else .error (2, t.2.2.2)
noncomputable def cW (full : Bool) (names procs : List Str) (ts : List Tok) : Except Err (Str × List Tok) := match ts with
 | [] => .error (2, 0)
 | t :: r => bif t.1 != 1 then .error (2, t.2.2.2) else bif key t.2.1 || names.contains t.2.1 || procs.contains t.2.1 then .error (3, t.2.2.2) else bif full then .error (9, t.2.2.2) else .ok (t.2.1, r)
noncomputable def lB (neg : Bool) (ts : List Tok) : Except Err (Int × List Tok) := match ts with
 | [] => .error (2, 0)
 | t :: r => bif t.1 != 2 then .error (2, t.2.2.2) else .ok (bif neg then IntKind.i64.wrap (0 - t.2.2.1) else t.2.2.1, r)
noncomputable def dw (ts : List Tok) : Except Err (Int × List Tok) := bif isH 3 [45] ts then lB true ts.tail else lB false ts
noncomputable def cQ (lo hi : Int) : Bool := !(decide (hi < lo)) && !(decide (lo < -1073741824)) && !(decide (1073741824 < hi)) && !(decide (65535 < IntKind.i64.wrap (hi - lo)))
noncomputable def jK (m : Mdl) (ts : List Tok) : Except Err (Mdl × List Tok) :=
 match cW (decide (16 ≤ (m.1.length : Int))) m.1 m.2.2.2.1 ts with
 | .error e => .error e
 | .ok (name, ts1) => match dw ts1 with
  | .error e => .error e
  | .ok (lo, ts2) => match dw ts2 with
   | .error e => .error e
   | .ok (hi, ts3) => match dw ts3 with
    | .error e => .error e
    | .ok (first, ts4) => match aA [59] ts4 with
     | .error e => .error e
     | .ok ts5 => bif !(cQ lo hi) || decide (first < lo) || decide (hi < first) then .error (5, vA ts1) else .ok ((m.1 ++ [name], m.2.1 ++ [(lo, hi)], m.2.2.1 ++ [first], m.2.2.2.1, m.2.2.2.2), ts5)
noncomputable def ct (want : Int) (names : List Str) (ts : List Tok) : Except Err (Ex × List Tok) :=
 match yi names ts with
 | .error e => .error e
 | .ok (x, r) => bif (rt x).2.1 != 0 then .error ((rt x).2.1, (rt x).2.2) else bif (rt x).1 != want then .error (4, x.at_) else .ok (x, r)
noncomputable def bD (names : List Str) (v : Str) : Int := match at_ names v with
 | some i => (i : Int)
 | none => -1
noncomputable def jq (acc : List (Int × Ex)) (i : Int) : Bool := acc.any (fun s => s.1 == i)
noncomputable def cZ (names : List Str) : Nat → List (Int × Ex) → List Tok → Except Err (List (Int × Ex) × List Tok)
 | 0, _, _ => .error (2, 0)
 | f + 1, acc, ts => match ts with
  | [] => .error (2, 0)
  | t :: r => bif t.1 != 1 then .error (2, t.2.2.2) else bif decide (bD names t.2.1 < 0) || jq acc (bD names t.2.1) then .error (3, t.2.2.2) else
   match aA [61] r with
   | .error e => .error e
   | .ok r1 => match ct 1 names r1 with
    | .error e => .error e
    | .ok (x, r2) => bif isH 3 [44] r2 then cZ names f (acc ++ [(bD names t.2.1, x)]) r2.tail else .ok (acc ++ [(bD names t.2.1, x)], r2)
noncomputable def iu (m : Mdl) (ts : List Tok) : Except Err (Mdl × List Tok) :=
 bif decide (256 ≤ (m.2.2.2.2.length : Int)) then .error (9, vA ts) else
 match ct 2 m.1 ts with
 | .error e => .error e
 | .ok (g, r1) => match aA [58] r1 with
  | .error e => .error e
  | .ok r2 => match cZ m.1 (r2.length + 1) [] r2 with
   | .error e => .error e
   | .ok (sets, r3) => match aA [59] r3 with
    | .error e => .error e
    | .ok r4 => .ok ((m.1, m.2.1, m.2.2.1, m.2.2.2.1, m.2.2.2.2 ++ [(IntKind.i64.wrap ((m.2.2.2.1.length : Int) - 1), g, sets)]), r4)
noncomputable def gw : Nat → Mdl → List Tok → Except Err (Mdl × List Tok)
 | 0, _, _ => .error (2, 0)
 | f + 1, m, ts => bif isH 3 [125] ts then .ok (m, ts.tail) else match iu m ts with
  | .error e => .error e
  | .ok (m', r) => gw f m' r
noncomputable def im (m : Mdl) (ts : List Tok) : Except Err (Mdl × List Tok) :=
 match cW false m.1 m.2.2.2.1 ts with
 | .error e => .error e
 | .ok (name, r1) => match aA [123] r1 with
  | .error e => .error e
  | .ok r2 => gw (r2.length + 1) (m.1, m.2.1, m.2.2.1, m.2.2.2.1 ++ [name], m.2.2.2.2) r2
noncomputable def gP : Nat → Mdl → List Tok → Except Err Mdl
 | 0, _, _ => .error (2, 0)
 | f + 1, m, ts => match ts with
  | [] => .error (2, 0)
  | t :: r => bif t.1 == 4 then (bif m.1.isEmpty then .error (2, t.2.2.2) else .ok m)
   else bif isT 1 [118, 97, 114] t then (match jK m r with
    | .error e => .error e
    | .ok (m', r') => gP f m' r')
   else bif isT 1 [112, 114, 111, 99] t then (match im m r with
    | .error e => .error e
    | .ok (m', r') => gP f m' r')
   else .error (2, t.2.2.2)
noncomputable def sys (l : List Tok) : Except Err Mdl := gP (l.length + 1) ([], [], [], [], []) l
noncomputable def ue : Except Err Mdl → Mdl × Int × Int
 | .ok m => (m, 0, 0)
 | .error e => (([], [], [], [], []), e.1, e.2)
/-! what is read is shorter, and ends as it ended -/
noncomputable def cC (ts ts' : List Tok) : Prop := Pa.Ends ts' ∧ ts'.length < ts.length
theorem xQ {k : Int} {x : Str} {t : Tok} (h : isT k x t = true) (hk : k ≠ 4) : t.1 ≠ 4 := by
 unfold isT at h
 simp only [Bool.and_eq_true, beq_iff_eq] at h
 omega
theorem dW {x : Str} {ts r : List Tok} (he : Pa.Ends ts) (h : aA x ts = .ok r) : cC ts r := by
 obtain ⟨t, ts', rfl⟩ := he.ne
 simp only [aA] at h
 cases hc : isT 3 x t
 ·rw [hc] at h; cases h
 ·rw [hc] at h; cases h
  exact ⟨he.tail (xQ hc (by decide)), Nat.lt_succ_self _⟩
theorem nB {full : Bool} {names procs : List Str} {ts : List Tok} {p : Str × List Tok} (he : Pa.Ends ts) (h : cW full names procs ts = .ok p) :
  cC ts p.2 ∧ key p.1 = false ∧ names.contains p.1 = false ∧ procs.contains p.1 = false ∧ full = false := by
 obtain ⟨t, ts', rfl⟩ := he.ne
 simp only [cW] at h
 cases h1 : (t.1 != 1)
 ·rw [h1] at h
  simp only [cond_false] at h
  cases h2 : (key t.2.1 || names.contains t.2.1 || procs.contains t.2.1)
  ·rw [h2] at h
   simp only [cond_false] at h
   cases full
   ·cases h
    simp only [Bool.or_eq_false_iff] at h2
    have : t.1 = 1 := by simpa using h1
    exact ⟨⟨he.tail (by omega), Nat.lt_succ_self _⟩, h2.1.1, h2.1.2, h2.2, rfl⟩
   ·cases h
  ·rw [h2] at h; cases h
 ·rw [h1] at h; cases h
theorem Dv {neg : Bool} {ts : List Tok} {p : Int × List Tok} (he : Pa.Ends ts) (h : lB neg ts = .ok p) : cC ts p.2 := by
 obtain ⟨t, ts', rfl⟩ := he.ne
 simp only [lB] at h
 cases h1 : (t.1 != 2)
 ·rw [h1] at h
  cases h
  have : t.1 = 2 := by simpa using h1
  exact ⟨he.tail (by omega), Nat.lt_succ_self _⟩
 ·rw [h1] at h; cases h
theorem iF {k : Int} {x : Str} {ts : List Tok} (he : Pa.Ends ts) (hk : k ≠ 4) (h : isH k x ts = true) : Pa.Ends ts.tail ∧ ts.tail.length + 1 = ts.length := by
 obtain ⟨t, ts', rfl⟩ := he.ne
 exact ⟨he.tail (xQ h hk), rfl⟩
theorem rO {ts : List Tok} {p : Int × List Tok} (he : Pa.Ends ts) (h : dw ts = .ok p) : cC ts p.2 := by
 unfold dw at h
 cases hc : isH 3 [45] ts
 ·rw [hc] at h; exact Dv he h
 ·rw [hc] at h
  obtain ⟨h1, h2⟩ := iF he (by decide) hc
  obtain ⟨h3, h4⟩ := Dv h1 h
  exact ⟨h3, by omega⟩
theorem jz {want : Int} {names : List Str} {ts : List Tok} {p : Ex × List Tok} (he : Pa.Ends ts) (h : ct want names ts = .ok p) :
  cC ts p.2 ∧ P names (.line 1) 0 ts (.ok p) ∧ (rt p.1).2.1 = 0 ∧ (rt p.1).1 = want := by
 unfold ct at h
 cases hr : yi names ts with
 | error e => rw [hr] at h; cases h
 | ok q =>
  obtain ⟨x, r⟩ := q
  rw [hr] at h
  simp only at h
  cases h1 : ((rt x).2.1 != 0)
  ·rw [h1] at h
   simp only [cond_false] at h
   cases h2 : ((rt x).1 != want)
   ·rw [h2] at h
    cases h
    have hp := K8 hr
    exact ⟨hp.ends he _ rfl, hp, by simpa using h1, by simpa using h2⟩
   ·rw [h2] at h; cases h
  ·rw [h1] at h; cases h
theorem cC.trans {a b c : List Tok} (h : cC a b) (k : cC b c) : cC a c := ⟨k.1, Nat.lt_trans k.2 h.2⟩
theorem EA {names : List Str} : ∀ (f : Nat) (acc : List (Int × Ex)) (ts : List Tok) (p : List (Int × Ex) × List Tok), Pa.Ends ts → cZ names f acc ts = .ok p → cC ts p.2 := by
 intro f
 induction f with
 | zero => intro _ _ _ _ h; simp [cZ] at h
 | succ f ih =>
  intro acc ts p he h
  obtain ⟨t, r, rfl⟩ := he.ne
  simp only [cZ] at h
  cases h1 : (t.1 != 1)
  case true => rw [h1] at h; cases h
  rw [h1] at h
  simp only [cond_false] at h
  cases h2 : (decide (bD names t.2.1 < 0) || jq acc (bD names t.2.1))
  case true => rw [h2] at h; cases h
  rw [h2] at h
  simp only [cond_false] at h
  have ht : t.1 = 1 := by simpa using h1
  have he1 := he.tail (by omega)
  cases h3 : aA [61] r with
  | error e => rw [h3] at h; cases h
  | ok r1 =>
   rw [h3] at h
   simp only at h
   have s1 := dW he1 h3
   cases h4 : ct 1 names r1 with
   | error e => rw [h4] at h; cases h
   | ok q =>
    obtain ⟨x, r2⟩ := q
    rw [h4] at h
    simp only at h
    have s2 : cC r1 r2 := (jz s1.1 h4).1
    have s12 : cC (t :: r) r2 := ⟨s2.1, by have := s1.2; have := s2.2; simp only [List.length_cons]; omega⟩
    cases h5 : isH 3 [44] r2
    ·rw [h5] at h
     cases h
     exact s12
    ·rw [h5] at h
     simp only [cond_true] at h
     obtain ⟨e1, e2⟩ := iF s2.1 (by decide) h5
     have := ih _ _ _ e1 h
     exact ⟨this.1, by have := this.2; have := s12.2; omega⟩
theorem yr {m : Mdl} {ts : List Tok} {p : Mdl × List Tok} (he : Pa.Ends ts) (h : jK m ts = .ok p) : cC ts p.2 ∧
  ∃ name lo hi first, p.1 = (m.1 ++ [name], m.2.1 ++ [(lo, hi)], m.2.2.1 ++ [first], m.2.2.2.1, m.2.2.2.2) ∧ cQ lo hi = true ∧ lo ≤ first ∧ first ≤ hi ∧ m.1.length < 16 ∧ m.1.contains name = false := by
 unfold jK at h
 cases h1 : cW (decide (16 ≤ (m.1.length : Int))) m.1 m.2.2.2.1 ts with
 | error e => rw [h1] at h; cases h
 | ok q1 =>
  obtain ⟨name, ts1⟩ := q1
  rw [h1] at h
  simp only at h
  obtain ⟨s1, _, hnm, _, hfull⟩ := nB he h1
  cases h2 : dw ts1 with
  | error e => rw [h2] at h; cases h
  | ok q2 =>
   obtain ⟨lo, ts2⟩ := q2
   rw [h2] at h
   simp only at h
   have s2 := rO s1.1 h2
   cases h3 : dw ts2 with
   | error e => rw [h3] at h; cases h
   | ok q3 =>
    obtain ⟨hi, ts3⟩ := q3
    rw [h3] at h
    simp only at h
    have s3 := rO s2.1 h3
    cases h4 : dw ts3 with
    | error e => rw [h4] at h; cases h
    | ok q4 =>
     obtain ⟨first, ts4⟩ := q4
     rw [h4] at h
     simp only at h
     have s4 := rO s3.1 h4
     cases h5 : aA [59] ts4 with
     | error e => rw [h5] at h; cases h
     | ok ts5 =>
      rw [h5] at h
      simp only at h
      have s5 := dW s4.1 h5
      cases h6 : (!(cQ lo hi) || decide (first < lo) || decide (hi < first))
      ·rw [h6] at h
       cases h
       simp only [Bool.or_eq_false_iff, decide_eq_false_iff_not, Bool.not_eq_false'] at h6
       simp only [decide_eq_false_iff_not] at hfull
       exact ⟨(((s1.trans s2).trans s3).trans s4).trans s5, name, lo, hi, first, rfl, h6.1.1, by omega, by omega, by omega, hnm⟩
      ·rw [h6] at h; cases h
theorem uP {m : Mdl} {ts : List Tok} {p : Mdl × List Tok} (he : Pa.Ends ts) (h : iu m ts = .ok p) : cC ts p.2 ∧
  ∃ g r1 r2 sets r3, m.2.2.2.2.length < 256 ∧ ct 2 m.1 ts = .ok (g, r1) ∧ Pa.Ends r2 ∧ cZ m.1 (r2.length + 1) [] r2 = .ok (sets, r3) ∧
   p.1 = (m.1, m.2.1, m.2.2.1, m.2.2.2.1, m.2.2.2.2 ++ [(IntKind.i64.wrap ((m.2.2.2.1.length : Int) - 1), g, sets)]) ∧ aA [58] r1 = .ok r2 ∧ aA [59] r3 = .ok p.2 := by
 unfold iu at h
 cases h0 : decide (256 ≤ (m.2.2.2.2.length : Int))
 case true => rw [h0] at h; cases h
 rw [h0] at h
 simp only [cond_false] at h
 simp only [decide_eq_false_iff_not] at h0
 cases h1 : ct 2 m.1 ts with
 | error e => rw [h1] at h; cases h
 | ok q1 =>
  obtain ⟨g, r1⟩ := q1
  rw [h1] at h
  simp only at h
  have s1 := (jz he h1).1
  cases h2 : aA [58] r1 with
  | error e => rw [h2] at h; cases h
  | ok r2 =>
   rw [h2] at h
   simp only at h
   have s2 := dW s1.1 h2
   cases h3 : cZ m.1 (r2.length + 1) [] r2 with
   | error e => rw [h3] at h; cases h
   | ok q3 =>
    obtain ⟨sets, r3⟩ := q3
    rw [h3] at h
    simp only at h
    have s3 := EA _ _ _ _ s2.1 h3
    cases h4 : aA [59] r3 with
    | error e => rw [h4] at h; cases h
    | ok r4 =>
     rw [h4] at h
     cases h
     have s4 := dW s3.1 h4
     exact ⟨((s1.trans s2).trans s3).trans s4, g, r1, r2, sets, r3, by omega, rfl, s2.1, h3, rfl, h2, h4⟩
end Sy
end Go.Proofs.YtdhgpnejphlfpaaGreatDoor
namespace Go.Proofs.YtdhgpnejphlfpaaGreatDoor
namespace Pa
open Job
noncomputable def szJ : Job → Nat
 | line _ => 0
 | loop _ a => a.sz
theorem DH (k n a : Int) : (Ex.mk k n a []).sz = 1 := by simp [Ex.sz, szL]
theorem N0 (k n a : Int) (x : Ex) : (Ex.mk k n a [x]).sz = x.sz + 1 := by simp [Ex.sz, szL]
theorem I3 (k n a : Int) (x y : Ex) : (Ex.mk k n a [x, y]).sz = x.sz + y.sz + 1 := by simp [Ex.sz, szL]
theorem P.size {names : List Str} {j : Job} {d : Int} {ts : List Tok} {r : Out} (h : P names j d ts r) : ∀ p, r = .ok p → p.1.sz + p.2.length ≤ ts.length + szJ j := by
 induction h with
 | big => intro p h; cases h
 | @pre s d t ts k r h0 h1 h2 h3 ih =>
  intro p h
  cases r with
  | error e => cases h
  | ok q => have := ih q rfl; cases h; simp only [szJ, N0, List.length_cons] at *; omega
 | other h0 h1 h2 h3 ih => intro p h; exact ih p h
 | rErr => intro p h; cases h
 | rOne h0 h1 h2 h3 ih => intro p h; exact ih p h
 | @rTwo s d ts a t ts' k r h0 h1 h2 h3 h4 ih ih2 =>
  intro p h
  cases r with
  | error e => cases h
  | ok q => have i1 := ih _ rfl; have i2 := ih2 q rfl; cases h; simp only [szJ, I3, List.length_cons] at *; omega
 | lErr => intro p h; cases h
 | lGo h0 h1 h2 ih ih2 => intro p h; have i1 := ih _ rfl; have i2 := ih2 p h; simp only [szJ] at *; omega
 | lpEnd h0 => intro p h; cases h; simp only [szJ]; omega
 | lpErr => intro p h; cases h
 | lpGo h0 h1 h2 ih ih2 => intro p h; have i1 := ih _ rfl; have i2 := ih2 p h; simp only [szJ, I3, List.length_cons] at *; omega
 | oWord h0 h1 => intro p h; cases h; simp only [szJ, DH, List.length_cons]; omega
 | oNum h0 h1 h2 => intro p h; cases h; simp only [szJ, DH, List.length_cons]; omega
 | oVar h0 h1 h2 h3 h4 => intro p h; cases h; simp only [szJ, DH, List.length_cons]; omega
 | oName => intro p h; cases h
 | oOpen h0 h1 h2 h3 h4 h5 h6 ih => intro p h; cases h; have := ih _ rfl; simp only [szJ, List.length_cons] at *; omega
 | oErr => intro p h; cases h
 | oClose => intro p h; cases h
 | oForm => intro p h; cases h
theorem P.suf {names : List Str} {j : Job} {d : Int} {ts : List Tok} {r : Out} (h : P names j d ts r) : ∀ p, r = .ok p → p.2 <:+ ts := by
 induction h with
 | big => intro p h; cases h
 | @pre s d t ts k r h0 h1 h2 h3 ih =>
  intro p h
  cases r with
  | error e => cases h
  | ok q => have := ih q rfl; cases h; exact this.trans (List.suffix_cons _ _)
 | other h0 h1 h2 h3 ih => exact ih
 | rErr => intro p h; cases h
 | rOne h0 h1 h2 h3 ih => exact ih
 | @rTwo s d ts a t ts' k r h0 h1 h2 h3 h4 ih ih2 =>
  intro p h
  cases r with
  | error e => cases h
  | ok q => have i1 := ih _ rfl; have i2 := ih2 q rfl; cases h; exact (i2.trans (List.suffix_cons _ _)).trans i1
 | lErr => intro p h; cases h
 | lGo h0 h1 h2 ih ih2 => intro p h; exact (ih2 p h).trans (ih _ rfl)
 | lpEnd h0 => intro p h; cases h; exact List.suffix_refl _
 | lpErr => intro p h; cases h
 | lpGo h0 h1 h2 ih ih2 => intro p h; exact ((ih2 p h).trans (ih _ rfl)).trans (List.suffix_cons _ _)
 | oWord h0 h1 => intro p h; cases h; exact List.suffix_cons _ _
 | oNum h0 h1 h2 => intro p h; cases h; exact List.suffix_cons _ _
 | oVar h0 h1 h2 h3 h4 => intro p h; cases h; exact List.suffix_cons _ _
 | oName => intro p h; cases h
 | oOpen h0 h1 h2 h3 h4 h5 h6 ih => intro p h; cases h; exact ((List.suffix_cons _ _).trans (ih _ rfl)).trans (List.suffix_cons _ _)
 | oErr => intro p h; cases h
 | oClose => intro p h; cases h
 | oForm => intro p h; cases h
noncomputable def rz (t : Tok) : Prop := t.1 = 2 → 0 ≤ t.2.2.1 ∧ t.2.2.1 ≤ 1073741824
theorem mz {s : Nat} {t : Tok} {k : Int} (h : bA s t = some k) : k ∈ ops s := by
 unfold bA fnd at h
 cases hs : sgn t
 ·rw [hs] at h; cases h
 ·rw [hs] at h; exact List.mem_of_find?_eq_some h
theorem Mg {s : Nat} (hk : kd s = 0) {k : Int} (h : k ∈ ops s) (vars : Int) : ph k 0 1 (mm k) vars = true := by
 have : s = 6 ∨ s = 10 := by
  unfold kd at hk
  split at hk <;> first | (cases hk; done) | simp
 rcases this with rfl | rfl
 ·simp only [ops, List.mem_cons, List.not_mem_nil, or_false] at h
  rcases h with rfl | rfl | rfl | rfl <;> rfl
 ·simp only [ops, List.mem_cons, List.not_mem_nil, or_false] at h
  subst h; rfl
theorem FH {s : Nat} (hk : kd s = 1 ∨ kd s = 2) {k : Int} (h : k ∈ ops s) (vars : Int) : ph k 0 2 (mm k) vars = true := by
 have : s = 1 ∨ s = 2 ∨ s = 3 ∨ s = 4 ∨ s = 5 ∨ s = 7 ∨ s = 8 ∨ s = 9 := by
  unfold kd at hk
  split at hk <;> first | (rcases hk with hk | hk <;> cases hk; done) | simp
 rcases this with rfl | rfl | rfl | rfl | rfl | rfl | rfl | rfl <;> simp only [ops, List.mem_cons, List.not_mem_nil, or_false] at h
 ·subst h; rfl
 ·subst h; rfl
 ·subst h; rfl
 ·subst h; rfl
 ·rcases h with rfl | rfl <;> rfl
 ·rcases h with rfl | rfl | rfl | rfl | rfl | rfl <;> rfl
 ·rcases h with rfl | rfl <;> rfl
 ·subst h; rfl
theorem Lh {s : Nat} (hk : kd s = 3) {k : Int} (h : k ∈ ops s) (vars : Int) : ph k 0 0 (mm k) vars = true := by
 have : s = 11 := by
  unfold kd at hk
  split at hk <;> first | (cases hk; done) | simp
 subst this
 simp only [ops, List.mem_cons, List.not_mem_nil, or_false] at h
 rcases h with rfl | rfl <;> rfl
theorem Bf {vars k n a : Int} (h : ph k n 0 (mm k) vars = true) : jc vars (.mk k n a []) = true := by
 simp only [jc, sM, List.length_nil]; rw [show ((0 : Nat) : Int) = 0 from rfl, h]; rfl
theorem Mm {vars k a : Int} {x : Ex} (h : ph k 0 1 (mm k) vars = true) (hx : jc vars x = true) : jc vars (.mk k 0 a [x]) = true := by
 simp only [jc, sM, List.length_cons, List.length_nil]; rw [show ((0 + 1 : Nat) : Int) = 1 from rfl, h, hx]; rfl
theorem Fk {vars k a : Int} {x y : Ex} (h : ph k 0 2 (mm k) vars = true) (hx : jc vars x = true) (hy : jc vars y = true) : jc vars (.mk k 0 a [x, y]) = true := by
 simp only [jc, sM, List.length_cons, List.length_nil]; rw [show ((0 + 1 + 1 : Nat) : Int) = 2 from rfl, h, hx, hy]; rfl
noncomputable def OZ (vars : Int) : Job → Bool
 | line _ => true
 | loop _ a => jc vars a
noncomputable def okJ : Job → Prop
 | line _ => True
 | loop s _ => kd s = 2
theorem Ln {names : List Str} {v : Str} {i : Nat} (h : at_ names v = some i) : i < names.length := by
 unfold at_ at h
 have := List.findIdx?_eq_some_iff_getElem.1 h
 exact this.1
theorem P.may {names : List Str} {j : Job} {d : Int} {ts : List Tok} {r : Out} (h : P names j d ts r) : okJ j → (∀ t ∈ ts, rz t) → OZ names.length j = true → ∀ p, r = .ok p → jc names.length p.1 = true := by
 induction h with
 | big => intro _ _ _ p h; cases h
 | @pre s d t ts k r h0 h1 h2 h3 ih =>
  intro _ hq _ p h
  cases r with
  | error e => cases h
  | ok q => have := ih trivial (fun t ht => hq t (List.mem_cons_of_mem _ ht)) rfl q rfl; cases h; exact Mm (Mg h0 (mz h2) _) this
 | other h0 h1 h2 h3 ih => intro _ hq hj p h; exact ih trivial hq rfl p h
 | rErr => intro _ _ _ p h; cases h
 | rOne h0 h1 h2 h3 ih => intro _ hq hj p h; exact ih trivial hq rfl _ h
 | @rTwo s d ts a t ts' k r h0 h1 h2 h3 h4 ih ih2 =>
  intro _ hq _ p h
  cases r with
  | error e => cases h
  | ok q =>
   have i1 := ih trivial hq rfl _ rfl
   have hs := h2.suf _ rfl
   have i2 := ih2 trivial (fun t ht => hq t (hs.mem (List.mem_cons_of_mem _ ht))) rfl q rfl
   cases h
   exact Fk (FH (.inl h0) (mz h3) _) i1 i2
 | lErr => intro _ _ _ p h; cases h
 | lGo h0 h1 h2 ih ih2 =>
  intro _ hq _ p h
  have i1 := ih trivial hq rfl _ rfl
  have hs := h1.suf _ rfl
  exact ih2 h0 (fun t ht => hq t (hs.mem ht)) i1 p h
 | lpEnd h0 => intro _ hq hj p h; cases h; exact hj
 | lpErr => intro _ _ _ p h; cases h
 | @lpGo s a d t ts k b ts' r h0 h1 h2 ih ih2 =>
  intro ho hq hj p h
  have i1 := ih trivial (fun t ht => hq t (List.mem_cons_of_mem _ ht)) rfl _ rfl
  have hs := h1.suf _ rfl
  exact ih2 ho (fun t ht => hq t (List.mem_cons_of_mem _ (hs.mem ht))) (Fk (a := t.2.2.2) (FH (.inr ho) (mz h0) _) hj i1) p h
 | oWord h0 h1 => intro _ hq _ p h; cases h; exact Bf (Lh h0 (mz h1) _)
 | @oNum s d t ts h0 h1 h2 =>
  intro _ hq _ p h
  cases h
  obtain ⟨n0, n1⟩ := hq t (List.mem_cons_self ..) (beq_iff_eq.1 h2)
  refine Bf ?_
  simp only [ph, mm]
  have e1 : decide (t.2.2.1 < 0) = false := decide_eq_false (by omega)
  have e2 : decide (1073741824 < t.2.2.1) = false := decide_eq_false (by omega)
  rw [e1, e2]; rfl
 | @oVar s d t ts i h0 h1 h2 h3 h4 =>
  intro _ hq _ p h
  cases h
  have hlt := Ln h4
  refine Bf ?_
  simp only [ph, mm]
  have e1 : decide ((i : Int) < 0) = false := decide_eq_false (by omega)
  have e2 : decide ((names.length : Int) ≤ (i : Int)) = false := decide_eq_false (by omega)
  rw [e1, e2]; rfl
 | oName => intro _ _ _ p h; cases h
 | @oOpen s d t ts a c ts' h0 h1 h2 h3 h4 h5 h6 ih => intro _ hq _ p h; cases h; exact ih trivial (fun t ht => hq t (List.mem_cons_of_mem _ ht)) rfl (a, c :: ts') rfl
 | oErr => intro _ _ _ p h; cases h
 | oClose => intro _ _ _ p h; cases h
 | oForm => intro _ _ _ p h; cases h
end Pa
end Go.Proofs.YtdhgpnejphlfpaaGreatDoor
namespace Go.Proofs.YtdhgpnejphlfpaaGreatDoor
namespace Pa
noncomputable def isLet (c : UInt8) : Bool := (decide (97 ≤ c) && decide (c ≤ 122)) || (decide (65 ≤ c) && decide (c ≤ 90)) || c == 95
noncomputable def eQ (t : Tok) : Prop := (t.1 = 1 ∧ ∃ c s, t.2.1 = c :: s ∧ isLet c = true) ∨ t.1 = 2 ∨ (t.1 = 3 ∧ ∀ c s, t.2.1 = c :: s → isLet c = false) ∨ t.1 = 4
theorem dm {l : List Tok} {a : Nat} {t : Tok} {ts : List Tok} (h : l.drop a = t :: ts) : idx l (a : Int) = some t ∧ l.drop (a + 1) = ts ∧ a < l.length ∧ t ∈ l := by
 have hlt : a < l.length := by
  rcases Nat.lt_or_ge a l.length with h1 | h1
  ·exact h1
  ·rw [List.drop_of_length_le h1] at h; cases h
 rw [List.drop_eq_getElem_cons hlt] at h
 simp only [List.cons.injEq] at h
 refine ⟨by simp [idx, List.getElem?_eq_getElem hlt, h.1], h.2, hlt, by rw [← h.1]; exact List.getElem_mem ..⟩
theorem cI {a : Nat} (h : a < 4611686018427387904) : IntKind.i64.wrap ((a : Int) + 1) = ((a + 1 : Nat) : Int) := by rw [w64 (by omega)]; omega
end Pa
namespace Sy
open Pa
theorem yp {α : Type} {l pre r : List α} {x : α} (h : l = pre ++ x :: r) : decide ((pre.length : Int) < (List.length l : Int)) = true := by subst h; simp; omega
theorem CM {α : Type} {l pre : List α} (h : l = pre ++ []) : decide ((pre.length : Int) < (List.length l : Int)) = false := by subst h; simp
theorem mid {α : Type} {l pre r : List α} {x : α} (h : l = pre ++ x :: r) : idx l (pre.length : Int) = some x := by subst h; simp [idx]
theorem jj {k b : Nat} (h : k * b ≤ 140737488355328) (h2 : k ≤ 9223372036854775807) : bu k b = true := by
 simp only [bu, Bool.and_eq_true]; exact ⟨Nat.ble_eq_true_of_le h, Nat.ble_eq_true_of_le h2⟩
theorem lD {ρ : Type} {c : Bool} (h : c = true) (k : Option ρ) : chk c k = k := by subst h; rfl
end Sy
end Go.Proofs.YtdhgpnejphlfpaaGreatDoor
namespace Go.Proofs.YtdhgpnejphlfpaaGreatDoor
namespace Sy
open Pa
theorem Hg (s : Str) (h : s.all Lx.isDigit = true) : 0 ≤ Lx.bf 0 s := Lx.ml s 0 (Int.le_refl _) h
theorem IT {c : UInt8} {s : Str} {k : Int} {t : Str} {n : Int} (h : Lx.step (c :: s) = .tok k t n) (pl : Int) : eQ (k, t, n, pl) ∧ rz (k, t, n, pl) ∧ k ≠ 4 := by
 obtain ⟨hb, hc, _, _⟩ := Lx.wE h
 simp only [Lx.step, hb, hc, Bool.false_eq_true, if_false] at h
 cases hlet : Lx.cN c
 ·simp only [hlet, Bool.false_eq_true, if_false] at h
  cases hdig : Lx.isDigit c
  ·simp only [hdig, Bool.false_eq_true, if_false] at h
   cases hsg : (Lx.cJ (c :: s) == [])
   ·simp only [hsg, Bool.false_eq_true, if_false, Lx.Step.tok.injEq] at h
    obtain ⟨rfl, rfl, rfl⟩ := h
    obtain ⟨h1, h2, _⟩ := Lx.qS hsg
    obtain ⟨_, c', s', hg, _, _, hl, _⟩ := Lx.zQ _ h1
    refine ⟨.inr (.inr (.inl ⟨rfl, fun c2 s2 h3 => ?_⟩)), (fun h => by cases h), by decide⟩
    simp only at h3
    rw [hg] at h3
    cases h3
    exact hl
   ·simp [hsg] at h
  ·simp only [hdig, if_true] at h
   split at h
   ·cases h
   ·rename_i hbig
    simp only [Lx.Step.tok.injEq] at h
    obtain ⟨rfl, rfl, rfl⟩ := h
    refine ⟨.inr (.inl rfl), fun _ => ⟨Hg _ (Lx.jh _ _), ?_⟩, by decide⟩
    simp only [Lx.big, decide_eq_true_eq] at hbig
    simp only; omega
 ·simp only [hlet, if_true] at h
  split at h
  ·cases h
  ·simp only [Lx.Step.tok.injEq] at h
   obtain ⟨rfl, rfl, rfl⟩ := h
   refine ⟨.inl ⟨rfl, c, s.takeWhile Lx.ca, ?_, hlet⟩, (fun h => by cases h), by decide⟩
   simp only [List.takeWhile_cons, Lx.nw hlet, if_true]
structure Good (n : Nat) (l : List Tok) : Prop where
 ok : ∀ t ∈ l, eQ t
 num : ∀ t ∈ l, rz t
 ends : Pa.Ends l
 len : l.length ≤ n
theorem I7 {t : Tok} {l : List Tok} (h : Pa.Ends l) : Pa.Ends (t :: l) := .inl h
theorem IZ : ∀ (f a : Nat) (s : Str) (l : List Tok), s.length < f → Lx.fC f a s = .ok l → Good (s.length + 1) l := by
 intro f
 induction f with
 | zero => intro a s l h; omega
 | succ f ih =>
  intro a s l hf h
  cases s with
  | nil =>
   simp only [Lx.fC] at h; cases h
   exact ⟨(fun t ht => by rw [List.mem_singleton.1 ht]; exact .inr (.inr (.inr rfl))), (fun t ht => by rw [List.mem_singleton.1 ht]; intro h; cases h), .inr ⟨rfl, rfl⟩, by simp⟩
  | cons c s =>
   simp only [Lx.fC] at h
   cases hs : Lx.step (c :: s) with
   | skip k =>
    rw [hs] at h
    obtain ⟨h1, h2⟩ := Lx.step_skip hs
    have := ih _ _ _ (by simp only [List.length_drop, List.length_cons] at *; omega) h
    exact ⟨this.ok, this.num, this.ends, by have := this.len; simp only [List.length_drop, List.length_cons] at *; omega⟩
   | err e => rw [hs] at h; cases h
   | tok k tx n =>
    rw [hs] at h
    simp only at h
    obtain ⟨_, _, h1, h2⟩ := Lx.wE hs
    have h3 := h2.length_le
    obtain ⟨g1, g2, _⟩ := IT hs (a : Int)
    cases hr : Lx.fC f (a + tx.length) ((c :: s).drop tx.length) with
    | error e => rw [hr] at h; cases h
    | ok l' =>
     rw [hr] at h
     cases h
     have := ih _ _ _ (by simp only [List.length_drop, List.length_cons] at *; omega) hr
     refine ⟨fun t ht => ?_, fun t ht => ?_, I7 this.ends, by have := this.len; simp only [List.length_drop, List.length_cons] at *; omega⟩
     ·rcases List.mem_cons.1 ht with rfl | ht
      ·exact g1
      ·exact this.ok t ht
     ·rcases List.mem_cons.1 ht with rfl | ht
      ·exact g2
      ·exact this.num t ht
theorem vz {s : Str} {l : List Tok} (h : Lx.lex s = .ok l) : Good (s.length + 1) l := IZ _ _ _ _ (Nat.lt_succ_self _) h
theorem DU : ∀ (f a : Nat) (s : Str) (e : Int × Int), Lx.fC f a s = .error e → e.1 ≠ 0 := by
 intro f
 induction f with
 | zero => intro a s e h; simp [Lx.fC] at h
 | succ f ih =>
  intro a s e h
  cases s with
  | nil => simp [Lx.fC] at h
  | cons c s =>
   simp only [Lx.fC] at h
   cases hs : Lx.step (c :: s) with
   | skip k => rw [hs] at h; exact ih _ _ _ h
   | err e' => rw [hs] at h; cases h; exact Lx.xP hs
   | tok k tx n =>
    rw [hs] at h
    simp only at h
    cases hr : Lx.fC f (a + tx.length) ((c :: s).drop tx.length) with
    | error e' => rw [hr] at h; cases h; exact ih _ _ _ hr
    | ok l' => rw [hr] at h; cases h
noncomputable def qJ (text : Str) : Except Err Mdl := if 65536 < text.length then .error (9, 0) else match Lx.lex text with
 | .ok l => sys l
 | .error e => .error e
/-! what systems of texts are -/
structure CH (n : Nat) (s : Int × Ex) : Prop where
 var : 0 ≤ s.1 ∧ s.1 < n
 may : jc (n : Int) s.2 = true
 typ : (rt s.2).2.1 = 0 ∧ (rt s.2).1 = 1
 sz : s.2.sz ≤ 65537
structure CF (n : Nat) (c : Cmd) : Prop where
 may : jc (n : Int) c.2.1 = true
 typ : (rt c.2.1).2.1 = 0 ∧ (rt c.2.1).1 = 2
 sz : c.2.1.sz ≤ 65537
 sets : ∀ s ∈ c.2.2, CH n s
 one : 1 ≤ c.2.2.length
 len : c.2.2.length ≤ 65537
 once : c.2.2.Pairwise (fun a b => a.1 ≠ b.1)
structure F9 (f : Int × Int) : Prop where
 le : f.1 ≤ f.2
 lo : -1073741824 ≤ f.1
 hi : f.2 ≤ 1073741824
 wide : f.2 - f.1 ≤ 65535
structure Part (m : Mdl) : Prop where
 names : m.1.length ≤ 16
 schema : m.2.1.length = m.1.length
 init : m.2.2.1.length = m.1.length
 fields : ∀ f ∈ m.2.1, F9 f
 first : ∀ (i : Nat) (f : Int × Int) (v : Int), m.2.1[i]? = some f → m.2.2.1[i]? = some v → f.1 ≤ v ∧ v ≤ f.2
 cmds : m.2.2.2.2.length ≤ 256
 cmd : ∀ c ∈ m.2.2.2.2, CF m.1.length c
structure Wf (m : Mdl) : Prop extends Part m where
 some_ : 1 ≤ m.1.length
theorem LL {op n len want v w : Int} (h : ph op n len want v = true) (hv : v ≤ w) : ph op n len want w = true := by
 simp only [ph, Bool.and_eq_true, Bool.not_eq_true', Bool.or_eq_false_iff, decide_eq_false_iff_not, bne_eq_false_iff_eq, Bool.and_eq_false_imp, beq_iff_eq] at h ⊢
 obtain ⟨⟨⟨h1, h2⟩, h3⟩, ⟨h4, h5⟩, h6⟩ := h
 exact ⟨⟨⟨h1, h2⟩, h3⟩, ⟨h4, fun h => by have := h5 h; omega⟩, h6⟩
theorem Fl {v w : Int} (hv : v ≤ w) : ∀ (N : Nat) (e : Ex), e.sz ≤ N → jc v e = true → jc w e = true := by
 intro N
 induction N with
 | zero => intro e h; have := qg e; omega
 | succ N ih =>
  intro e h hm
  have h0 := (H6 hm).2.2.2.2
  rw [FL] at hm ⊢
  simp only [Bool.and_eq_true] at hm ⊢
  refine ⟨LL hm.1 hv, ?_⟩
  have : ∀ l : List Ex, (∀ x ∈ l, x ∈ e.l) → sM w l = true := fun l => by
   induction l with
   | nil => intro _; simp only [sM]
   | cons x r ih2 =>
    intro hx
    simp only [sM, Bool.and_eq_true]
    exact ⟨ih x (by have := nb (hx x (by simp)); omega) (h0 x (hx x (by simp))), ih2 (fun y hy => hx y (List.mem_cons_of_mem _ hy))⟩
  exact this e.l (fun x h => h)
theorem CF.le {n k : Nat} {c : Cmd} (h : CF n c) (hk : n ≤ k) : CF k c :=
 ⟨Fl (by omega) _ _ (Nat.le_refl _) h.may, h.typ, h.sz, fun s hs => ⟨⟨(h.sets s hs).var.1, by have := (h.sets s hs).var.2; omega⟩, Fl (by omega) _ _ (Nat.le_refl _) (h.sets s hs).may, (h.sets s hs).typ, (h.sets s hs).sz⟩, h.one, h.len, h.once⟩
theorem IQ {lo hi : Int} (h : cQ lo hi = true) : F9 (lo, hi) := by
 simp only [cQ, Bool.and_eq_true, Bool.not_eq_true', decide_eq_false_iff_not] at h
 obtain ⟨⟨⟨h1, h2⟩, h3⟩, h4⟩ := h
 rw [w64 (by omega)] at h4
 exact ⟨by simp only; omega, by simp only; omega, by simp only; omega, by simp only; omega⟩
noncomputable def ir (ts : List Tok) : Prop := (∀ t ∈ ts, rz t) ∧ Pa.Ends ts ∧ ts.length ≤ 65537
theorem ir.of {ts ts' : List Tok} (h : ir ts) (hs : cC ts ts') (hf : ts' <:+ ts) : ir ts' := ⟨fun t ht => h.1 t (hf.mem ht), hs.1, by have := hs.2; have := h.2.2; omega⟩
theorem nU {x : Str} {ts r : List Tok} (h : aA x ts = .ok r) : r <:+ ts := by
 cases ts with
 | nil => simp [aA] at h
 | cons t ts' =>
  simp only [aA] at h
  cases hc : isT 3 x t
  ·rw [hc] at h; cases h
  ·rw [hc] at h; cases h; exact List.suffix_cons _ _
theorem Ck {full : Bool} {names procs : List Str} {ts : List Tok} {p : Str × List Tok} (h : cW full names procs ts = .ok p) : p.2 <:+ ts := by
 cases ts with
 | nil => simp [cW] at h
 | cons t ts' =>
  simp only [cW] at h
  cases h1 : (t.1 != 1)
  ·rw [h1] at h
   simp only [cond_false] at h
   cases h2 : (key t.2.1 || names.contains t.2.1 || procs.contains t.2.1)
   ·rw [h2] at h
    simp only [cond_false] at h
    cases full
    ·cases h; exact List.suffix_cons _ _
    ·cases h
   ·rw [h2] at h; cases h
  ·rw [h1] at h; cases h
theorem Ci {neg : Bool} {ts : List Tok} {p : Int × List Tok} (h : lB neg ts = .ok p) : p.2 <:+ ts := by
 cases ts with
 | nil => simp [lB] at h
 | cons t ts' =>
  simp only [lB] at h
  cases h1 : (t.1 != 2)
  ·rw [h1] at h; cases h; exact List.suffix_cons _ _
  ·rw [h1] at h; cases h
theorem zq {ts : List Tok} {p : Int × List Tok} (h : dw ts = .ok p) : p.2 <:+ ts := by
 unfold dw at h
 cases hc : isH 3 [45] ts
 ·rw [hc] at h; exact Ci h
 ·rw [hc] at h; exact (Ci h).trans (List.tail_suffix _)
theorem xB {want : Int} {names : List Str} {ts : List Tok} {p : Ex × List Tok} (he : Pa.Ends ts) (h : ct want names ts = .ok p) : p.2 <:+ ts := (jz he h).2.1.suf _ rfl
theorem Iq {names : List Str} : ∀ (f : Nat) (acc : List (Int × Ex)) (ts : List Tok) (p : List (Int × Ex) × List Tok), Pa.Ends ts → cZ names f acc ts = .ok p → p.2 <:+ ts := by
 intro f
 induction f with
 | zero => intro _ _ _ _ h; simp [cZ] at h
 | succ f ih =>
  intro acc ts p he h
  obtain ⟨t, r, rfl⟩ := he.ne
  simp only [cZ] at h
  cases h1 : (t.1 != 1)
  case true => rw [h1] at h; cases h
  rw [h1] at h
  simp only [cond_false] at h
  cases h2 : (decide (bD names t.2.1 < 0) || jq acc (bD names t.2.1))
  case true => rw [h2] at h; cases h
  rw [h2] at h
  simp only [cond_false] at h
  have ht : t.1 = 1 := by simpa using h1
  have he1 := he.tail (by omega)
  cases h3 : aA [61] r with
  | error e => rw [h3] at h; cases h
  | ok r1 =>
   rw [h3] at h
   simp only at h
   have s1 := dW he1 h3
   cases h4 : ct 1 names r1 with
   | error e => rw [h4] at h; cases h
   | ok q =>
    obtain ⟨x, r2⟩ := q
    rw [h4] at h
    simp only at h
    have s2 : cC r1 r2 := (jz s1.1 h4).1
    have f12 : r2 <:+ t :: r := ((xB s1.1 h4).trans (nU h3)).trans (List.suffix_cons _ _)
    cases h5 : isH 3 [44] r2
    ·rw [h5] at h; cases h; exact f12
    ·rw [h5] at h
     simp only [cond_true] at h
     exact ((ih _ _ _ (iF s2.1 (by decide) h5).1 h).trans (List.tail_suffix _)).trans f12
theorem BZ {want : Int} {names : List Str} {ts : List Tok} {x : Ex} {r : List Tok} (hT : ir ts) (h : ct want names ts = .ok (x, r)) :
  jc (names.length : Int) x = true ∧ ((rt x).2.1 = 0 ∧ (rt x).1 = want) ∧ x.sz ≤ 65537 := by
 obtain ⟨sh, hp, h1, h2⟩ := jz hT.2.1 h
 have hsz := hp.size _ rfl
 simp only [szJ, Nat.add_zero] at hsz
 exact ⟨hp.may trivial hT.1 rfl _ rfl, ⟨h1, h2⟩, by have := hT.2.2; omega⟩
theorem M8 {names : List Str} {v : Str} (h : ¬ bD names v < 0) : 0 ≤ bD names v ∧ bD names v < names.length := by
 unfold bD at h ⊢
 cases ha : at_ names v with
 | none => rw [ha] at h; simp at h
 | some i => have := Ln ha; simp only; omega
theorem G5 {names : List Str} : ∀ (f : Nat) (acc : List (Int × Ex)) (ts : List Tok) (p : List (Int × Ex) × List Tok), ir ts → cZ names f acc ts = .ok p →
  (∀ s ∈ acc, CH names.length s) → acc.Pairwise (fun a b => a.1 ≠ b.1) → acc.length + ts.length ≤ 65537 → (∀ s ∈ p.1, CH names.length s) ∧ p.1.Pairwise (fun a b => a.1 ≠ b.1) ∧ p.1.length ≤ 65537 ∧ 1 ≤ p.1.length := by
 intro f
 induction f with
 | zero => intro _ _ _ _ h; simp [cZ] at h
 | succ f ih =>
  intro acc ts p hT h hacc hpw hlen
  obtain ⟨t, r, rfl⟩ := hT.2.1.ne
  have he := hT.2.1
  simp only [cZ] at h
  cases h1 : (t.1 != 1)
  case true => rw [h1] at h; cases h
  rw [h1] at h
  simp only [cond_false] at h
  cases h2 : (decide (bD names t.2.1 < 0) || jq acc (bD names t.2.1))
  case true => rw [h2] at h; cases h
  rw [h2] at h
  simp only [cond_false] at h
  have ht : t.1 = 1 := by simpa using h1
  have he1 := he.tail (by omega)
  simp only [Bool.or_eq_false_iff, decide_eq_false_iff_not] at h2
  cases h3 : aA [61] r with
  | error e => rw [h3] at h; cases h
  | ok r1 =>
   rw [h3] at h
   simp only at h
   have s1 := dW he1 h3
   have s1l := s1.2
   have hTr : ir r := ⟨fun t' h' => hT.1 t' (List.mem_cons_of_mem _ h'), he1, by have := hT.2.2; simp only [List.length_cons] at this; omega⟩
   have hT1 : ir r1 := hTr.of s1 (nU h3)
   cases h4 : ct 1 names r1 with
   | error e => rw [h4] at h; cases h
   | ok q =>
    obtain ⟨x, r2⟩ := q
    rw [h4] at h
    simp only at h
    have s2 : cC r1 r2 := (jz s1.1 h4).1
    have s2l := s2.2
    have hT2 : ir r2 := hT1.of s2 (xB s1.1 h4)
    obtain ⟨g1, g2, g3⟩ := BZ hT1 h4
    have hi := M8 h2.1
    have hnew : ∀ s ∈ acc ++ [(bD names t.2.1, x)], CH names.length s := fun s hs => by
     rcases List.mem_append.1 hs with hs | hs
     ·exact hacc s hs
     ·rw [List.mem_singleton.1 hs]; exact ⟨hi, g1, g2, g3⟩
    have hpw' : (acc ++ [(bD names t.2.1, x)]).Pairwise (fun a b => a.1 ≠ b.1) := by
     rw [List.pairwise_append]
     refine ⟨hpw, List.pairwise_singleton _ _, fun a ha b hb => ?_⟩
     rw [List.mem_singleton.1 hb]
     intro e
     have : jq acc (bD names t.2.1) = true := by
      unfold jq
      rw [List.any_eq_true]
      exact ⟨a, ha, by simpa using e⟩
     rw [this] at h2; cases h2.2
    simp only [List.length_cons] at hlen
    cases h5 : isH 3 [44] r2
    ·rw [h5] at h
     cases h
     exact ⟨hnew, hpw', by simp; omega, by simp⟩
    ·rw [h5] at h
     simp only [cond_true] at h
     obtain ⟨e1, e2⟩ := iF s2.1 (by decide) h5
     have hT3 : ir r2.tail := ⟨fun t' h' => hT2.1 t' ((List.tail_suffix _).mem h'), e1, by have := hT2.2.2; omega⟩
     exact ih _ _ _ hT3 h hnew hpw' (by simp; omega)
theorem Ih {m : Mdl} {ts : List Tok} {p : Mdl × List Tok} (hT : ir ts) (hm : Part m) (h : iu m ts = .ok p) : Part p.1 ∧ ir p.2 ∧ p.2.length < ts.length := by
 obtain ⟨sh, g, r1, r2, sets, r3, h256, h1, hE2, h3, hp, q2, q4⟩ := uP hT.2.1 h
 have s1 : cC ts r1 := (jz hT.2.1 h1).1
 have hT1 : ir r1 := hT.of s1 (xB hT.2.1 h1)
 have s2 := dW s1.1 q2
 have hT2 : ir r2 := hT1.of s2 (nU q2)
 have s3 : cC r2 r3 := EA _ _ _ _ s2.1 h3
 have hT3 : ir r3 := hT2.of s3 (Iq _ _ _ _ s2.1 h3)
 have s4 := dW s3.1 q4
 have hT4 : ir p.2 := hT3.of s4 (nU q4)
 obtain ⟨g1, g2, g3⟩ := BZ hT h1
 obtain ⟨t1, t2, t3, t4⟩ := G5 _ _ _ _ hT2 h3 (fun s hs => by cases hs) List.Pairwise.nil (by have := hT2.2.2; simpa using this)
 refine ⟨?_, hT4, by have := s1.2; have := s2.2; have := s3.2; have := s4.2; omega⟩
 rw [hp]
 refine ⟨hm.names, hm.schema, hm.init, hm.fields, hm.first, by simp; omega, fun c hc => ?_⟩
 rcases List.mem_append.1 hc with hc | hc
 ·exact hm.cmd c hc
 ·rw [List.mem_singleton.1 hc]
  exact ⟨g1, g2, g3, t1, t4, t3, t2⟩
theorem GQ : ∀ (f : Nat) (m : Mdl) (ts : List Tok) (p : Mdl × List Tok), ir ts → Part m → gw f m ts = .ok p → Part p.1 ∧ ir p.2 := by
 intro f
 induction f with
 | zero => intro _ _ _ _ _ h; simp [gw] at h
 | succ f ih =>
  intro m ts p hT hm h
  simp only [gw] at h
  cases hc : isH 3 [125] ts
  ·rw [hc] at h
   simp only [cond_false] at h
   cases h1 : iu m ts with
   | error e => rw [h1] at h; cases h
   | ok q =>
    obtain ⟨m', r⟩ := q
    rw [h1] at h
    simp only at h
    obtain ⟨g1, g2, _⟩ := Ih hT hm h1
    exact ih m' r p g2 g1 h
  ·rw [hc] at h
   cases h
   obtain ⟨h1, h2⟩ := iF hT.2.1 (by decide) hc
   exact ⟨hm, fun t ht => hT.1 t ((List.tail_suffix _).mem ht), h1, by have := hT.2.2; show ts.tail.length ≤ _; omega⟩
theorem Gl {m : Mdl} {ts : List Tok} {p : Mdl × List Tok} (hT : ir ts) (hm : Part m) (h : im m ts = .ok p) : Part p.1 ∧ ir p.2 := by
 unfold im at h
 cases h1 : cW false m.1 m.2.2.2.1 ts with
 | error e => rw [h1] at h; cases h
 | ok q1 =>
  obtain ⟨name, r1⟩ := q1
  rw [h1] at h
  simp only at h
  have s1 : cC ts r1 := (nB hT.2.1 h1).1
  have hT1 : ir r1 := hT.of s1 (Ck h1)
  cases h2 : aA [123] r1 with
  | error e => rw [h2] at h; cases h
  | ok r2 =>
   rw [h2] at h
   simp only at h
   have s2 := dW s1.1 h2
   exact GQ _ (m.1, m.2.1, m.2.2.1, m.2.2.2.1 ++ [name], m.2.2.2.2) _ _ (hT1.of s2 (nU h2)) ⟨hm.names, hm.schema, hm.init, hm.fields, hm.first, hm.cmds, hm.cmd⟩ h
theorem KB {m : Mdl} {ts : List Tok} {p : Mdl × List Tok} (h : jK m ts = .ok p) : p.2 <:+ ts := by
 unfold jK at h
 cases h1 : cW (decide (16 ≤ (m.1.length : Int))) m.1 m.2.2.2.1 ts with
 | error e => rw [h1] at h; cases h
 | ok q1 =>
  obtain ⟨name, ts1⟩ := q1
  rw [h1] at h
  simp only at h
  have s1 : ts1 <:+ ts := Ck h1
  cases h2 : dw ts1 with
  | error e => rw [h2] at h; cases h
  | ok q2 =>
   obtain ⟨lo, ts2⟩ := q2
   rw [h2] at h
   simp only at h
   have s2 : ts2 <:+ ts1 := zq h2
   cases h3 : dw ts2 with
   | error e => rw [h3] at h; cases h
   | ok q3 =>
    obtain ⟨hi, ts3⟩ := q3
    rw [h3] at h
    simp only at h
    have s3 : ts3 <:+ ts2 := zq h3
    cases h4 : dw ts3 with
    | error e => rw [h4] at h; cases h
    | ok q4 =>
     obtain ⟨first, ts4⟩ := q4
     rw [h4] at h
     simp only at h
     have s4 : ts4 <:+ ts3 := zq h4
     cases h5 : aA [59] ts4 with
     | error e => rw [h5] at h; cases h
     | ok ts5 =>
      rw [h5] at h
      simp only at h
      have s5 := nU h5
      cases h6 : (!(cQ lo hi) || decide (first < lo) || decide (hi < first))
      ·rw [h6] at h
       cases h
       exact (((s5.trans s4).trans s3).trans s2).trans s1
      ·rw [h6] at h; cases h
theorem Iv {m : Mdl} {ts : List Tok} {p : Mdl × List Tok} (hT : ir ts) (hm : Part m) (h : jK m ts = .ok p) : Part p.1 ∧ ir p.2 ∧ 1 ≤ p.1.1.length := by
 obtain ⟨sh, name, lo, hi, first, hp, hr, h1, h2, h16, _⟩ := yr hT.2.1 h
 refine ⟨?_, hT.of sh (KB h), by rw [hp]; simp⟩
 rw [hp]
 have hs := hm.schema
 have hi' := hm.init
 refine ⟨by simp; omega, by simp [hs], by simp [hi'], fun f hf => ?_, fun i f v hf hv => ?_, hm.cmds, fun c hc => (hm.cmd c hc).le (by simp)⟩
 ·rcases List.mem_append.1 hf with hf | hf
  ·exact hm.fields f hf
  ·rw [List.mem_singleton.1 hf]; exact IQ hr
 ·simp only at hf hv
  rcases Nat.lt_or_ge i m.2.1.length with hlt | hge
  ·rw [List.getElem?_append_left hlt] at hf
   rw [List.getElem?_append_left (by omega)] at hv
   exact hm.first i f v hf hv
  ·rw [List.getElem?_append_right hge] at hf
   rw [List.getElem?_append_right (by omega)] at hv
   rw [show i - m.2.2.1.length = i - m.2.1.length by omega] at hv
   cases hd : i - m.2.1.length with
   | zero =>
    rw [hd] at hf hv
    simp only [List.getElem?_cons_zero, Option.some.injEq] at hf hv
    subst hf; subst hv
    exact ⟨h1, h2⟩
   | succ k => rw [hd] at hf; simp at hf
theorem ET : ∀ (f : Nat) (m : Mdl) (ts : List Tok) (p : Mdl), ir ts → Part m → gP f m ts = .ok p → Wf p := by
 intro f
 induction f with
 | zero => intro _ _ _ _ _ h; simp [gP] at h
 | succ f ih =>
  intro m ts p hT hm h
  obtain ⟨t, r, rfl⟩ := hT.2.1.ne
  have he := hT.2.1
  simp only [gP] at h
  cases c4 : (t.1 == 4)
  ·rw [c4] at h
   simp only [cond_false] at h
   have hTr : ir r := ⟨fun t' h' => hT.1 t' (List.mem_cons_of_mem _ h'), he.tail (by simpa using c4), by have := hT.2.2; simp only [List.length_cons] at this; omega⟩
   cases cv : isT 1 [118, 97, 114] t
   ·rw [cv] at h
    simp only [cond_false] at h
    cases cp : isT 1 [112, 114, 111, 99] t
    ·rw [cp] at h; cases h
    ·rw [cp] at h
     simp only [cond_true] at h
     cases h1 : im m r with
     | error e => rw [h1] at h; cases h
     | ok q =>
      obtain ⟨m', r'⟩ := q
      rw [h1] at h
      simp only at h
      obtain ⟨g1, g2⟩ := Gl hTr hm h1
      exact ih m' r' p g2 g1 h
   ·rw [cv] at h
    simp only [cond_true] at h
    cases h1 : jK m r with
    | error e => rw [h1] at h; cases h
    | ok q =>
     obtain ⟨m', r'⟩ := q
     rw [h1] at h
     simp only at h
     obtain ⟨g1, g2, _⟩ := Iv hTr hm h1
     exact ih m' r' p g2 g1 h
  ·rw [c4] at h
   simp only [cond_true] at h
   cases hne : m.1.isEmpty
   ·rw [hne] at h
    cases h
    refine ⟨hm, ?_⟩
    cases hm1 : m.1 with
    | nil => rw [hm1] at hne; simp at hne
    | cons x r => simp
   ·rw [hne] at h; cases h
theorem IJ {text : Str} {m : Mdl} (h : qJ text = .ok m) : Wf m := by
 unfold qJ at h
 split at h
 ·cases h
 ·rename_i hl
  cases hx : Lx.lex text with
  | error e => rw [hx] at h; cases h
  | ok l =>
   rw [hx] at h
   have hg := vz hx
   exact ET _ _ _ _ ⟨hg.num, hg.ends, by have := hg.len; omega⟩ ⟨by simp, rfl, rfl, (fun f hf => by cases hf), (fun i f v hf => by simp at hf), by simp, (fun c hc => by cases hc)⟩ h
end Sy
end Go.Proofs.YtdhgpnejphlfpaaGreatDoor
namespace Go.Proofs.YtdhgpnejphlfpaaGreatDoor
namespace Lx
abbrev Tk := Int × Str × Int
noncomputable def strip (t : Tok) : Tk := (t.1, t.2.1, t.2.2.1)
end Lx
end Go.Proofs.YtdhgpnejphlfpaaGreatDoor
namespace Go.Proofs.YtdhgpnejphlfpaaGreatDoor
mutual
noncomputable def mp (k : Int) : Ex → Ex
 | .mk o n _ l => .mk o (bif o == 2 then n + k else n) 0 (mpL k l)
noncomputable def mpL (k : Int) : List Ex → List Ex
 | [] => []
 | x :: r => mp k x :: mpL k r
end
theorem qI (k o n a : Int) : mp k (.mk o n a []) = .mk o (bif o == 2 then n + k else n) 0 [] := by simp only [mp, mpL]
theorem Ht (k o n a : Int) (x : Ex) : mp k (.mk o n a [x]) = .mk o (bif o == 2 then n + k else n) 0 [mp k x] := by simp only [mp, mpL]
theorem xh (k o n a : Int) (x y : Ex) : mp k (.mk o n a [x, y]) = .mk o (bif o == 2 then n + k else n) 0 [mp k x, mp k y] := by simp only [mp, mpL]
namespace Pa
open Job
open Lx (strip)
theorem st1 {t u : Tok} (h : strip u = strip t) : u.1 = t.1 := congrArg (·.1) h
theorem st2 {t u : Tok} (h : strip u = strip t) : u.2.1 = t.2.1 := congrArg (·.2.1) h
theorem st3 {t u : Tok} (h : strip u = strip t) : u.2.2.1 = t.2.2.1 := congrArg (·.2.2) h
theorem eO {t u : Tok} (h : strip u = strip t) (s : Nat) : bA s u = bA s t := by unfold bA fnd sgn; rw [st1 h, st2 h]
theorem nG {t u : Tok} (h : strip u = strip t) : iR u = iR t := by unfold iR; rw [st1 h, st2 h]
theorem u5 {t u : Tok} (h : strip u = strip t) : open_ u = open_ t := by unfold open_; rw [st1 h, st2 h]
theorem zo {t u : Tok} (h : strip u = strip t) : close_ u = close_ t := by unfold close_; rw [st1 h, st2 h]
noncomputable def my (k : Int) : Job → Job → Prop
 | line s, line s' => s = s'
 | loop s a, loop s' a' => s = s' ∧ mp 0 a' = mp k a
 | _, _ => False
noncomputable def zL : Out → Out → Prop
 | .ok p, .ok p' => mp 0 p'.1 = mp 0 p.1 ∧ p'.2.map strip = p.2.map strip
 | .error e, .error e' => e'.1 = e.1
 | _, _ => False
theorem KI {k a a' : Int} {r r' : Out} (h : zL r r') : zL (CR k a r) (CR k a' r') := by
 cases r with
 | error e => cases r' with
  | error e' => exact h
  | ok p => exact h
 | ok p => cases r' with
  | error e' => exact h
  | ok p' => exact ⟨by rw [Ht, Ht, h.1], h.2⟩
theorem KS {k a a' : Int} {x x' : Ex} {r r' : Out} (hx : mp 0 x' = mp 0 x) (h : zL r r') : zL (D4 k a x r) (D4 k a' x' r') := by
 cases r with
 | error e => cases r' with
  | error e' => exact h
  | ok p => exact h
 | ok p => cases r' with
  | error e' => exact h
  | ok p' => exact ⟨by rw [xh, xh, h.1, hx], h.2⟩
theorem rJ {p : Ex × List Tok} {r' : Out} (h : zL (.ok p) r') : ∃ p', r' = .ok p' ∧ mp 0 p'.1 = mp 0 p.1 ∧ p'.2.map strip = p.2.map strip := by
 cases r' with
 | error e => exact h.elim
 | ok p' => exact ⟨p', rfl, h⟩
theorem vL {e : Int × Int} {r' : Out} (h : zL (.error e) r') : ∃ e', r' = .error e' ∧ e'.1 = e.1 := by
 cases r' with
 | error e' => exact ⟨e', rfl, h⟩
 | ok p' => exact h.elim
theorem map_cons {α β : Type} {f : α → β} {x : α} {l m : List α} (h : m.map f = (x :: l).map f) : ∃ y r, m = y :: r ∧ f y = f x ∧ r.map f = l.map f := by
 cases m with
 | nil => simp at h
 | cons y r => simp only [List.map_cons, List.cons.injEq] at h; exact ⟨y, r, rfl, h.1, h.2⟩
theorem yE {α β : Type} {f : α → β} {a b m : List α} (h : m.map f = (a ++ b).map f) : ∃ a' b', m = a' ++ b' ∧ a'.map f = a.map f ∧ b'.map f = b.map f := by
 rw [List.map_append] at h
 obtain ⟨a', b', h1, h2, h3⟩ := List.map_eq_append_iff.1 h
 exact ⟨a', b', h1, h2, h3⟩
theorem bE {k : Int} {s : Nat} {j : Job} (h : my k (line s) j) : j = line s := by
 cases j with
 | line s' => rw [show s = s' from h]
 | loop s' a => exact h.elim
theorem p6 {k : Int} {s : Nat} {a : Ex} {j : Job} (h : my k (loop s a) j) : ∃ a', j = loop s a' ∧ mp 0 a' = mp k a := by
 cases j with
 | line s' => exact h.elim
 | loop s' a' => obtain ⟨rfl, h⟩ := h; exact ⟨a', rfl, h⟩
theorem P.blank {names : List Str} {j : Job} {d : Int} {ts : List Tok} {r : Out} (h : P names j d ts r) : ∀ j' ts', my 0 j j' → ts'.map strip = ts.map strip → ∃ r', P names j' d ts' r' ∧ zL r r' := by
 induction h with
 | @big s d t ts h0 =>
  intro j' ts' hj ht
  obtain ⟨u, us, rfl, hu, hus⟩ := map_cons ht
  rw [bE hj]
  exact ⟨_, .big h0, rfl⟩
 | @pre s d t ts k r h0 h1 h2 h3 ih =>
  intro j' ts' hj ht
  obtain ⟨u, us, rfl, hu, hus⟩ := map_cons ht
  rw [bE hj]
  obtain ⟨r', p1, p2⟩ := ih _ us (show my 0 (line s) (line s) from rfl) hus
  exact ⟨_, .pre h0 h1 ((eO hu s).trans h2) p1, KI p2⟩
 | @other s d t ts r h0 h1 h2 h3 ih =>
  intro j' ts' hj ht
  obtain ⟨u, us, rfl, hu, hus⟩ := map_cons ht
  rw [bE hj]
  obtain ⟨r', p1, p2⟩ := ih _ _ (show my 0 (line (s + 1)) (line (s + 1)) from rfl) ht
  exact ⟨_, .other h0 h1 ((eO hu s).trans h2) p1, p2⟩
 | @rErr s d ts e h0 h1 h2 ih =>
  intro j' ts' hj ht
  rw [bE hj]
  obtain ⟨r', p1, p2⟩ := ih _ _ (show my 0 (line (s + 1)) (line (s + 1)) from rfl) ht
  obtain ⟨e', rfl, he⟩ := vL p2
  exact ⟨_, .rErr h0 h1 p1, he⟩
 | @rOne s d ts a t ts1 h0 h1 h2 h3 ih =>
  intro j' ts' hj ht
  rw [bE hj]
  obtain ⟨r', p1, p2⟩ := ih _ _ (show my 0 (line (s + 1)) (line (s + 1)) from rfl) ht
  obtain ⟨⟨a', us⟩, rfl, ha, hus⟩ := rJ p2
  obtain ⟨u, us', rfl, hu, hus'⟩ := map_cons hus
  exact ⟨_, .rOne h0 h1 p1 ((eO hu s).trans h3), ha, hus⟩
 | @rTwo s d ts a t ts1 k r h0 h1 h2 h3 h4 ih ih2 =>
  intro j' ts' hj ht
  rw [bE hj]
  obtain ⟨r', p1, p2⟩ := ih _ _ (show my 0 (line (s + 1)) (line (s + 1)) from rfl) ht
  obtain ⟨⟨a', us⟩, rfl, ha, hus⟩ := rJ p2
  obtain ⟨u, us', rfl, hu, hus'⟩ := map_cons hus
  obtain ⟨r2, q1, q2⟩ := ih2 _ _ (show my 0 (line (nx s)) (line (nx s)) from rfl) hus'
  exact ⟨_, .rTwo h0 h1 p1 ((eO hu s).trans h3) q1, KS ha q2⟩
 | @lErr s d ts e h0 h1 ih =>
  intro j' ts' hj ht
  rw [bE hj]
  obtain ⟨r', p1, p2⟩ := ih _ _ (show my 0 (line (s + 1)) (line (s + 1)) from rfl) ht
  obtain ⟨e', rfl, he⟩ := vL p2
  exact ⟨_, .lErr h0 p1, he⟩
 | @lGo s d ts a ts1 r h0 h1 h2 ih ih2 =>
  intro j' ts' hj ht
  rw [bE hj]
  obtain ⟨r', p1, p2⟩ := ih _ _ (show my 0 (line (s + 1)) (line (s + 1)) from rfl) ht
  obtain ⟨⟨a', us⟩, rfl, ha, hus⟩ := rJ p2
  obtain ⟨r2, q1, q2⟩ := ih2 (loop s a') us ⟨rfl, ha⟩ hus
  exact ⟨_, .lGo h0 p1 q1, q2⟩
 | @lpEnd s a d t ts h0 =>
  intro j' ts' hj ht
  obtain ⟨a', rfl, ha⟩ := p6 hj
  obtain ⟨u, us, rfl, hu, hus⟩ := map_cons ht
  exact ⟨_, .lpEnd ((eO hu s).trans h0), ha, ht⟩
 | @lpErr s a d t ts k e h0 h1 ih =>
  intro j' ts' hj ht
  obtain ⟨a', rfl, ha⟩ := p6 hj
  obtain ⟨u, us, rfl, hu, hus⟩ := map_cons ht
  obtain ⟨r', p1, p2⟩ := ih _ _ (show my 0 (line (s + 1)) (line (s + 1)) from rfl) hus
  obtain ⟨e', rfl, he⟩ := vL p2
  exact ⟨_, .lpErr ((eO hu s).trans h0) p1, he⟩
 | @lpGo s a d t ts k b ts1 r h0 h1 h2 ih ih2 =>
  intro j' ts' hj ht
  obtain ⟨a', rfl, ha⟩ := p6 hj
  obtain ⟨u, us, rfl, hu, hus⟩ := map_cons ht
  obtain ⟨r', p1, p2⟩ := ih _ _ (show my 0 (line (s + 1)) (line (s + 1)) from rfl) hus
  obtain ⟨⟨b', us1⟩, rfl, hb, hus1⟩ := rJ p2
  obtain ⟨r2, q1, q2⟩ := ih2 (loop s (.mk k 0 u.2.2.2 [a', b'])) us1 ⟨rfl, by rw [xh, xh, ha, show mp 0 b' = mp 0 b from hb]⟩ hus1
  exact ⟨_, .lpGo ((eO hu s).trans h0) p1 q1, q2⟩
 | @oWord s d t ts k h0 h1 =>
  intro j' ts' hj ht
  obtain ⟨u, us, rfl, hu, hus⟩ := map_cons ht
  rw [bE hj]
  exact ⟨_, .oWord h0 ((eO hu s).trans h1), by rw [qI, qI], hus⟩
 | @oNum s d t ts h0 h1 h2 =>
  intro j' ts' hj ht
  obtain ⟨u, us, rfl, hu, hus⟩ := map_cons ht
  rw [bE hj]
  exact ⟨_, .oNum h0 ((eO hu s).trans h1) (by rw [st1 hu]; exact h2), by rw [qI, qI, st3 hu], hus⟩
 | @oVar s d t ts i h0 h1 h2 h3 h4 =>
  intro j' ts' hj ht
  obtain ⟨u, us, rfl, hu, hus⟩ := map_cons ht
  rw [bE hj]
  exact ⟨_, .oVar h0 ((eO hu s).trans h1) (by rw [st1 hu]; exact h2) ((nG hu).trans h3) (by rw [st2 hu]; exact h4), by rw [qI, qI], hus⟩
 | @oName s d t ts h0 h1 h2 h3 h4 =>
  intro j' ts' hj ht
  obtain ⟨u, us, rfl, hu, hus⟩ := map_cons ht
  rw [bE hj]
  exact ⟨_, .oName h0 ((eO hu s).trans h1) (by rw [st1 hu]; exact h2) ((nG hu).trans h3) (by rw [st2 hu]; exact h4), rfl⟩
 | @oOpen s d t ts a c ts1 h0 h1 h2 h3 h4 h5 h6 ih =>
  intro j' ts' hj ht
  obtain ⟨u, us, rfl, hu, hus⟩ := map_cons ht
  rw [bE hj]
  obtain ⟨r', p1, p2⟩ := ih _ _ (show my 0 (line 1) (line 1) from rfl) hus
  obtain ⟨⟨a', us1⟩, rfl, ha, hus1⟩ := rJ p2
  obtain ⟨c', us2, rfl, hc, hus2⟩ := map_cons hus1
  exact ⟨_, .oOpen h0 ((eO hu s).trans h1) (by rw [st1 hu]; exact h2) ((nG hu).trans h3) ((u5 hu).trans h4) p1 ((zo hc).trans h6), ha, hus2⟩
 | @oErr s d t ts e h0 h1 h2 h3 h4 h5 ih =>
  intro j' ts' hj ht
  obtain ⟨u, us, rfl, hu, hus⟩ := map_cons ht
  rw [bE hj]
  obtain ⟨r', p1, p2⟩ := ih _ _ (show my 0 (line 1) (line 1) from rfl) hus
  obtain ⟨e', rfl, he⟩ := vL p2
  exact ⟨_, .oErr h0 ((eO hu s).trans h1) (by rw [st1 hu]; exact h2) ((nG hu).trans h3) ((u5 hu).trans h4) p1, he⟩
 | @oClose s d t ts a c ts1 h0 h1 h2 h3 h4 h5 h6 ih =>
  intro j' ts' hj ht
  obtain ⟨u, us, rfl, hu, hus⟩ := map_cons ht
  rw [bE hj]
  obtain ⟨r', p1, p2⟩ := ih _ _ (show my 0 (line 1) (line 1) from rfl) hus
  obtain ⟨⟨a', us1⟩, rfl, ha, hus1⟩ := rJ p2
  obtain ⟨c', us2, rfl, hc, hus2⟩ := map_cons hus1
  exact ⟨_, .oClose h0 ((eO hu s).trans h1) (by rw [st1 hu]; exact h2) ((nG hu).trans h3) ((u5 hu).trans h4) p1 ((zo hc).trans h6), rfl⟩
 | @oForm s d t ts h0 h1 h2 h3 h4 =>
  intro j' ts' hj ht
  obtain ⟨u, us, rfl, hu, hus⟩ := map_cons ht
  rw [bE hj]
  exact ⟨_, .oForm h0 ((eO hu s).trans h1) (by rw [st1 hu]; exact h2) ((nG hu).trans h3) ((u5 hu).trans h4), rfl⟩
noncomputable def bad (t : Tok) : Bool := t.1 == 4 || (t.1 == 3 && [[123], [125], [59], [58], [44], [61]].contains t.2.1) || (t.1 == 1 && [[118, 97, 114], [112, 114, 111, 99]].contains t.2.1)
theorem Ap {s : Nat} {t : Tok} {k : Int} (h : bA s t = some k) : bad t = false := by
 unfold bA fnd at h
 cases hs : sgn t
 ·rw [hs] at h; cases h
 ·rw [hs] at h
  have hm := List.mem_of_find?_eq_some h
  have hp : aN k = t.2.1 := by simpa using List.find?_some h
  have hs' : s = 1 ∨ s = 2 ∨ s = 3 ∨ s = 4 ∨ s = 5 ∨ s = 6 ∨ s = 7 ∨ s = 8 ∨ s = 9 ∨ s = 10 ∨ s = 11 := by
   unfold ops at hm
   split at hm <;> first | simp at hm; done | simp
  have hk : k = 19 ∨ k = 18 ∨ k = 17 ∨ k = 16 ∨ k = 23 ∨ k = 24 ∨ k = 15 ∨ k = 20 ∨ k = 21 ∨ k = 22 ∨ k = 7 ∨ k = 8 ∨ k = 9 ∨ k = 10 ∨ k = 11 ∨ k = 12 ∨ k = 3 ∨ k = 4 ∨ k = 5 ∨ k = 6 ∨ k = 13 ∨ k = 14 := by
   rcases hs' with rfl | rfl | rfl | rfl | rfl | rfl | rfl | rfl | rfl | rfl | rfl <;> simp only [ops, List.mem_cons, List.not_mem_nil, or_false] at hm <;> omega
  have h4 : (t.1 == 4) = false := beq_eq_false_iff_ne.2 (HU hs)
  unfold bad
  rw [h4, ← hp]
  rcases hk with rfl | rfl | rfl | rfl | rfl | rfl | rfl | rfl | rfl | rfl | rfl | rfl | rfl | rfl | rfl | rfl | rfl | rfl | rfl | rfl | rfl | rfl <;> cases t.1 == 3 <;> cases t.1 == 1 <;> rfl
theorem Mc {t : Tok} (h : (t.1 == 2) = true) : bad t = false := by
 unfold bad; rw [beq_iff_eq.1 h]; rfl
theorem K2 {t : Tok} (h : iR t = true) : bad t = false := by
 unfold iR at h
 simp only [Bool.and_eq_true, beq_iff_eq, Bool.not_eq_true'] at h
 obtain ⟨h1, h2⟩ := h
 unfold bad
 rw [h1]
 cases hc : ([[118, 97, 114], [112, 114, 111, 99]] : List Str).contains t.2.1
 ·rfl
 ·exfalso
  rw [List.contains_iff_mem] at hc
  unfold key at h2
  have : gn.contains t.2.1 = true := by
   rw [List.contains_iff_mem]
   simp only [List.mem_cons, List.not_mem_nil, or_false] at hc
   rcases hc with h | h <;> rw [h] <;> simp [gn]
  rw [this] at h2; cases h2
theorem Jo {t : Tok} (h : open_ t = true) : bad t = false := by
 unfold open_ at h
 simp only [Bool.and_eq_true, beq_iff_eq] at h
 unfold bad; rw [h.1, h.2]; rfl
theorem I6 {t : Tok} (h : close_ t = true) : bad t = false := by
 unfold close_ at h
 simp only [Bool.and_eq_true, beq_iff_eq] at h
 unfold bad; rw [h.1, h.2]; rfl
noncomputable def vK (r r' : List Tok) : Prop := ∀ t ts, r = t :: ts → ∃ t' ts', r' = t' :: ts' ∧ strip t' = strip t
theorem wK {t u : Tok} {ts us : List Tok} (h : strip u = strip t) : vK (t :: ts) (u :: us) := fun x xs e => by cases e; exact ⟨u, us, rfl, h⟩
noncomputable def ahead (k : Nat) (names names' : List Str) : Prop := ∀ v i, at_ names v = some i → at_ names' v = some (i + k)
noncomputable def qf : Job → List Tok → Prop
 | line _, a => a ≠ []
 | loop _ _, _ => True
theorem P.loc {names : List Str} {j : Job} {d : Int} {ts : List Tok} {r : Out} (h : P names j d ts r) : ∀ p, r = .ok p → ∃ a, ts = a ++ p.2 ∧ qf j a ∧ (∀ t ∈ a, bad t = false) ∧
  ∀ (k : Nat) names' j' a' r', ahead k names names' → my k j j' → a'.map strip = a.map strip → vK p.2 r' → ∃ x', P names' j' d (a' ++ r') (.ok (x', r')) ∧ mp 0 x' = mp k p.1 := by
 induction h with
 | big => intro p h; cases h
 | @pre s d t ts o r h0 h1 h2 h3 ih =>
  intro p h
  cases r with
  | error e => cases h
  | ok q =>
   cases h
   obtain ⟨a, rfl, _, hb, hl⟩ := ih q rfl
   refine ⟨t :: a, rfl, by simp [qf], fun u hu => ?_, fun k names' j' a' r' hn hj ha hr => ?_⟩
   ·rcases List.mem_cons.1 hu with rfl | hu
    ·exact Ap h2
    ·exact hb u hu
   ·obtain ⟨u, us, rfl, hu, hus⟩ := map_cons ha
    rw [bE hj]
    obtain ⟨x', p1, p2⟩ := hl k names' (line s) us r' hn rfl hus hr
    exact ⟨_, .pre h0 h1 ((eO hu s).trans h2) p1, by rw [Ht, Ht, p2, show (o == 2) = false from by
     have := mz h2
     rw [beq_eq_false_iff_ne]; rintro rfl
     have : s = 6 ∨ s = 10 := by
      unfold kd at h0
      split at h0 <;> first | (cases h0; done) | simp
     rcases this with rfl | rfl <;> simp [ops] at this]; rfl⟩
 | @other s d t ts r h0 h1 h2 h3 ih =>
  intro p h
  obtain ⟨a, e, hne, hb, hl⟩ := ih p h
  refine ⟨a, e, hne, hb, fun k names' j' a' r' hn hj ha hr => ?_⟩
  rw [bE hj]
  obtain ⟨x', p1, p2⟩ := hl k names' (line (s + 1)) a' r' hn rfl ha hr
  cases a with
  | nil => exact absurd rfl hne
  | cons t0 a0 =>
   cases e
   obtain ⟨u, us, rfl, hu, hus⟩ := map_cons ha
   exact ⟨_, .other h0 h1 ((eO hu s).trans h2) p1, p2⟩
 | rErr => intro p h; cases h
 | @rOne s d ts a t ts1 h0 h1 h2 h3 ih =>
  intro p h
  cases h
  obtain ⟨c, e, hne, hb, hl⟩ := ih _ rfl
  refine ⟨c, e, hne, hb, fun k names' j' a' r' hn hj ha hr => ?_⟩
  rw [bE hj]
  obtain ⟨u, us, rfl, hu⟩ := hr t ts1 rfl
  obtain ⟨x', p1, p2⟩ := hl k names' (line (s + 1)) a' (u :: us) hn rfl ha hr
  exact ⟨_, .rOne h0 h1 p1 ((eO hu s).trans h3), p2⟩
 | @rTwo s d ts a t ts1 o r h0 h1 h2 h3 h4 ih ih2 =>
  intro p h
  cases r with
  | error e => cases h
  | ok q =>
   cases h
   obtain ⟨c, rfl, hne, hb, hl⟩ := ih _ rfl
   obtain ⟨c2, rfl, _, hb2, hl2⟩ := ih2 q rfl
   refine ⟨c ++ t :: c2, by simp, by cases c <;> simp [qf], fun u hu => ?_, fun k names' j' a' r' hn hj ha hr => ?_⟩
   ·rcases List.mem_append.1 hu with hu | hu
    ·exact hb u hu
    ·rcases List.mem_cons.1 hu with rfl | hu
     ·exact Ap h3
     ·exact hb2 u hu
   ·rw [bE hj]
    obtain ⟨a1, b1, rfl, ha1, hb1⟩ := yE ha
    obtain ⟨u, us, rfl, hu, hus⟩ := map_cons hb1
    obtain ⟨x', p1, p2⟩ := hl k names' (line (s + 1)) a1 (u :: (us ++ r')) hn rfl ha1 (wK hu)
    obtain ⟨y', q1, q2⟩ := hl2 k names' (line (nx s)) us r' hn rfl hus hr
    refine ⟨.mk o 0 u.2.2.2 [x', y'], by rw [List.append_assoc]; exact .rTwo h0 h1 p1 ((eO hu s).trans h3) q1, by
     rw [xh, xh, p2, q2, show (o == 2) = false from by
      have := mz h3
      rw [beq_eq_false_iff_ne]; rintro rfl
      have : s = 1 ∨ s = 2 ∨ s = 5 ∨ s = 7 := by
       unfold kd at h0
       split at h0 <;> first | (cases h0; done) | simp
      rcases this with rfl | rfl | rfl | rfl <;> simp [ops] at this]; rfl⟩
 | lErr => intro p h; cases h
 | @lGo s d ts a ts1 r h0 h1 h2 ih ih2 =>
  intro p h
  obtain ⟨c, rfl, hne, hb, hl⟩ := ih _ rfl
  obtain ⟨c2, e2, _, hb2, hl2⟩ := ih2 p h
  subst e2
  refine ⟨c ++ c2, by simp, by cases c <;> simp_all [qf], fun u hu => ?_, fun k names' j' a' r' hn hj ha hr => ?_⟩
  ·rcases List.mem_append.1 hu with hu | hu
   ·exact hb u hu
   ·exact hb2 u hu
  ·rw [bE hj]
   obtain ⟨a1, b1, rfl, ha1, hb1⟩ := yE ha
   have hh : vK (c2 ++ p.2) (b1 ++ r') := by
    intro t ts e
    cases c2 with
    | nil =>
     have : b1 = [] := by simpa using hb1
     subst this
     exact hr t ts e
    | cons y ys =>
     obtain ⟨u, us, rfl, hu, hus⟩ := map_cons hb1
     cases e
     exact ⟨u, _, rfl, hu⟩
   obtain ⟨x', p1, p2⟩ := hl k names' (line (s + 1)) a1 (b1 ++ r') hn rfl ha1 hh
   obtain ⟨y', q1, q2⟩ := hl2 k names' (loop s x') b1 r' hn ⟨rfl, p2⟩ hb1 hr
   exact ⟨_, by rw [List.append_assoc]; exact .lGo h0 p1 q1, q2⟩
 | @lpEnd s a d t ts h0 =>
  intro p h
  cases h
  refine ⟨[], rfl, trivial, fun u hu => (by cases hu), fun k names' j' a' r' hn hj ha hr => ?_⟩
  obtain ⟨x', rfl, hx⟩ := p6 hj
  have : a' = [] := by simpa using ha
  subst this
  obtain ⟨u, us, rfl, hu⟩ := hr t ts rfl
  exact ⟨x', .lpEnd ((eO hu s).trans h0), hx⟩
 | lpErr => intro p h; cases h
 | @lpGo s a d t ts o b ts1 r h0 h1 h2 ih ih2 =>
  intro p h
  obtain ⟨c, rfl, hne, hb, hl⟩ := ih _ rfl
  obtain ⟨c2, e2, _, hb2, hl2⟩ := ih2 p h
  subst e2
  refine ⟨t :: (c ++ c2), by simp, trivial, fun u hu => ?_, fun k names' j' a' r' hn hj ha hr => ?_⟩
  ·rcases List.mem_cons.1 hu with rfl | hu
   ·exact Ap h0
   ·rcases List.mem_append.1 hu with hu | hu
    ·exact hb u hu
    ·exact hb2 u hu
  ·obtain ⟨x', rfl, hx⟩ := p6 hj
   obtain ⟨u, us, rfl, hu, hus⟩ := map_cons ha
   obtain ⟨a1, b1, rfl, ha1, hb1⟩ := yE hus
   have hh : vK (c2 ++ p.2) (b1 ++ r') := by
    intro t ts e
    cases c2 with
    | nil =>
     have : b1 = [] := by simpa using hb1
     subst this
     exact hr t ts e
    | cons y ys =>
     obtain ⟨u, us, rfl, hu, hus⟩ := map_cons hb1
     cases e
     exact ⟨u, _, rfl, hu⟩
   obtain ⟨y', p1, p2⟩ := hl k names' (line (s + 1)) a1 (b1 ++ r') hn rfl ha1 hh
   have ho : (o == 2) = false := by
    have := mz h0
    rw [beq_eq_false_iff_ne]; rintro rfl
    unfold ops at this
    split at this <;> simp at this
   obtain ⟨z', q1, q2⟩ := hl2 k names' (loop s (.mk o 0 u.2.2.2 [x', y'])) b1 r' hn ⟨rfl, by rw [xh, xh, hx, show mp 0 y' = mp k b from p2, ho]; rfl⟩ hb1 hr
   refine ⟨z', ?_, q2⟩
   rw [List.cons_append, List.append_assoc]
   exact .lpGo ((eO hu s).trans h0) p1 q1
 | @oWord s d t ts o h0 h1 =>
  intro p h
  cases h
  refine ⟨[t], rfl, by simp [qf], fun u hu => by rw [List.mem_singleton.1 hu]; exact Ap h1, fun k names' j' a' r' hn hj ha hr => ?_⟩
  obtain ⟨u, us, rfl, hu, hus⟩ := map_cons ha
  have : us = [] := by simpa using hus
  subst this
  rw [bE hj]
  have ho : (o == 2) = false := by
   have := mz h1
   rw [beq_eq_false_iff_ne]; rintro rfl
   unfold ops at this
   split at this <;> simp at this
  exact ⟨_, .oWord h0 ((eO hu s).trans h1), by rw [qI, qI, ho]; rfl⟩
 | @oNum s d t ts h0 h1 h2 =>
  intro p h
  cases h
  refine ⟨[t], rfl, by simp [qf], fun u hu => by rw [List.mem_singleton.1 hu]; exact Mc h2, fun k names' j' a' r' hn hj ha hr => ?_⟩
  obtain ⟨u, us, rfl, hu, hus⟩ := map_cons ha
  have : us = [] := by simpa using hus
  subst this
  rw [bE hj]
  exact ⟨_, .oNum h0 ((eO hu s).trans h1) (by rw [st1 hu]; exact h2), by rw [qI, qI, st3 hu]; rfl⟩
 | @oVar s d t ts i h0 h1 h2 h3 h4 =>
  intro p h
  cases h
  refine ⟨[t], rfl, by simp [qf], fun u hu => by rw [List.mem_singleton.1 hu]; exact K2 h3, fun k names' j' a' r' hn hj ha hr => ?_⟩
  obtain ⟨u, us, rfl, hu, hus⟩ := map_cons ha
  have : us = [] := by simpa using hus
  subst this
  rw [bE hj]
  exact ⟨_, .oVar h0 ((eO hu s).trans h1) (by rw [st1 hu]; exact h2) ((nG hu).trans h3) (by rw [st2 hu]; exact hn _ _ h4), by
   rw [qI, qI]
   show Ex.mk 2 (((i + k : Nat) : Int) + 0) 0 [] = Ex.mk 2 ((i : Int) + (k : Int)) 0 []
   rw [show ((i + k : Nat) : Int) + 0 = (i : Int) + (k : Int) by omega]⟩
 | oName => intro p h; cases h
 | @oOpen s d t ts a c ts1 h0 h1 h2 h3 h4 h5 h6 ih =>
  intro p h
  cases h
  obtain ⟨e, rfl, hne, hb, hl⟩ := ih _ rfl
  refine ⟨t :: (e ++ [c]), by simp, by simp [qf], fun u hu => ?_, fun k names' j' a' r' hn hj ha hr => ?_⟩
  ·rcases List.mem_cons.1 hu with rfl | hu
   ·exact Jo h4
   ·rcases List.mem_append.1 hu with hu | hu
    ·exact hb u hu
    ·rw [List.mem_singleton.1 hu]; exact I6 h6
  ·obtain ⟨u, us, rfl, hu, hus⟩ := map_cons ha
   obtain ⟨a1, b1, rfl, ha1, hb1⟩ := yE hus
   obtain ⟨c', us2, rfl, hc, hus2⟩ := map_cons hb1
   have : us2 = [] := by simpa using hus2
   subst this
   rw [bE hj]
   obtain ⟨x', p1, p2⟩ := hl k names' (line 1) a1 (c' :: r') hn rfl ha1 (wK hc)
   refine ⟨x', ?_, p2⟩
   rw [List.cons_append, List.append_assoc]
   exact .oOpen h0 ((eO hu s).trans h1) (by rw [st1 hu]; exact h2) ((nG hu).trans h3) ((u5 hu).trans h4) p1 ((zo hc).trans h6)
 | oErr => intro p h; cases h
 | oClose => intro p h; cases h
 | oForm => intro p h; cases h
end Pa
end Go.Proofs.YtdhgpnejphlfpaaGreatDoor
namespace Go.Proofs.YtdhgpnejphlfpaaGreatDoor
namespace Lx
theorem J9 (c : UInt8) : xL (c.toNat : Int) = some (dM c) := by
 have h1 := kS c 32; have h2 := kS c 9; have h3 := kS c 10; have h4 := kS c 13
 show some (((((c.toNat : Int) == 32) || ((c.toNat : Int) == 9)) || ((c.toNat : Int) == 10)) || ((c.toNat : Int) == 13)) = _
 rw [show ((32 : Int) = ((32 : UInt8).toNat : Int)) from rfl, show ((9 : Int) = ((9 : UInt8).toNat : Int)) from rfl, show ((10 : Int) = ((10 : UInt8).toNat : Int)) from rfl, show ((13 : Int) = ((13 : UInt8).toNat : Int)) from rfl, h1, h2, h3, h4]
 rfl
theorem BR (c : UInt8) : ra (c.toNat : Int) = some (cN c) := by
 show some ((((decide ((97 : Int) ≤ (c.toNat : Int))) && (decide ((c.toNat : Int) ≤ 122))) || ((decide ((65 : Int) ≤ (c.toNat : Int))) && (decide ((c.toNat : Int) ≤ 90)))) || ((c.toNat : Int) == 95)) = _
 have h1 := qv 97 c; have h2 := qv c 122; have h3 := qv 65 c; have h4 := qv c 90; have h5 := kS c 95
 rw [show ((97 : Int) = ((97 : UInt8).toNat : Int)) from rfl, show ((122 : Int) = ((122 : UInt8).toNat : Int)) from rfl, show ((65 : Int) = ((65 : UInt8).toNat : Int)) from rfl, show ((90 : Int) = ((90 : UInt8).toNat : Int)) from rfl, show ((95 : Int) = ((95 : UInt8).toNat : Int)) from rfl, h1, h2, h3, h4, h5]
 rfl
theorem zG (c : UInt8) : qe (c.toNat : Int) = some (isDigit c) := by
 show some ((decide ((48 : Int) ≤ (c.toNat : Int))) && (decide ((c.toNat : Int) ≤ 57))) = _
 have h1 := qv 48 c; have h2 := qv c 57
 rw [show ((48 : Int) = ((48 : UInt8).toNat : Int)) from rfl, show ((57 : Int) = ((57 : UInt8).toNat : Int)) from rfl, h1, h2]
 rfl
theorem H8 (c : UInt8) : q6 (c.toNat : Int) = some (ca c) := by
 unfold q6 ca
 rw [BR, bB, zG]
 cases cN c <;> rfl
theorem Ke (c : UInt8) : qu (c.toNat : Int) = some (fT c) := by
 show some ((c.toNat : Int) != 10) = some (fT c)
 have h1 := kS c 10
 unfold fT bne
 rw [show ((10 : Int) = ((10 : UInt8).toNat : Int)) from rfl, h1]
theorem HC {text : Str} (h : text.length < 9223372036854775807) : wI text = some (text.takeWhile ca) := Bd H8 h (fun _ _ => rfl)
theorem IX {text : Str} (h : text.length < 9223372036854775807) : wm text = some (text.takeWhile isDigit) := Bd zG h (fun _ _ => rfl)
theorem Je {text : Str} (h : text.length < 9223372036854775807) : Bk text = some (text.takeWhile fT) := Bd Ke h (fun _ _ => rfl)
theorem K9 (s : Str) (hd : s.all isDigit = true) (hl : s.length < 9223372036854775807) :
  xi s = some (if big (bf 0 s) then (0, false) else (bf 0 s, true)) := by
 have hall : ∀ k (h : k < s.length), isDigit s[k] = true := fun k h => List.all_eq_true.1 hd _ (List.getElem_mem h)
 have key : ∀ N k, k ≤ s.length → s.length - k < N → bf 0 (s.take k) ≤ 1073741824 → aj (o8 s) N (bf 0 (s.take k), k) = some (if big (bf 0 s) then (0, false) else (bf 0 s, true)) := by
  intro N
  induction N with
  | zero => intro k _ h; omega
  | succ N ih =>
   intro k hk hN hn
   have h0 : 0 ≤ bf 0 (s.take k) := ml _ 0 (Int.le_refl _) (by
    rw [List.all_eq_true]; intro c hc; exact List.all_eq_true.1 hd c (List.mem_of_mem_take hc))
   rw [ar]
   show (bif decide (k < s.length) then _ else _) = _
   by_cases hlt : k < s.length
   ·rw [gi hlt, cond_true]
    obtain ⟨e1, e2⟩ := Hs s k hlt (hall k hlt)
    have hdl := x5 (hall k hlt)
    have hstep : (IntKind.i64.wrap ((IntKind.i64.wrap (10 * bf 0 (s.take k))) + (IntKind.i64.wrap (IntKind.i32.wrap ((mT s k) - 48))))) = bf 0 (s.take (k + 1)) := by
     rw [e1, Eg s 0 k hlt]
     unfold dig at hdl ⊢
     rw [w32 (by omega), w64 (x := 10 * _) (by omega), w64 (x := (s[k].toNat : Int) - 48) (by omega), w64 (by omega)]
    simp only [hstep, e2]
    by_cases hb : 1073741824 < bf 0 (s.take (k + 1))
    ·rw [gi hb, cond_true]
     have h1 : bf 0 (s.take (k + 1)) ≤ bf 0 s := by
      have h2 : bf 0 s = bf (bf 0 (s.take (k + 1))) (s.drop (k + 1)) := by
       unfold bf
       rw [← List.foldl_append, List.take_append_drop]
      rw [h2]
      exact ml _ _ (by omega) (by
       rw [List.all_eq_true]; intro c hc; exact List.all_eq_true.1 hd c (List.mem_of_mem_drop hc))
     rw [if_pos (by simp [big]; omega)]
    ·rw [iM hb, cond_false]
     exact ih (k + 1) (by omega) (by omega) (by omega)
   ·have hk' : k = s.length := by omega
    subst hk'
    rw [iM hlt, cond_false, List.take_length] at *
    rw [if_neg (by simp [big]; omega)]
 exact key al 0 (by omega) (by rw [kK]; omega) (by simp [bf])
theorem Lk : yd = some bc := rfl
theorem I9 (s g : Str) (_h : s.length < 9223372036854775807) : mH s g = some (g.isPrefixOf s) := by
 show (cL s g).bind (fun r1 => some r1) = _
 have hi : cL s g = some (g.isPrefixOf s) := by
  unfold cL
  simp only [gh]
  by_cases hl : g.length ≤ s.length
  ·rw [gi (by omega), ox, cond_true, lN (by omega) (by omega) (by omega), cond_true, Bool.true_and]
   congr 1
   rw [Bool.eq_iff_iff, List.isPrefixOf_iff_prefix, beq_iff_eq]
   have : cut s 0 (g.length : Int) = s.take g.length := by simp [cut]
   rw [this]
   constructor
   ·intro h; rw [← h]; exact List.take_prefix ..
   ·intro h; exact (List.prefix_iff_eq_take.1 h).symm
  ·rw [iM (by omega), mA, Bool.false_and]
   congr 1
   symm
   rw [Bool.eq_false_iff, Ne, List.isPrefixOf_iff_prefix]
   intro h
   exact hl h.length_le
 rw [hi]; rfl
theorem sign_eq (s : Str) (h : s.length < 9223372036854775807) : vI s = some (cJ s) := by
 unfold vI
 rw [Lk, bB]
 have key : ∀ N k, k ≤ bc.length → bc.length - k < N → (∀ i (h : i < bc.length), i < k → bc[i].isPrefixOf s = false) → aj (yY s bc) N ((k : Nat) : Int) = some (cJ s) := by
  intro N
  induction N with
  | zero => intro k _ h; omega
  | succ N ih =>
   intro k hk hN hp
   rw [ar]
   show (bif (decide (((k : Nat) : Int) < (List.length bc : Int))) then _ else _) = _
   by_cases hlt : k < bc.length
   ·rw [gi (by omega), cond_true, Ir hlt, bB, I9 _ _ h, bB]
    cases hpk : bc[k].isPrefixOf s
    ·simp only [cond_false]
     rw [w64 (by have : bc.length = 22 := rfl; omega)]
     exact ih (k + 1) (by omega) (by omega) (fun i h hi => by
      rcases Nat.lt_or_ge i k with h' | h'
      ·exact hp i h h'
      ·have : i = k := by omega
       subst this; exact hpk)
    ·simp only [cond_true]
     congr 1
     unfold cJ
     have : bc.find? (fun g => g.isPrefixOf s) = some bc[k] := by
      rw [List.find?_eq_some_iff_getElem]
      exact ⟨hpk, k, hlt, rfl, fun j hj => by simp [hp j (by omega) hj]⟩
     rw [this]; rfl
   ·rw [iM (by omega), cond_false]
    congr 1
    unfold cJ
    have : bc.find? (fun g => g.isPrefixOf s) = none := by
     rw [List.find?_eq_none]
     intro g hg
     obtain ⟨i, hi, rfl⟩ := List.mem_iff_getElem.1 hg
     simp [hp i hi (by omega)]
    rw [this]; rfl
 exact key al 0 (by omega) (by rw [kK]; have : bc.length = 22 := rfl; omega) (fun i _ h => by omega)
theorem JO (c : UInt8) (s : Str) (hb : dM c = false) (hc : (c == 35) = false) (hl : (c :: s).length < 9223372036854775807) :
  tU (c :: s) = some (match step (c :: s) with
   | .skip _ => ((0, [], 0, 0), 0)
   | .err e => ((0, [], 0, 0), e)
   | .tok k t n => ((k, t, n, 0), 0)) := by
 unfold tU
 have hb0 : dJ (c :: s) 0 = (c.toNat : Int) := by
  have := oO (c :: s) 0 (by simp)
  simpa using this
 rw [jB (by omega) (by simp), eV, hb0, BR, bB]
 simp only [step, hb, hc, Bool.false_eq_true, if_false]
 cases hlet : cN c
 ·simp only [cond_false, Bool.false_eq_true, if_false]
  rw [zG, bB]
  cases hdig : isDigit c
  ·simp only [cond_false, Bool.false_eq_true, if_false]
   rw [sign_eq _ hl, bB]
   cases hsg : (cJ (c :: s) == [])
   ·simp
   ·simp
  ·simp only [cond_true, if_true]
   rw [IX hl, bB, K9 _ (jh _ _) (by have := ji isDigit (c :: s); omega), bB]
   cases hbig : big (bf 0 ((c :: s).takeWhile isDigit))
   ·simp
   ·simp
 ·simp only [cond_true, if_true]
  rw [HC hl, bB]
  by_cases h32 : 32 < ((c :: s).takeWhile ca).length
  ·rw [gi (by omega), cond_true, if_pos h32]
  ·rw [iM (by omega), cond_false, if_neg h32]
theorem E7 (text : Str) (hlen : text.length ≤ 65536) : ∀ (N f at_ : Nat) (out : List Tok), at_ ≤ text.length → text.length - at_ < N → text.length - at_ < f → out.length ≤ at_ →
  aj (nd text) N (out, (at_ : Int)) = some (sb out (fC f at_ (text.drop at_))) := by
 intro N
 induction N with
 | zero => intro f at_ out _ h; omega
 | succ N ih =>
  intro f at_ out hat hN hf hout
  obtain ⟨f, rfl⟩ : ∃ g, f = g + 1 := ⟨f - 1, by omega⟩
  rw [ar]
  generalize aj (nd text) N = again at ih ⊢
  unfold nd
  dsimp only
  simp only [gh]
  cases hd : text.drop at_ with
  | nil =>
   have hge : ¬ ((at_ : Int) < (text.length : Int)) := by
    have := congrArg List.length hd
    simp at this; omega
   have hge' : at_ = text.length := by omega
   rw [iM hge]
   simp only [mA, lW, Bool.false_and, cond_false]
   rw [mB (by simp; omega) (by simp; omega), eV]
   rfl
  | cons c r =>
   obtain ⟨hlt, hget⟩ := wL hd
   have hdl : (c :: r).length = text.length - at_ := by rw [← hd]; simp
   have hbyte : dJ text (at_ : Int) = (c.toNat : Int) := by rw [oO _ _ hlt, hget]
   rw [gi (by omega)]
   simp only [ox, cond_true, jB (show (0 : Int) ≤ (at_ : Int) by omega) (show (at_ : Int) < (text.length : Int) by omega), jw, Bool.true_and, hbyte, J9, bB]
   cases hb : dM c
   ·simp only [cond_false]
    have h35 : ((c.toNat : Int) == 35) = (c == 35) := by
     rw [show ((35 : Int) = ((35 : UInt8).toNat : Int)) from rfl]; exact kS c 35
    rw [h35]
    cases hc : (c == 35)
    ·simp only [cond_false]
     rw [lN (by omega) (by omega) (by omega), eV, FU, hd, JO c r hb hc (by omega), bB]
     simp only [fC]
     cases hst : step (c :: r) with
     | skip k =>
      exfalso
      simp only [step, hb, hc, Bool.false_eq_true, if_false] at hst
      repeat (split at hst <;> try (cases hst))
     | err e =>
      have he := xP hst
      simp only []
      rw [show (e != 0) = true from by simpa using he, cond_true]
      rfl
     | tok k t n =>
      obtain ⟨ht1, ht2⟩ := step_take hb hc hst
      have ht3 := ht2.length_le
      simp only []
      rw [show ((0 : Int) != 0) = false from rfl, cond_false, mB (by simp; omega) (by simp; omega), eV, w64 (by omega)]
      have e1 : ((at_ : Int) + (t.length : Int)) = ((at_ + t.length : Nat) : Int) := by omega
      rw [e1, ih f (at_ + t.length) (out ++ [(k, t, n, (at_ : Int))]) (by omega) (by omega) (by omega) (by simp; omega)]
      have e2 : text.drop (at_ + t.length) = (c :: r).drop t.length := by rw [← hd, List.drop_drop]
      rw [e2]
      cases fC f (at_ + t.length) ((c :: r).drop t.length) <;> simp [sb]
    ·simp only [cond_true]
     rw [lN (by omega) (by omega) (by omega), eV, FU, hd, Je (by omega), bB]
     have hpos : 1 ≤ ((c :: r).takeWhile fT).length := hU (by
      have : c = 35 := by simpa using hc
      subst this; decide)
     have hle := ji fT (c :: r)
     rw [w64 (by omega)]
     have e1 : ((at_ : Int) + (((c :: r).takeWhile fT).length : Int)) = ((at_ + ((c :: r).takeWhile fT).length : Nat) : Int) := by omega
     rw [e1, ih f (at_ + ((c :: r).takeWhile fT).length) out (by omega) (by omega) (by omega) (by omega)]
     have e2 : text.drop (at_ + ((c :: r).takeWhile fT).length) = (c :: r).drop ((c :: r).takeWhile fT).length := by rw [← hd, List.drop_drop]
     rw [e2]
     have hst : step (c :: r) = .skip ((c :: r).takeWhile fT).length := by simp [step, hb, hc]
     simp only [fC, hst]
   ·simp only [cond_true]
    rw [w64 (by omega)]
    have e1 : ((at_ : Int) + 1) = ((at_ + 1 : Nat) : Int) := by omega
    rw [e1, ih f (at_ + 1) out (by omega) (by omega) (by omega) (by omega)]
    have e2 : text.drop (at_ + 1) = (c :: r).drop 1 := by rw [← hd, List.drop_drop]
    rw [e2]
    have hst : step (c :: r) = .skip 1 := by simp [step, hb]
    simp only [fC, hst]
theorem IG (text : Str) : qZ text = some (tokens text) := by
 unfold qZ tokens
 by_cases h : 65536 < text.length
 ·rw [gi (by omega), cond_true, if_pos h]
 ·rw [iM (by omega), cond_false, if_neg h]
  have := E7 text (by omega) al (text.length + 1) 0 [] (by omega) (by rw [kK]; omega) (by omega) (by simp)
  simp only [List.drop_zero] at this
  have h0 : ((0 : Nat) : Int) = 0 := rfl
  rw [h0] at this
  rw [this]
  cases fC (text.length + 1) 0 text <;> rfl
end Lx
end Go.Proofs.YtdhgpnejphlfpaaGreatDoor
namespace Go.Proofs.YtdhgpnejphlfpaaGreatDoor
theorem Fq {l pre r : List Str} {x : Str} (h : l = pre ++ x :: r) : idx l (pre.length : Int) = some x := by subst h; simp [idx]
theorem Lp {l pre r : List Str} {x : Str} (h : l = pre ++ x :: r) : decide ((pre.length : Int) < (List.length l : Int)) = true := by subst h; simp; omega
theorem LD {l pre : List Str} (h : l = pre ++ []) : decide ((pre.length : Int) < (List.length l : Int)) = false := by subst h; simp
theorem qT (s : List Str) (v : Str) (hl : s.length < 4611686018427387904) : ∀ (r pre : List Str), s = pre ++ r → ∀ (M : Nat), r.length < M →
  ∃ z, aj (cR s v) M (pre.length : Int) = some z ∧ decide (0 ≤ z) = r.contains v
 | [], pre, h, M, hM => by
  obtain ⟨m, rfl⟩ : ∃ m, M = m + 1 := ⟨M - 1, by simp at hM; omega⟩
  rw [ar]
  simp only [cR, LD h, cond_false]
  exact ⟨_, rfl, rfl⟩
 | x :: r, pre, h, M, hM => by
  obtain ⟨m, rfl⟩ : ∃ m, M = m + 1 := ⟨M - 1, by omega⟩
  rw [ar]
  have hlen : pre.length < 4611686018427387904 := by rw [h] at hl; simp at hl; omega
  obtain ⟨z, hz, hd⟩ := qT s v hl r (pre ++ [x]) (by rw [h]; simp) m (by simp at hM; omega)
  rw [show ((pre ++ [x]).length : Int) = ((pre.length + 1 : Nat) : Int) by simp] at hz
  simp only [cR, Lp h, cond_true, Fq h, ai, g8 hlen]
  cases hv : (v == x)
  ·simp only [cond_false]
   exact ⟨z, hz, by rw [hd, List.contains_cons, hv, Bool.false_or]⟩
  ·simp only [cond_true]
   exact ⟨_, rfl, by rw [List.contains_cons, hv, Bool.true_or]; simp⟩
theorem Fg (s : List Str) (v : Str) (h : s.length < 4611686018427387904) : dR s v = some (s.contains v) := by
 obtain ⟨z, hz, hd⟩ := qT s v h s [] rfl al (by show s.length < 2 ^ 64; omega)
 unfold dR hY
 rw [show aj (cR s v) al 0 = some z from hz, ai, hd]
theorem D7 (name : Str) : nn name = some (gn.contains name) := by
 unfold nn
 rw [Fg vN name (by decide)]
 rfl
theorem My {op : Int} (h1 : 1 ≤ op) (h2 : op ≤ 24) : idx mZ op = some (aN op) := by
 unfold idx
 have hl : mZ.length = 25 := rfl
 have he : mZ = I8 := rfl
 rw [if_pos (by omega), List.getElem?_eq_getElem (by omega)]
 unfold aN
 rw [← he]
 simp [List.getD, List.getElem?_eq_getElem (show op.toNat < mZ.length by omega)]
end Go.Proofs.YtdhgpnejphlfpaaGreatDoor
namespace Go.Proofs.YtdhgpnejphlfpaaGreatDoor
namespace Pa
open Job
abbrev R5 := Ex × Int × Int × Int × Int
theorem fq (x : Option R5) : (x.bind fun r => some (r.1, r.2.1, r.2.2.1, r.2.2.2.1, r.2.2.2.2)) = x := by cases x <;> rfl
theorem drop_cons {l : List Tok} {k : Nat} {t : Tok} {r : List Tok} (h : l.drop k = t :: r) : idx l (k : Int) = some t ∧ l.drop (k + 1) = r ∧ k < l.length := by
 have hk : k < l.length := by
  by_cases hk : k < l.length
  ·exact hk
  ·rw [List.drop_eq_nil_of_le (by omega)] at h; cases h
 rw [List.drop_eq_getElem_cons hk] at h
 cases h
 refine ⟨?_, rfl, hk⟩
 simp [idx, List.getElem?_eq_getElem hk]
theorem Ji {l : List Tok} {k : Nat} (h : k < l.length) : ∃ t, idx l (k : Int) = some t := ⟨l[k], by simp [idx, List.getElem?_eq_getElem h]⟩
/-! is: one of these parts? -/
noncomputable def isR : Option Int → Int × Bool
 | some k => (k, true)
 | none => (0, false)
theorem MX {l pre r : List Int} {x : Int} (h : l = pre ++ x :: r) : idx l (pre.length : Int) = some x := by subst h; simp [idx]
theorem Oq {l pre r : List Int} {x : Int} (h : l = pre ++ x :: r) : decide ((pre.length : Int) < (List.length l : Int)) = true := by subst h; simp; omega
theorem Ow {l pre : List Int} (h : l = pre ++ []) : decide ((pre.length : Int) < (List.length l : Int)) = false := by subst h; simp
theorem FB {l : List Int} (ho : ∀ o ∈ l, 1 ≤ o ∧ o ≤ 24) (hl : l.length < 4611686018427387904) (t : Tok) : ∀ (r pre : List Int), l = pre ++ r → ∀ (M : Nat), r.length < M →
  aj (gM l t) M (pre.length : Int) = some (isR (r.find? (fun o => aN o == t.2.1)))
 | [], pre, h, M, hM => by
  obtain ⟨m, rfl⟩ : ∃ m, M = m + 1 := ⟨M - 1, by simp at hM; omega⟩
  rw [ar]
  simp only [gM, Ow h, cond_false]
  rfl
 | x :: r, pre, h, M, hM => by
  obtain ⟨m, rfl⟩ : ∃ m, M = m + 1 := ⟨M - 1, by omega⟩
  rw [ar]
  have hlen : pre.length < 4611686018427387904 := by rw [h] at hl; simp at hl; omega
  have ih := FB ho hl t r (pre ++ [x]) (by rw [h]; simp) m (by simp at hM; omega)
  rw [show ((pre ++ [x]).length : Int) = ((pre.length + 1 : Nat) : Int) by simp] at ih
  have hx := ho x (by rw [h]; simp)
  simp only [gM, Oq h, cond_true, MX h, ai, My hx.1 hx.2, g8 hlen]
  cases hv : (aN x == t.2.1)
  ·simp only [cond_false]
   rw [ih, List.find?_cons, hv]
  ·simp only [cond_true]
   rw [List.find?_cons, hv]; rfl
theorem OA {l : List Int} (ho : ∀ o ∈ l, 1 ≤ o ∧ o ≤ 24) (hl : l.length < 4611686018427387904) {ts : List Tok} {a : Int} {t : Tok} (h : idx ts a = some t) (names : List Str) (d b p : Int) : ay l ts a names d b p = some (isR (fnd l t)) := by
 unfold ay au
 rw [h]
 simp only [ai, aH, D7]
 have hi := FB ho hl t l [] rfl al (by show l.length < 2 ^ 64; omega)
 have hi : aj (gM l t) al 0 = some (isR (l.find? (fun o => aN o == t.2.1))) := hi
 rw [hi]
 unfold fnd sgn key
 cases h3 : (t.1 == 3)
 ·have : (t.1 != 3) = true := by simp [bne, h3]
  rw [this]
  cases h1 : (t.1 == 1)
  ·rfl
  ·simp only [Bool.true_and, bZ, ai, Bool.false_or]
   cases hk : gn.contains t.2.1 <;> rfl
 ·have : (t.1 != 3) = false := by simp [bne, h3]
  rw [this]
  simp only [Bool.false_and, kT, cond_false, Bool.true_or, cond_true]
theorem IE : ∀ s : Nat, (∀ o ∈ ops s, 1 ≤ o ∧ o ≤ 24) ∧ (ops s).length < 4611686018427387904 := by
 intro s
 unfold ops
 split <;> (refine ⟨?_, ?_⟩ <;> simp)
theorem oG (s : Nat) {ts : List Tok} {a : Int} {t : Tok} (h : idx ts a = some t) (names : List Str) (d b p : Int) : ay (ops s) ts a names d b p = some (isR (bA s t)) := OA (IE s).1 (IE s).2 h names d b p
theorem nO {ts : List Tok} {a : Int} {t : Tok} (h : idx ts a = some t) (names : List Str) (d b p : Int) : au ts a names d b p = some t := by unfold au; rw [h]; rfl
theorem uM {ts : List Tok} {a : Int} {t : Tok} (h : idx ts a = some t) (names : List Str) (e d p : Int) : aD e ts a names d 0 p = some (.mk 0 0 0 [], e, t.2.2.2) := by unfold aD; rw [h]; rfl
/-! what is to be shown -/
noncomputable def Rs (l : List Tok) (d pl : Int) : Out → Option R5 → Prop
 | .ok p, m => ∃ k : Nat, l.drop k = p.2 ∧ m = some (p.1, (k : Int), d, 0, pl)
 | .error e, m => ∃ (x : Ex) (k : Nat), k < l.length ∧ m = some (x, (k : Int), d, e.1, e.2)
noncomputable def Snd (names : List Str) (l : List Tok) (j : Job) (d : Int) (ts : List Tok) (pl : Int) (m : Option R5) : Prop := ∃ r, P names j d ts r ∧ Rs l d pl r m
noncomputable def x7 (names : List Str) (l : List Tok) (s : Nat) (D : Int) (ts : List Tok) (pl : Int) (m : Option R5) : Prop :=
 ∃ r, (∀ d, dn s d = D → iA s d = false → P names (line s) d ts r) ∧ Rs l D pl r m
theorem xP {names : List Str} {j : Job} {d : Int} {ts : List Tok} {e : Int × Int} (h : P names j d ts (.error e)) : (e.1 != 0) = true := by
 have := h.err e rfl
 simp only [bne_iff_ne, ne_eq]
 omega
theorem DW {names : List Str} {j : Job} {d : Int} {ts : List Tok} {e : Int × Int} (h : P names j d ts (.error e)) : (e.1 == 0) = false := by
 have := h.err e rfl
 simp only [beq_eq_false_iff_ne, ne_eq]
 omega
noncomputable def oI (names : List Str) (l : List Tok) (ops : List Int) (one : Option R5) (whole : Int → Int → Int → Int → Option R5) : Option R5 :=
 one.bind fun r11 =>
 (ay ops l r11.2.1 names r11.2.2.1 r11.2.2.2.1 r11.2.2.2.2).bind fun r19 =>
 ab (r11.2.2.2.1 != 0) fun b22 =>
 ab (!r19.2) fun b24 =>
 ab (b22 || b24) fun b26 =>
 bif b26 then (
 some (r11.1, r11.2.1, r11.2.2.1, r11.2.2.2.1, r11.2.2.2.2))
 else (
 (au l r11.2.1 names r11.2.2.1 r11.2.2.2.1 r11.2.2.2.2).bind fun r30 =>
 (whole (IntKind.i64.wrap (r11.2.1 + 1)) r11.2.2.1 r11.2.2.2.1 r11.2.2.2.2).bind fun r37 =>
 some ((Ex.mk r19.1 0 r30.2.2.2 ([r11.1, r37.1] : List Ex)), r37.2.1, r37.2.2.1, r37.2.2.2.1, r37.2.2.2.2))
theorem tN {names : List Str} {l : List Tok} {s : Nat} (hk : kd s = 1) {D pl : Int} {ts : List Tok} {one : Option R5} {whole : Int → Int → Int → Int → Option R5} (hl : l.length < 4611686018427387904)
  (he : Ends ts) (h1 : Snd names l (line (s + 1)) D ts pl one)
  (h2 : ∀ k : Nat, Ends (l.drop k) → (l.drop k).length < ts.length → Snd names l (line (nx s)) D (l.drop k) pl (whole (k : Int) D 0 pl)) :
  x7 names l s D ts pl (oI names l (ops s) one whole) := by
 obtain ⟨r, hp, hr⟩ := h1
 cases r with
 | error e =>
  obtain ⟨x, k1, hk1, rfl⟩ := hr
  refine ⟨.error e, fun d hd hb => .rErr hk hb (by rw [hd]; exact hp), x, k1, hk1, ?_⟩
  obtain ⟨t, ht⟩ := Ji hk1
  simp only [oI, ai, oG s ht, aH, xP hp, Bool.true_or, cond_true]
 | ok p =>
  obtain ⟨a, ts1⟩ := p
  obtain ⟨k1, hk1, rfl⟩ := hr
  obtain ⟨e1, e2⟩ := hp.ends he _ rfl
  obtain ⟨t, r1, rfl⟩ := e1.ne
  obtain ⟨ht, hd1, hlt⟩ := drop_cons hk1
  cases ho : bA s t with
  | none =>
   refine ⟨.ok (a, t :: r1), fun d hd hb => .rOne hk hb (by rw [hd]; exact hp) ho, k1, hk1, ?_⟩
   simp only [oI, ai, oG s ht, aH, ho, isR, Bool.not_false, Bool.or_true, cond_true]
  | some k =>
   have hw := g8 (n := k1) (by omega)
   obtain ⟨r2, hp2, hr2⟩ := h2 (k1 + 1) (by rw [hd1]; exact e1.tail (na ho)) (by rw [hd1]; simp only [shorter, List.length_cons] at e2; omega)
   rw [hd1] at hp2
   refine ⟨D4 k t.2.2.2 a r2, fun d hd hb => .rTwo hk hb (by rw [hd]; exact hp) ho (by rw [hd]; exact hp2), ?_⟩
   have hz : ((0 : Int) != 0) = false := rfl
   cases r2 with
   | error e =>
    obtain ⟨x, k2, hk2, hm⟩ := hr2
    refine ⟨.mk k 0 t.2.2.2 [a, x], k2, hk2, ?_⟩
    simp only [oI, ai, oG s ht, aH, ho, isR, hz, Bool.not_true, Bool.or_false, cond_false, nO ht, hw, hm]
   | ok p =>
    obtain ⟨k2, hk2, hm⟩ := hr2
    refine ⟨k2, hk2, ?_⟩
    simp only [oI, ai, oG s ht, aH, ho, isR, hz, Bool.not_true, Bool.or_false, cond_false, nO ht, hw, hm]
noncomputable def pC (names : List Str) (l : List Tok) (ops : List Int) (at_ deep bad place : Int) (other : Option R5) (same : Int → Int → Int → Int → Option R5) : Option R5 :=
 (ay ops l at_ names deep bad place).bind fun r11 =>
 bif (!r11.2) then (
 other.bind fun r15 =>
 some (r15.1, r15.2.1, r15.2.2.1, r15.2.2.2.1, r15.2.2.2.2))
 else (
 (au l at_ names deep bad place).bind fun r21 =>
 (same (IntKind.i64.wrap (at_ + 1)) deep bad place).bind fun r30 =>
 some ((Ex.mk r11.1 0 r21.2.2.2 ([r30.1] : List Ex)), r30.2.1, r30.2.2.1, r30.2.2.2.1, r30.2.2.2.2))
theorem zV {names : List Str} {l : List Tok} {s : Nat} (hk : kd s = 0) {D pl : Int} {a : Nat} {other : Option R5} {same : Int → Int → Int → Int → Option R5} (hl : l.length < 4611686018427387904)
  (he : Ends (l.drop a)) (h1 : Snd names l (line (s + 1)) D (l.drop a) pl other)
  (h2 : ∀ k : Nat, Ends (l.drop k) → (l.drop k).length < (l.drop a).length → Snd names l (line s) D (l.drop k) pl (same (k : Int) D 0 pl)) :
  x7 names l s D (l.drop a) pl (pC names l (ops s) (a : Int) D 0 pl other same) := by
 obtain ⟨t, r1, hts⟩ := he.ne
 obtain ⟨ht, hd1, hlt⟩ := drop_cons hts
 cases ho : bA s t with
 | none =>
  obtain ⟨r, hp, hr⟩ := h1
  have hg : pC names l (ops s) (a : Int) D 0 pl other same = other := by
   simp only [pC, oG s ht, ho, isR, ai, Bool.not_false, cond_true, fq]
  rw [hg]
  refine ⟨r, fun d hd hb => ?_, hr⟩
  rw [hts] at hp ⊢
  exact .other hk hb ho (by rw [hd]; exact hp)
 | some k =>
  have hw := g8 (n := a) (by omega)
  rw [hts] at he
  obtain ⟨r2, hp2, hr2⟩ := h2 (a + 1) (by rw [hd1]; exact he.tail (na ho)) (by rw [hd1, hts]; simp)
  rw [hd1] at hp2
  refine ⟨CR k t.2.2.2 r2, fun d hd hb => by rw [hts]; exact .pre hk hb ho (by rw [hd]; exact hp2), ?_⟩
  cases r2 with
  | error e =>
   obtain ⟨x, k2, hk2, hm⟩ := hr2
   refine ⟨.mk k 0 t.2.2.2 [x], k2, hk2, ?_⟩
   simp only [pC, oG s ht, ho, isR, ai, Bool.not_true, cond_false, nO ht, hw, hm]
  | ok p =>
   obtain ⟨k2, hk2, hm⟩ := hr2
   refine ⟨k2, hk2, ?_⟩
   simp only [pC, oG s ht, ho, isR, ai, Bool.not_true, cond_false, nO ht, hw, hm]
noncomputable def sP (names : List Str) (l : List Tok) (at_ deep bad place : Int) (by_ : Int → Option R5) : Option R5 :=
 bif (decide (320 ≤ deep)) then (
 (aD 9 l at_ names deep bad place).bind fun r12 =>
 some (r12.1, at_, deep, r12.2.1, r12.2.2))
 else (
 (by_ (IntKind.i64.wrap (deep + 1))).bind fun r19 =>
 some (r19.1, r19.2.1, (IntKind.i64.wrap (r19.2.2.1 - 1)), r19.2.2.2.1, r19.2.2.2.2))
theorem qb {names : List Str} {l : List Tok} {s : Nat} (hc : lf s = true) {d pl : Int} {a : Nat} {by_ : Int → Option R5} (h0 : 0 ≤ d) (h3 : d ≤ 320)
  (he : Ends (l.drop a)) (h1 : d < 320 → x7 names l s (d + 1) (l.drop a) pl (by_ (d + 1))) :
  Snd names l (line s) d (l.drop a) pl (sP names l (a : Int) d 0 pl by_) := by
 obtain ⟨t, r1, hts⟩ := he.ne
 obtain ⟨ht, hd1, hlt⟩ := drop_cons hts
 have hw : IntKind.i64.wrap (d + 1) = d + 1 := w64 (by omega)
 have hw2 : IntKind.i64.wrap (d + 1 - 1) = d := by rw [show d + 1 - 1 = d by omega]; exact w64 (by omega)
 unfold sP
 cases hd : decide (320 ≤ d)
 ·have hdb : iA s d = false := by unfold iA; rw [hd, Bool.and_false]
  obtain ⟨r, hp, hr⟩ := h1 (by simp only [decide_eq_false_iff_not] at hd; omega)
  refine ⟨r, hp d (by unfold dn; rw [hc]; rfl) hdb, ?_⟩
  cases r with
  | error e =>
   obtain ⟨x, k2, hk2, hm⟩ := hr
   refine ⟨x, k2, hk2, ?_⟩
   simp only [cond_false, hw, hm, ai, hw2]
  | ok p =>
   obtain ⟨k2, hk2, hm⟩ := hr
   refine ⟨k2, hk2, ?_⟩
   simp only [cond_false, hw, hm, ai, hw2]
 ·refine ⟨.error (9, t.2.2.2), by rw [hts]; exact .big (by unfold iA; rw [hc, hd]; rfl), .mk 0 0 0 [], a, hlt, ?_⟩
  simp only [cond_true, uM ht, ai]
abbrev R8 := Int × Int × Int × Int × Int × Int × Int × (List Ex)
noncomputable def ni (names : List Str) (l : List Tok) (ops : List Int) (one : Int → Int → Int → Int → Option R5) (again30 : R8 → Option R5) : R8 → Option R5 := fun ⟨c20, c21, c22, c23, c24, c25, c26, c27⟩ =>
 bif (c22 == 0) then (
 (ay ops l c20 names c21 c22 c23).bind fun r32 =>
 bif (!r32.2) then (
 some ((Ex.mk c24 c25 c26 c27), c20, c21, c22, c23))
 else (
 (au l c20 names c21 c22 c23).bind fun r37 =>
 (one (IntKind.i64.wrap (c20 + 1)) c21 c22 c23).bind fun r44 =>
 again30 (r44.2.1, r44.2.2.1, r44.2.2.2.1, r44.2.2.2.2, r32.1, 0, r37.2.2.2, ([(Ex.mk c24 c25 c26 c27), r44.1] : List Ex))))
 else (
 some ((Ex.mk c24 c25 c26 c27), c20, c21, c22, c23))
noncomputable def ym (names : List Str) (l : List Tok) (ops : List Int) (first : Option R5) (one : Int → Int → Int → Int → Option R5) : Option R5 :=
 first.bind fun r11 =>
 aj (ni names l ops one) al (r11.2.1, r11.2.2.1, r11.2.2.2.1, r11.2.2.2.2, r11.1.op, r11.1.n, r11.1.at_, r11.1.l)
theorem Lj {names : List Str} {l : List Tok} {s : Nat} {d pl : Int} {one : Int → Int → Int → Int → Option R5} (hl : l.length < 4611686018427387904) (N : Nat)
  (h2 : ∀ k : Nat, Ends (l.drop k) → (l.drop k).length < N → Snd names l (line (s + 1)) d (l.drop k) pl (one (k : Int) d 0 pl)) : ∀ (n k : Nat) (a : Ex), Ends (l.drop k) → (l.drop k).length ≤ N → (l.drop k).length ≤ n →
  Snd names l (loop s a) d (l.drop k) pl (aj (ni names l (ops s) one) (n + 1) ((k : Int), d, 0, pl, a.op, a.n, a.at_, a.l)) := by
 intro n
 induction n with
 | zero =>
  intro k a he _ hn
  obtain ⟨t, r1, hts⟩ := he.ne
  rw [hts] at hn; simp at hn
 | succ n ih =>
  intro k a he hN hn
  obtain ⟨t, r1, hts⟩ := he.ne
  obtain ⟨ht, hd1, hlt⟩ := drop_cons hts
  have hz : ((0 : Int) == 0) = true := rfl
  rw [ar]
  cases ho : bA s t with
  | none =>
   refine ⟨.ok (a, t :: r1), by rw [hts]; exact .lpEnd ho, k, hts, ?_⟩
   simp only [ni, hz, cond_true, oG s ht, ho, isR, ai, Bool.not_false, Ex.eta]
  | some o =>
   have hw := g8 (n := k) (by omega)
   have he1 := he
   rw [hts] at he1
   have hlen : (l.drop (k + 1)).length + 1 = (l.drop k).length := by rw [hd1, hts]; rfl
   obtain ⟨r2, hp2, hr2⟩ := h2 (k + 1) (by rw [hd1]; exact he1.tail (na ho)) (by omega)
   rw [hd1] at hp2
   cases r2 with
   | error e =>
    obtain ⟨x, k2, hk2, hm⟩ := hr2
    refine ⟨.error e, by rw [hts]; exact .lpErr ho hp2, .mk o 0 t.2.2.2 [a, x], k2, hk2, ?_⟩
    obtain ⟨m, rfl⟩ : ∃ m, n = m := ⟨n, rfl⟩
    simp only [ni, hz, cond_true, oG s ht, ho, isR, ai, Bool.not_true, cond_false, nO ht, hw, hm, Ex.eta]
    rw [ar]
    simp only [ni, DW hp2, cond_false]
   | ok p =>
    obtain ⟨b, ts2⟩ := p
    obtain ⟨k2, hk2, hm⟩ := hr2
    obtain ⟨i1, i2⟩ := hp2.ends (he1.tail (na ho)) _ rfl
    simp only [shorter] at i2
    simp only at hk2
    obtain ⟨r, hp, hr⟩ := ih k2 (.mk o 0 t.2.2.2 [a, b]) (by rw [hk2]; exact i1) (by rw [hk2]; rw [← hd1] at i2; omega) (by rw [hk2]; rw [← hd1] at i2; omega)
    rw [hk2] at hp
    refine ⟨r, by rw [hts]; exact .lpGo ho hp2 hp, ?_⟩
    simp only [ni, hz, cond_true, oG s ht, ho, isR, ai, Bool.not_true, cond_false, nO ht, hw, hm, Ex.eta]
    exact hr
theorem vr {names : List Str} {l : List Tok} {s : Nat} (hk : kd s = 2) {d pl : Int} {ts : List Tok} {first : Option R5} {one : Int → Int → Int → Int → Option R5} (hl : l.length < 4611686018427387904)
  (he : Ends ts) (hts : ts.length ≤ l.length) (h1 : Snd names l (line (s + 1)) d ts pl first)
  (h2 : ∀ k : Nat, Ends (l.drop k) → (l.drop k).length < ts.length → Snd names l (line (s + 1)) d (l.drop k) pl (one (k : Int) d 0 pl)) :
  Snd names l (line s) d ts pl (ym names l (ops s) first one) := by
 obtain ⟨r, hp, hr⟩ := h1
 unfold ym
 cases r with
 | error e =>
  obtain ⟨x, k1, hk1, rfl⟩ := hr
  refine ⟨.error e, .lErr hk hp, x, k1, hk1, ?_⟩
  rw [ai, show al = 18446744073709551615 + 1 from rfl, ar]
  simp only [ni, DW hp, cond_false, Ex.eta]
 | ok p =>
  obtain ⟨a, ts1⟩ := p
  obtain ⟨k1, hk1, rfl⟩ := hr
  obtain ⟨e1, e2⟩ := hp.ends he _ rfl
  simp only at hk1 e1 e2
  subst hk1
  simp only [shorter] at e2
  obtain ⟨r, hp2, hr2⟩ := Lj (s := s) (d := d) (pl := pl) (one := one) hl ts.length h2 18446744073709551615 k1 a e1 (by omega) (by omega)
  exact ⟨r, .lGo hk hp hp2, hr2⟩
theorem FP {s : List Str} {v : Str} (hl : s.length < 4611686018427387904) : ∀ (r pre : List Str), s = pre ++ r → ∀ (M : Nat), r.length < M →
  aj (cE s v) M (pre.length : Int) = some (match r.findIdx? (fun x => v == x) with | some i => ((pre.length + i : Nat) : Int) | none => -1)
 | [], pre, h, M, hM => by
  obtain ⟨m, rfl⟩ : ∃ m, M = m + 1 := ⟨M - 1, by simp at hM; omega⟩
  rw [ar]
  simp only [cE, LD h, cond_false]
  rfl
 | x :: r, pre, h, M, hM => by
  obtain ⟨m, rfl⟩ : ∃ m, M = m + 1 := ⟨M - 1, by omega⟩
  rw [ar]
  have hlen : pre.length < 4611686018427387904 := by rw [h] at hl; simp at hl; omega
  have ih := FP (v := v) hl r (pre ++ [x]) (by rw [h]; simp) m (by simp at hM; omega)
  rw [show ((pre ++ [x]).length : Int) = ((pre.length + 1 : Nat) : Int) by simp] at ih
  simp only [cE, Lp h, cond_true, Fq h, ai, g8 hlen]
  cases hv : (v == x)
  ·simp only [cond_false]
   rw [ih, List.findIdx?_cons, hv]
   cases hf : r.findIdx? (fun x => v == x) with
   | none => rfl
   | some i =>
    simp only [List.length_append, List.length_cons, List.length_nil, Bool.false_eq_true, if_false, Option.map_some]
    congr 2; omega
  ·simp only [cond_true]
   rw [List.findIdx?_cons, hv]; rfl
theorem nq {s : List Str} (hl : s.length < 4611686018427387904) (v : Str) : aS s v = some (match at_ s v with | some i => (i : Int) | none => -1) := by
 have := FP (v := v) hl s [] rfl al (by show s.length < 2 ^ 64; omega)
 unfold aS at_
 rw [show aj (cE s v) al 0 = _ from this]
 cases s.findIdx? (fun x => v == x) with
 | none => rfl
 | some i => simp
theorem LQ {names : List Str} (hn : names.length < 4611686018427387904) {l : List Tok} {d pl : Int} {a : Nat} {k} (hl : l.length < 4611686018427387904)
  (he : Ends (l.drop a)) (h2 : ∀ b : Nat, Ends (l.drop b) → (l.drop b).length < (l.drop a).length → Snd names l (line 1) d (l.drop b) pl (k (l, (b : Int), names, d, 0, pl))) :
  Snd names l (line 11) d (l.drop a) pl (eS k l (a : Int) names d 0 pl) := by
 obtain ⟨t, r1, hts⟩ := he.ne
 obtain ⟨ht, hd1, hlt⟩ := drop_cons hts
 have hw := g8 (n := a) (by omega)
 have hz : ((0 : Int) != 0) = false := rfl
 have hz' : ((0 : Int) == 0) = true := rfl
 have he1 := he
 rw [hts] at he1
 unfold eS
 have hio : ay ([13, 14] : List Int) l (a : Int) names d 0 pl = some (isR (bA 11 t)) := oG 11 ht names d 0 pl
 simp only [hz, cond_false, nO ht, ai, hio]
 cases ho : bA 11 t with
 | some o =>
  refine ⟨.ok (.mk o 0 t.2.2.2 [], r1), by rw [hts]; exact .oWord rfl ho, a + 1, hd1, ?_⟩
  simp only [isR, cond_true, hw]
 | none =>
  simp only [isR, cond_false]
  cases h2' : (t.1 == 2)
  ·simp only [cond_false, aH, D7]
   cases hnm : iR t
   ·have hgo : (ax (t.1 == 1) default (some (gn.contains t.2.1)) fun r32 => ab (!r32) fun b38 => ab ((t.1 == 1) && b38) fun b40 => (some b40 : Option Bool)) = some false := by
     unfold iR key at hnm
     cases h1 : (t.1 == 1)
     ·rfl
     ·rw [h1, Bool.true_and] at hnm; simp only [bZ, ai, aH, hnm, Bool.and_false]
    have hgo' : ∀ (f : Bool → Option R5), (ax (t.1 == 1) default (some (gn.contains t.2.1)) fun r32 => f ((t.1 == 1) && !r32)) = f false := by
     intro f
     unfold iR key at hnm
     cases h1 : (t.1 == 1)
     ·rfl
     ·rw [h1, Bool.true_and] at hnm; simp only [bZ, ai, hnm, Bool.and_false]
    rw [hgo' (fun b => bif b then _ else _)]
    simp only [cond_false]
    cases hop : open_ t
    ·have hop' : ((t.1 == 3) && (t.2.1 == [40])) = false := hop
     rw [hop']
     refine ⟨.error (2, t.2.2.2), by rw [hts]; exact .oForm rfl ho h2' hnm hop, .mk 0 0 0 [], a, hlt, ?_⟩
     simp only [cond_false, uM ht, ai]
    ·have hop' : ((t.1 == 3) && (t.2.1 == [40])) = true := hop
     rw [hop']
     simp only [cond_true, hw]
     have h4 : t.1 ≠ 4 := by unfold open_ at hop; simp only [Bool.and_eq_true, beq_iff_eq] at hop; omega
     obtain ⟨r2, hp2, hr2⟩ := h2 (a + 1) (by rw [hd1]; exact he1.tail h4) (by rw [hd1, hts]; simp)
     rw [hd1] at hp2
     cases r2 with
     | error e =>
      obtain ⟨x, k2, hk2, hm⟩ := hr2
      refine ⟨.error e, by rw [hts]; exact .oErr rfl ho h2' hnm hop hp2, x, k2, hk2, ?_⟩
      simp only [hm, ai, DW hp2, Bool.false_and, kT, cond_false]
     | ok p =>
      obtain ⟨x, ts2⟩ := p
      obtain ⟨k2, hk2, hm⟩ := hr2
      obtain ⟨i1, i2⟩ := hp2.ends (he1.tail h4) _ rfl
      obtain ⟨c, r3, rfl⟩ := i1.ne
      obtain ⟨hc, hd2, hlt2⟩ := drop_cons hk2
      simp only [hm, ai, hz', bZ, nO hc, Bool.true_and]
      have hw2 := g8 (n := k2) (by omega)
      cases hcl : close_ c
      ·refine ⟨.error (2, c.2.2.2), by rw [hts]; exact .oClose rfl ho h2' hnm hop hp2 hcl, .mk 0 0 0 [], k2, hlt2, ?_⟩
       unfold close_ at hcl
       cases h3 : (c.1 == 3)
       ·have : (c.1 != 3) = true := by simp [bne, h3]
        simp only [this, Bool.not_true, kT, Bool.true_or, cond_true, uM hc, ai]
       ·have : (c.1 != 3) = false := by simp [bne, h3]
        rw [h3, Bool.true_and] at hcl
        have h41 : (c.2.1 != [41]) = true := by simp [bne, hcl]
        simp only [this, Bool.not_false, bZ, ai, h41, Bool.or_true, cond_true, uM hc]
      ·refine ⟨.ok (x, r3), by rw [hts]; exact .oOpen rfl ho h2' hnm hop hp2 hcl, k2 + 1, hd2, ?_⟩
       unfold close_ at hcl
       simp only [Bool.and_eq_true] at hcl
       have h3 : (c.1 != 3) = false := by simp only [bne, hcl.1, Bool.not_true]
       have h41 : (c.2.1 != [41]) = false := by simp only [bne, hcl.2, Bool.not_true]
       simp only [h3, Bool.not_false, bZ, ai, h41, Bool.or_false, cond_false, cond_true, hw2]
   ·have hgo' : ∀ (f : Bool → Option R5), (ax (t.1 == 1) default (some (gn.contains t.2.1)) fun r32 => f ((t.1 == 1) && !r32)) = f true := by
     intro f
     unfold iR key at hnm
     simp only [Bool.and_eq_true] at hnm
     rw [hnm.1]
     simp only [bZ, ai, hnm.2, Bool.and_self]
    rw [hgo' (fun b => bif b then _ else _)]
    simp only [cond_true, nq hn, ai]
    cases hat : at_ names t.2.1 with
    | none =>
     refine ⟨.error (3, t.2.2.2), by rw [hts]; exact .oName rfl ho h2' hnm hat, .mk 0 0 0 [], a, hlt, ?_⟩
     simp only [show decide ((-1 : Int) < 0) = true from rfl, cond_true, uM ht, ai]
    | some i =>
     refine ⟨.ok (.mk 2 (i : Int) t.2.2.2 [], r1), by rw [hts]; exact .oVar rfl ho h2' hnm hat, a + 1, hd1, ?_⟩
     have : decide (((i : Nat) : Int) < 0) = false := by simp
     simp only [this, cond_false, hw]
  ·refine ⟨.ok (.mk 1 t.2.2.1 t.2.2.2 [], r1), by rw [hts]; exact .oNum rfl ho h2', a + 1, hd1, ?_⟩
   simp only [cond_true, hw]
end Pa
end Go.Proofs.YtdhgpnejphlfpaaGreatDoor
namespace Go.Proofs.YtdhgpnejphlfpaaGreatDoor
namespace Pa
open Job
section
variable (names : List Str) (l : List Tok) (N : Nat)
noncomputable def Gd (s : Nat) (n : Nat) (f : Int → Int → Int → Option R5) : Prop :=
 ∀ (a : Nat) (d pl : Int), 0 ≤ d → d ≤ 320 → Ends (l.drop a) → (l.drop a).length ≤ n → Snd names l (line s) d (l.drop a) pl (f (a : Int) d pl)
abbrev PF := (List Tok × Int × List Str × Int × Int × Int) → Option R5
noncomputable def Gk (s : Nat) (n : Nat) (k : PF) : Prop := Gd names l s n fun a d pl => k (l, a, names, d, 0, pl)
end
variable {names : List Str} {l : List Tok} {n : Nat}
theorem Gd.le {s m n : Nat} {f} (h : Gd names l s n f) (hm : m ≤ n) : Gd names l s m f := fun a d pl h0 h1 h2 h3 => h a d pl h0 h1 h2 (by omega)
theorem uV (a : Nat) : (l.drop a).length ≤ l.length := by simp
theorem Nu (hn : names.length < 4611686018427387904) (hl : l.length < 4611686018427387904) {k : PF} (hk : Gk names l 1 n k) : Gd names l 11 (n + 1) fun a d pl => eS k l a names d 0 pl :=
 fun a d pl h0 h1 h2 h3 => LQ hn hl h2 (fun b hb1 hb2 => hk b d pl h0 h1 hb1 (by omega))
theorem Jf {s : Nat} {F : PF → PF} (h : ∀ m k, m ≤ n → Gk names l s m k → Gk names l s (m + 1) (F k)) : ∀ m, m ≤ n + 1 → Gk names l s m (aj F m) := by
 intro m
 induction m with
 | zero =>
  intro _ a d pl _ _ h2 h3
  obtain ⟨t, r, hr⟩ := h2.ne
  rw [hr] at h3; simp at h3
 | succ m ih => intro hm; exact h m _ (by omega) (ih (by omega))
theorem vl {s : Nat} {F : PF → PF} (hl : l.length < 4611686018427387904) (h : ∀ m k, m ≤ n → Gk names l s m k → Gk names l s (m + 1) (F k)) : Gk names l s (n + 1) (aj F al) := by
 by_cases hf : al ≤ n + 1
 ·intro a d pl h0 h1 h2 h3
  have := uV (l := l) a
  exact Jf (n := n) h al hf a d pl h0 h1 h2 (by show _ ≤ 2 ^ 64; omega)
 ·-- a fuel beyond the length: the length alone counts
  intro a d pl h0 h1 h2 h3
  have : ∀ m, n + 1 ≤ m → Gk names l s (n + 1) (aj F m) := by
   intro m
   induction m with
   | zero => intro hm; omega
   | succ m ih =>
    intro hm
    by_cases he : n + 1 ≤ m
    ·exact h n _ (Nat.le_refl _) ((ih he).le (by omega))
    ·exact Jf (n := n) h (m + 1) (by omega) |>.le (by omega)
  exact this al (by omega) a d pl h0 h1 h2 h3
theorem LA (hn : names.length < 4611686018427387904) (hl : l.length < 4611686018427387904) {k : PF} (hk : Gk names l 1 n k) : Gd names l 10 (n + 1) fun a d pl => bT k l a names d 0 pl := by
 have hF : ∀ m k5, m ≤ n → Gk names l 10 m k5 → Gk names l 10 (m + 1) (fun s => kb k k5 s.1 s.2.1 s.2.2.1 s.2.2.2.1 s.2.2.2.2.1 s.2.2.2.2.2) := by
  intro m k5 hm h5 a d pl h0 h1 h2 h3
  have hg : ∀ D, eW k k5 l a names D 0 pl = pC names l (ops 10) a D 0 pl (eS k l a names D 0 pl) (fun a d b p => k5 (l, a, names, d, b, p)) := fun D => by
   unfold eW; rw [fq]; rfl
  show Snd names l (line 10) d (l.drop a) pl (sP names l a d 0 pl (fun D => eW k k5 l a names D 0 pl))
  refine qb rfl h0 h1 h2 (fun hd => ?_)
  show x7 names l 10 (d + 1) (l.drop a) pl (eW k k5 l a names (d + 1) 0 pl)
  rw [hg]
  exact zV rfl hl h2 (Nu hn hl hk a (d + 1) pl (by omega) (by omega) h2 (by omega)) (fun b hb1 hb2 => h5 b (d + 1) pl (by omega) (by omega) hb1 (by omega))
 intro a d pl h0 h1 h2 h3
 show Snd names l (line 10) d (l.drop a) pl (bT k l a names d 0 pl)
 unfold bT
 rw [fq]
 exact vl (n := n) hl hF a d pl h0 h1 h2 h3
theorem Gc (hn : names.length < 4611686018427387904) (hl : l.length < 4611686018427387904) {k : PF} (hk : Gk names l 1 n k) : Gd names l 9 (n + 1) fun a d pl => cg k l a names d 0 pl := by
 intro a d pl h0 h1 h2 h3
 have hg : cg k l a names d 0 pl = ym names l (ops 9) (bT k l a names d 0 pl) (fun a d b p => bT k l a names d b p) := by
  unfold cg; rw [fq]; rfl
 show Snd names l (line 9) d (l.drop a) pl (cg k l a names d 0 pl)
 rw [hg]
 exact vr rfl hl h2 (uV a) (LA hn hl hk a d pl h0 h1 h2 h3) (fun b hb1 hb2 => LA hn hl hk b d pl h0 h1 hb1 (by omega))
theorem IU (hn : names.length < 4611686018427387904) (hl : l.length < 4611686018427387904) {k : PF} (hk : Gk names l 1 n k) : Gd names l 8 (n + 1) fun a d pl => b0 k l a names d 0 pl := by
 intro a d pl h0 h1 h2 h3
 have hg : b0 k l a names d 0 pl = ym names l (ops 8) (cg k l a names d 0 pl) (fun a d b p => cg k l a names d b p) := by
  unfold b0; rw [fq]; rfl
 show Snd names l (line 8) d (l.drop a) pl (b0 k l a names d 0 pl)
 rw [hg]
 exact vr rfl hl h2 (uV a) (Gc hn hl hk a d pl h0 h1 h2 h3) (fun b hb1 hb2 => Gc hn hl hk b d pl h0 h1 hb1 (by omega))
theorem NM (hn : names.length < 4611686018427387904) (hl : l.length < 4611686018427387904) {k : PF} (hk : Gk names l 1 n k) : Gd names l 7 (n + 1) fun a d pl => eZ k l a names d 0 pl := by
 intro a d pl h0 h1 h2 h3
 have hg : eZ k l a names d 0 pl = oI names l (ops 7) (b0 k l a names d 0 pl) (fun a d b p => b0 k l a names d b p) := rfl
 show Snd names l (line 7) d (l.drop a) pl (eZ k l a names d 0 pl)
 rw [hg]
 obtain ⟨r, hp, hr⟩ := tN (s := 7) (whole := fun a d b p => b0 k l a names d b p) rfl hl h2 (IU hn hl hk a d pl h0 h1 h2 h3) (fun b hb1 hb2 => IU hn hl hk b d pl h0 h1 hb1 (by omega))
 exact ⟨r, hp d rfl rfl, hr⟩
theorem Oy (hn : names.length < 4611686018427387904) (hl : l.length < 4611686018427387904) {k : PF} (hk : Gk names l 1 n k) : Gd names l 6 (n + 1) fun a d pl => dz k l a names d 0 pl := by
 have hF : ∀ m k5, m ≤ n → Gk names l 6 m k5 → Gk names l 6 (m + 1) (fun s => kg k k5 s.1 s.2.1 s.2.2.1 s.2.2.2.1 s.2.2.2.2.1 s.2.2.2.2.2) := by
  intro m k5 hm h5 a d pl h0 h1 h2 h3
  have hg : ∀ D, eX k k5 l a names D 0 pl = pC names l (ops 6) a D 0 pl (eZ k l a names D 0 pl) (fun a d b p => k5 (l, a, names, d, b, p)) := fun D => by
   unfold eX; rw [fq]; rfl
  show Snd names l (line 6) d (l.drop a) pl (sP names l a d 0 pl (fun D => eX k k5 l a names D 0 pl))
  refine qb rfl h0 h1 h2 (fun hd => ?_)
  show x7 names l 6 (d + 1) (l.drop a) pl (eX k k5 l a names (d + 1) 0 pl)
  rw [hg]
  exact zV rfl hl h2 (NM hn hl hk a (d + 1) pl (by omega) (by omega) h2 (by omega)) (fun b hb1 hb2 => h5 b (d + 1) pl (by omega) (by omega) hb1 (by omega))
 intro a d pl h0 h1 h2 h3
 show Snd names l (line 6) d (l.drop a) pl (dz k l a names d 0 pl)
 unfold dz
 rw [fq]
 exact vl (n := n) hl hF a d pl h0 h1 h2 h3
theorem Lq (hn : names.length < 4611686018427387904) (hl : l.length < 4611686018427387904) {k : PF} (hk : Gk names l 1 n k) : Gd names l 5 (n + 1) fun a d pl => bw k l a names d 0 pl := by
 have hF : ∀ m k5, m ≤ n → Gk names l 5 m k5 → Gk names l 5 (m + 1) (fun s => jX k k5 s.1 s.2.1 s.2.2.1 s.2.2.2.1 s.2.2.2.2.1 s.2.2.2.2.2) := by
  intro m k5 hm h5 a d pl h0 h1 h2 h3
  have hg : ∀ D, dV k k5 l a names D 0 pl = oI names l (ops 5) (dz k l a names D 0 pl) (fun a d b p => k5 (l, a, names, d, b, p)) := fun D => by
   unfold dV; rw [fq]; rfl
  show Snd names l (line 5) d (l.drop a) pl (sP names l a d 0 pl (fun D => dV k k5 l a names D 0 pl))
  refine qb rfl h0 h1 h2 (fun hd => ?_)
  show x7 names l 5 (d + 1) (l.drop a) pl (dV k k5 l a names (d + 1) 0 pl)
  rw [hg]
  exact tN rfl hl h2 (Oy hn hl hk a (d + 1) pl (by omega) (by omega) h2 (by omega)) (fun b hb1 hb2 => h5 b (d + 1) pl (by omega) (by omega) hb1 (by omega))
 intro a d pl h0 h1 h2 h3
 show Snd names l (line 5) d (l.drop a) pl (bw k l a names d 0 pl)
 unfold bw
 rw [fq]
 exact vl (n := n) hl hF a d pl h0 h1 h2 h3
theorem IB (hn : names.length < 4611686018427387904) (hl : l.length < 4611686018427387904) {k : PF} (hk : Gk names l 1 n k) : Gd names l 4 (n + 1) fun a d pl => cH k l a names d 0 pl := by
 intro a d pl h0 h1 h2 h3
 have hg : cH k l a names d 0 pl = ym names l (ops 4) (bw k l a names d 0 pl) (fun a d b p => bw k l a names d b p) := by
  unfold cH; rw [fq]; rfl
 show Snd names l (line 4) d (l.drop a) pl (cH k l a names d 0 pl)
 rw [hg]
 exact vr rfl hl h2 (uV a) (Lq hn hl hk a d pl h0 h1 h2 h3) (fun b hb1 hb2 => Lq hn hl hk b d pl h0 h1 hb1 (by omega))
theorem OJ (hn : names.length < 4611686018427387904) (hl : l.length < 4611686018427387904) {k : PF} (hk : Gk names l 1 n k) : Gd names l 3 (n + 1) fun a d pl => eD k l a names d 0 pl := by
 intro a d pl h0 h1 h2 h3
 have hg : eD k l a names d 0 pl = ym names l (ops 3) (cH k l a names d 0 pl) (fun a d b p => cH k l a names d b p) := by
  unfold eD; rw [fq]; rfl
 show Snd names l (line 3) d (l.drop a) pl (eD k l a names d 0 pl)
 rw [hg]
 exact vr rfl hl h2 (uV a) (IB hn hl hk a d pl h0 h1 h2 h3) (fun b hb1 hb2 => IB hn hl hk b d pl h0 h1 hb1 (by omega))
theorem Om (hn : names.length < 4611686018427387904) (hl : l.length < 4611686018427387904) {k : PF} (hk : Gk names l 1 n k) : Gd names l 2 (n + 1) fun a d pl => dv k l a names d 0 pl := by
 have hF : ∀ m k5, m ≤ n → Gk names l 2 m k5 → Gk names l 2 (m + 1) (fun s => j2 k k5 s.1 s.2.1 s.2.2.1 s.2.2.2.1 s.2.2.2.2.1 s.2.2.2.2.2) := by
  intro m k5 hm h5 a d pl h0 h1 h2 h3
  have hg : ∀ D, eU k k5 l a names D 0 pl = oI names l (ops 2) (eD k l a names D 0 pl) (fun a d b p => k5 (l, a, names, d, b, p)) := fun D => by
   unfold eU; rw [fq]; rfl
  show Snd names l (line 2) d (l.drop a) pl (sP names l a d 0 pl (fun D => eU k k5 l a names D 0 pl))
  refine qb rfl h0 h1 h2 (fun hd => ?_)
  show x7 names l 2 (d + 1) (l.drop a) pl (eU k k5 l a names (d + 1) 0 pl)
  rw [hg]
  exact tN rfl hl h2 (OJ hn hl hk a (d + 1) pl (by omega) (by omega) h2 (by omega)) (fun b hb1 hb2 => h5 b (d + 1) pl (by omega) (by omega) hb1 (by omega))
 intro a d pl h0 h1 h2 h3
 show Snd names l (line 2) d (l.drop a) pl (dv k l a names d 0 pl)
 unfold dv
 rw [fq]
 exact vl (n := n) hl hF a d pl h0 h1 h2 h3
theorem O1 (hn : names.length < 4611686018427387904) (hl : l.length < 4611686018427387904) {k : PF} (hk : Gk names l 1 n k) : Gk names l 1 (n + 1) (fun s => gW k s.1 s.2.1 s.2.2.1 s.2.2.2.1 s.2.2.2.2.1 s.2.2.2.2.2) := by
 intro a d pl h0 h1 h2 h3
 have hg : ∀ D, eY k l a names D 0 pl = oI names l (ops 1) (dv k l a names D 0 pl) (fun a d b p => k (l, a, names, d, b, p)) := fun D => by
  unfold eY; rw [fq]; rfl
 show Snd names l (line 1) d (l.drop a) pl (sP names l a d 0 pl (fun D => eY k l a names D 0 pl))
 refine qb rfl h0 h1 h2 (fun hd => ?_)
 show x7 names l 1 (d + 1) (l.drop a) pl (eY k l a names (d + 1) 0 pl)
 rw [hg]
 exact tN rfl hl h2 (Om hn hl hk a (d + 1) pl (by omega) (by omega) h2 (by omega)) (fun b hb1 hb2 => hk b (d + 1) pl (by omega) (by omega) hb1 (by omega))
theorem Jg (hn : names.length < 4611686018427387904) (hl : l.length < 4611686018427387904) {a : Nat} {d pl : Int} (h0 : 0 ≤ d) (h1 : d ≤ 320) (he : Ends (l.drop a)) :
  Snd names l (line 1) d (l.drop a) pl (iP l (a : Int) names d 0 pl) := by
 have := vl (names := names) (l := l) (n := l.length) (s := 1) (F := fun k s => gW k s.1 s.2.1 s.2.2.1 s.2.2.2.1 s.2.2.2.2.1 s.2.2.2.2.2) hl (fun m k _ hk => O1 hn hl hk)
 exact this a d pl h0 h1 he (by have := uV (l := l) a; omega)
noncomputable def told (l : List Tok) : Out → Ex × Int × Int × Int
 | .ok p => (p.1, ((l.length - p.2.length : Nat) : Int), 0, 0)
 | .error e => (.mk 0 0 0 [], 0, e.1, e.2)
theorem vn (hn : names.length < 4611686018427387904) (hl : l.length < 4611686018427387904) {a : Nat} (he : Ends (l.drop a)) : ∃ r, P names (line 1) 0 (l.drop a) r ∧ kZ l (a : Int) names = some (told l r) := by
 obtain ⟨r, hp, hr⟩ := Jg (pl := 0) hn hl (Int.le_refl 0) (by omega) he
 refine ⟨r, hp, ?_⟩
 unfold kZ
 cases r with
 | error e =>
  obtain ⟨x, k, hk, hm⟩ := hr
  rw [hm]
  simp only [ai, xP hp, cond_true]
  rfl
 | ok p =>
  obtain ⟨k, hk, hm⟩ := hr
  obtain ⟨e1, e2⟩ := hp.ends he _ rfl
  rw [hm]
  obtain ⟨t, r1, hts⟩ := e1.ne
  have hlt := (drop_cons (hk.trans hts)).2.2
  simp only [ai, show ((0 : Int) != 0) = false from rfl, cond_false, told]
  rw [← hk, List.length_drop, show l.length - (l.length - k) = k by omega]
end Pa
end Go.Proofs.YtdhgpnejphlfpaaGreatDoor
namespace Go.Proofs.YtdhgpnejphlfpaaGreatDoor
namespace Sy
open Pa
noncomputable def Er {α : Type} (x : Except Err α) : Prop := ∀ e, x = .error e → e.1 ≠ 0
theorem Er.ok {α : Type} {a : α} : Er (.ok a : Except Err α) := fun e h => by cases h
theorem Er.lit {α : Type} {e : Err} (h : e.1 ≠ 0) : Er (.error e : Except Err α) := fun e' he => by cases he; exact h
theorem Er.bif {α : Type} {c : Bool} {a b : Except Err α} (ha : c = true → Er a) (hb : c = false → Er b) : Er (bif c then a else b) := by cases c; exact hb rfl; exact ha rfl
theorem Er.of {α : Type} {x : Except Err α} (h : Er x) {e : Err} (he : x = .error e) {β : Type} : Er (.error e : Except Err β) := .lit (h e he)
end Sy
end Go.Proofs.YtdhgpnejphlfpaaGreatDoor
namespace Go.Proofs.YtdhgpnejphlfpaaGreatDoor
theorem yb (k : Ex → Option (Int × Int × Int)) (e : Ex) (hk : ∀ x ∈ e.l, k x = some (ty x)) (hl : e.l.length < 4611686018427387904) :
  ∀ (r pre : List Ex), e.l = pre ++ r → ∀ (M : Nat) (i b t : Bool), r.length < M → aj (kc k e) M (i, b, t, (pre.length : Int)) = some (tyA e.op e.at_ r i b t)
 | [], pre, h, M, i, b, t, hM => by
  obtain ⟨m, rfl⟩ : ∃ m, M = m + 1 := ⟨M - 1, by simp at hM; omega⟩
  rw [ar]
  simp only [kc, Jw h, cond_false, aH, sr, tyA, qU]
  generalize decide (e.op ≤ 6) = c1
  generalize decide (6 < e.op) = c2
  generalize decide (e.op ≤ 12) = c3
  generalize (e.op == 13) = c4
  generalize (e.op == 14) = c5
  generalize decide (15 ≤ e.op) = c6
  generalize decide (e.op ≤ 19) = c7
  cases c1 <;> cases i <;> cases c2 <;> cases c3 <;> cases c4 <;> cases c5 <;> cases c6 <;> cases c7 <;> cases b <;> cases t <;> rfl
 | x :: r, pre, h, M, i, b, t, hM => by
  obtain ⟨m, rfl⟩ : ∃ m, M = m + 1 := ⟨M - 1, by omega⟩
  rw [ar]
  have hx : k x = some (ty x) := hk x (by rw [h]; simp)
  have hlen : pre.length < 4611686018427387904 := by rw [h] at hl; simp at hl; omega
  have ih := yb k e hk hl r (pre ++ [x]) (by rw [h]; simp) m (i && (ty x).1 == 1) (b && (ty x).1 == 2) (t && (ty x).1 != 1) (by simp at hM; omega)
  rw [show ((pre ++ [x]).length : Int) = ((pre.length + 1 : Nat) : Int) by simp] at ih
  simp only [kc, K0 h, cond_true, yt h, ai, hx, aH, g8 hlen, tyA]
  cases (ty x).2.1 != 0
  ·exact ih
  ·rfl
theorem Iu : ∀ (N : Nat) (e : Ex), e.sz ≤ N → e.sz < 4611686018427387904 → aj (fun k s => mU k s) N e = some (ty e) := by
 intro N
 induction N with
 | zero => intro e h; have := qg e; omega
 | succ N ih =>
  intro e h hb
  rw [ar]
  show aj (kc _ e) al (true, true, true, 0) = _
  have hl := rX e
  have := yb (aj (fun k s => mU k s) N) e (fun x hx => ih x (by have := nb hx; omega) (by have := nb hx; omega)) (by omega) e.l [] rfl al true true true (by show e.l.length < 2 ^ 64; omega)
  rw [CA]
  exact this
theorem Mh (e : Ex) (h : e.sz < 4611686018427387904) : nV e = some (ty e) := Iu al e (by show e.sz ≤ 2 ^ 64; omega) h
end Go.Proofs.YtdhgpnejphlfpaaGreatDoor
namespace Go.Proofs.YtdhgpnejphlfpaaGreatDoor
namespace Mo
open Pa Sy
theorem km {E A B : Type} (e : E) (k : A → Option (Except E B)) : cr (some (.error e)) k = some (.error e) := rfl
theorem fG {E A B : Type} (x : A) (k : A → Option (Except E B)) : cr (some (.ok x) : Option (Except E A)) k = k x := rfl
noncomputable def Rd {α β : Type} (l : List Tok) (s : Except Err (α × List Tok)) (f : α → Int → β) (m : Option (Except Err β)) : Prop := match s with
 | .error e => m = some (.error e)
 | .ok p => ∃ k : Nat, m = some (.ok (f p.1 (k : Int))) ∧ l.drop k = p.2
noncomputable def RdS (l : List Tok) (s : Except Err (List Tok)) (m : Option (Except Err Int)) : Prop := match s with
 | .error e => m = some (.error e)
 | .ok r => ∃ k : Nat, m = some (.ok (k : Int)) ∧ l.drop k = r
theorem rR {l a b : List Tok} {i k : Nat} (hi : l.drop i = a) (hk : l.drop k = b) (h : b.length < a.length) : i < k := by
 subst hi; subst hk
 simp only [List.length_drop] at h
 omega
section
variable {l : List Tok} {k : Nat} {t : Tok} {r : List Tok} (N : List Str) (S_ : List (Int × Int)) (I : List Int) (Q : List Str) (C : List Cmd)
theorem sF (h : l.drop k = t :: r) : cD l (k : Int) N S_ I Q C = some t := by
 unfold cD
 rw [(dm h).1]; rfl
theorem Bb (h : l.drop k = t :: r) (kd : Int) (x : Str) : dY kd x l (k : Int) N S_ I Q C = some (isT kd x t) := by
 unfold dY
 rw [sF N S_ I Q C h, ai, aH]
 unfold isT
 cases (t.1 == kd)
 ·rfl
 ·rw [bZ, ai]; rfl
theorem mf (h : l.drop k = t :: r) (e : Int) : aY e l (k : Int) N S_ I Q C = some (.error (e, t.2.2.2)) := by
 unfold aY
 rw [sF N S_ I Q C h]; rfl
theorem uJ {names : List Str} {v : Str} : at_ names v = none ↔ names.contains v = false := by
 unfold at_
 rw [List.findIdx?_eq_none_iff]
 constructor
 ·intro h
  cases hc : names.contains v
  ·rfl
  ·have := h v (by simpa using hc)
   simp at this
 ·intro h x hx
  rw [Bool.eq_false_iff]
  intro e
  have : v = x := by simpa using e
  subst this
  have h2 : names.contains v = true := by simpa using hx
  rw [h] at h2; cases h2
theorem Ag {names : List Str} (hn : names.length < 4611686018427387904) (v : Str) : cF names v = some (names.contains v) := by
 unfold cF
 rw [nq hn, ai]
 cases ha : at_ names v with
 | none => rw [uJ.1 ha]; rfl
 | some i =>
  have : names.contains v = true := by
   cases hc : names.contains v
   ·rw [uJ.2 hc] at ha; cases ha
   ·rfl
  rw [this]
  simp
theorem M4 (hN : N.length < 4611686018427387904) (hQ : Q.length < 4611686018427387904) (v : Str) : kC v l (k : Int) N S_ I Q C = some (N.contains v || Q.contains v) := by
 unfold kC
 rw [Ag hN, ai, Ag hQ]
 cases N.contains v <;> rfl
theorem Is (he : Pa.Ends (l.drop k)) (hk : l.length < 4611686018427387904) (hN : N.length < 4611686018427387904) (hQ : Q.length < 4611686018427387904) (full : Bool) :
  Rd l (cW full N Q (l.drop k)) (fun x k => (x, k)) (fy full l (k : Int) N S_ I Q C) := by
 obtain ⟨t, r, ht⟩ := he.ne
 have hd := dm ht
 unfold fy
 rw [sF N S_ I Q C ht, ai, ht]
 simp only [cW]
 cases h1 : (t.1 != 1)
 ·simp only [cond_false]
  simp only [aH]
  rw [D7, ai, M4 N S_ I Q C hN hQ]
  unfold Pa.key
  cases h2 : gn.contains t.2.1
  ·simp only [Bool.not_false, bZ, ai, Bool.false_or]
   cases h3 : (N.contains t.2.1 || Q.contains t.2.1)
   ·simp only [cond_false]
    cases full
    ·exact ⟨k + 1, by simp only [cond_false, qc, cI (show k < 4611686018427387904 by omega)], hd.2.1⟩
    ·simp only [cond_true, mf N S_ I Q C ht, km]; rfl
   ·simp only [cond_true, mf N S_ I Q C ht, km]; rfl
  ·simp only [Bool.not_true, kT, Bool.true_or, cond_true, mf N S_ I Q C ht, km]; rfl
 ·simp only [cond_true, mf N S_ I Q C ht, km]; rfl
theorem x3 (he : Pa.Ends (l.drop k)) (hk : l.length < 4611686018427387904) (x : Str) : RdS l (aA x (l.drop k)) (bm x l (k : Int) N S_ I Q C) := by
 obtain ⟨t, r, ht⟩ := he.ne
 have hd := dm ht
 unfold bm
 simp only [aH]
 rw [Bb N S_ I Q C ht, ai, ht]
 simp only [aA]
 cases h1 : isT 3 x t
 ·simp only [Bool.not_false, cond_true, cond_false, mf N S_ I Q C ht, km]; rfl
 ·exact ⟨k + 1, by simp only [Bool.not_true, cond_false, ql, cI (show k < 4611686018427387904 by omega)], hd.2.1⟩
theorem BH (he : Pa.Ends (l.drop k)) (hk : l.length < 4611686018427387904) (neg : Bool) : Rd l (lB neg (l.drop k)) (fun x k => (x, k)) (kL l N S_ I Q C neg (k : Int)) := by
 obtain ⟨t, r, ht⟩ := he.ne
 have hd := dm ht
 unfold kL
 rw [sF N S_ I Q C ht, ai, ht]
 simp only [lB]
 cases h1 : (t.1 != 2)
 ·refine ⟨k + 1, ?_, hd.2.1⟩
  simp only [cond_false, oU, cI (show k < 4611686018427387904 by omega)]
  cases neg <;> rfl
 ·simp only [cond_true, mf N S_ I Q C ht, km]; rfl
theorem zB (he : Pa.Ends (l.drop k)) (hk : l.length < 4611686018427387904) : Rd l (dw (l.drop k)) (fun x k => (x, k)) (cY l (k : Int) N S_ I Q C) := by
 obtain ⟨t, r, ht⟩ := he.ne
 have hd := dm ht
 unfold cY dw
 rw [Bb N S_ I Q C ht, ai]
 have hh : isH 3 [45] (l.drop k) = isT 3 [45] t := by rw [ht]; rfl
 rw [hh]
 cases h1 : isT 3 [45] t
 ·exact BH N S_ I Q C he hk false
 ·simp only [cond_true, cI (show k < 4611686018427387904 by omega)]
  have e1 : (l.drop k).tail = l.drop (k + 1) := by rw [ht, hd.2.1]; rfl
  rw [e1]
  refine BH (k := k + 1) N S_ I Q C ?_ hk true
  rw [hd.2.1]
  rw [ht] at he
  exact he.tail (xQ h1 (by decide))
end
end Mo
end Go.Proofs.YtdhgpnejphlfpaaGreatDoor
namespace Go.Proofs.YtdhgpnejphlfpaaGreatDoor
namespace Mo
open Pa Sy
theorem AZ (e : Ex) : lK e = mU nV e := rfl
theorem vY (e : Ex) (h : e.sz < 4611686018427387904) : lK e = some (rt e) := by
 rw [AZ, ← Hv e.sz e (Nat.le_refl _)]
 have hl := rX e
 show aj (kc _ e) al (true, true, true, 0) = _
 have := yb nV e (fun x hx => Mh x (by have := nb hx; omega)) (by omega) e.l [] rfl al true true true (by show e.l.length < 2 ^ 64; omega)
 rw [CA]
 exact this
section
variable {l : List Tok} {k : Nat} (N : List Str) (S_ : List (Int × Int)) (I : List Int) (Q : List Str) (C : List Cmd)
theorem x4 (he : Pa.Ends (l.drop k)) (hk : l.length < 1099511627776) (hN : N.length < 4611686018427387904) (want : Int) :
  Rd l (ct want N (l.drop k)) (fun x k => (x, k)) (bY want l (k : Int) N S_ I Q C) := by
 obtain ⟨r, hP, hm⟩ := Pa.vn (names := N) (l := l) hN (by omega) he
 unfold bY ct
 simp only [aH]
 rw [hm, ai, CO hP]
 cases r with
 | error e =>
  have h0 : (e.1 != 0) = true := by
   rcases hP.err e rfl with h | h | h <;> rw [h] <;> rfl
  simp only [told, h0, cond_true]
  rfl
 | ok p =>
  have hsz := hP.size p rfl
  have hsuf := hP.suf p rfl
  have hjz : szJ (Job.line 1) = 0 := rfl
  rw [hjz] at hsz
  have hdl : (l.drop k).length ≤ l.length := by simp
  simp only [told, show ((0 : Int) != 0) = false from rfl, cond_false, ma, aH]
  rw [vY p.1 (by omega), ai]
  cases h1 : ((rt p.1).2.1 != 0)
  ·simp only [cond_false, mh, aH]
   cases h2 : ((rt p.1).1 != want)
   ·simp only [cond_false, me]
    refine ⟨l.length - p.2.length, rfl, ?_⟩
    obtain ⟨pre, hpre⟩ := hsuf.trans (List.drop_suffix k l)
    have hlen : l.length = pre.length + p.2.length := by rw [← hpre, List.length_append]
    rw [show l.length - p.2.length = pre.length by omega, ← hpre, List.drop_left]
   ·rfl
  ·rfl
theorem HV {names : List Str} (hn : names.length < 4611686018427387904) (v : Str) : aS names v = some (bD names v) := by
 refine (nq hn v).trans ?_
 unfold bD
 cases at_ names v <;> rfl
/-! assignments -/
theorem C9 (s : List (Int × Ex)) (c : Int) (hs : s.length < 4611686018427387904) : ∀ (r pre : List (Int × Ex)), s = pre ++ r → ∀ M, r.length < M →
  ∃ z, aj (bL s c) M (pre.length : Int) = some z ∧ decide (0 ≤ z) = r.any (fun x => x.1 == c)
 | [], pre, h, M, hM => by
  obtain ⟨m, rfl⟩ : ∃ m, M = m + 1 := ⟨M - 1, by simp at hM; omega⟩
  rw [ar]
  simp only [bL, Sy.CM h, cond_false]
  exact ⟨_, rfl, rfl⟩
 | x :: r, pre, h, M, hM => by
  obtain ⟨m, rfl⟩ : ∃ m, M = m + 1 := ⟨M - 1, by omega⟩
  rw [ar]
  have hlen : pre.length + r.length + 1 = s.length := by rw [h]; simp; omega
  obtain ⟨z, hz, hd⟩ := C9 s c hs r (pre ++ [x]) (by rw [h]; simp) m (by simp at hM; omega)
  rw [show ((pre ++ [x]).length : Int) = ((pre.length + 1 : Nat) : Int) by simp] at hz
  simp only [bL, Sy.yp h, cond_true, Sy.mid h, ai, fF, Pa.cI (show pre.length < 4611686018427387904 by omega), List.any_cons]
  cases hv : (x.1 == c)
  ·simp only [cond_false, Bool.false_or]
   exact ⟨z, hz, hd⟩
  ·simp only [cond_true, Bool.true_or]
   exact ⟨_, rfl, by simp⟩
theorem M6 {s : List (Int × Ex)} (hs : s.length < 4611686018427387904) (c : Int) : bM s c = some (jq s c) := by
 obtain ⟨z, hz, hd⟩ := C9 s c hs s [] rfl al (by show _ < 2 ^ 64; omega)
 unfold bM ed
 rw [show aj (bL s c) al 0 = some z from hz, ai, hd]
 rfl
noncomputable def ud (names : List Str) (acc : List (Int × Ex)) (ts : List Tok) : Except Err ((Int × Ex) × List Tok) := match ts with
 | [] => .error (2, 0)
 | t :: r => bif t.1 != 1 then .error (2, t.2.2.2) else bif decide (bD names t.2.1 < 0) || jq acc (bD names t.2.1) then .error (3, t.2.2.2) else
  match aA [61] r with
  | .error e => .error e
  | .ok r1 => match ct 1 names r1 with
   | .error e => .error e
   | .ok (x, r2) => .ok ((bD names t.2.1, x), r2)
theorem xH (names : List Str) (f : Nat) (acc : List (Int × Ex)) (ts : List Tok) : cZ names (f + 1) acc ts = match ud names acc ts with
  | .error e => .error e
  | .ok (s, r2) => bif isH 3 [44] r2 then cZ names f (acc ++ [s]) r2.tail else .ok (acc ++ [s], r2) := by
 cases ts with
 | nil => rfl
 | cons t r =>
  simp only [cZ, ud]
  cases (t.1 != 1)
  ·simp only [cond_false]
   cases (decide (bD names t.2.1 < 0) || jq acc (bD names t.2.1))
   ·simp only [cond_false]
    cases aA [61] r with
    | error e => rfl
    | ok r1 =>
     simp only
     cases ct 1 names r1 with
     | error e => rfl
     | ok p => rfl
   ·rfl
  ·rfl
theorem MS {names : List Str} {acc : List (Int × Ex)} {ts : List Tok} {p : (Int × Ex) × List Tok} (he : Pa.Ends ts) (h : ud names acc ts = .ok p) : cC ts p.2 := by
 obtain ⟨t, r, rfl⟩ := he.ne
 simp only [ud] at h
 cases h1 : (t.1 != 1)
 ·rw [h1] at h
  simp only [cond_false] at h
  have hr : Pa.Ends r := he.tail (by simp at h1; omega)
  cases h2 : (decide (bD names t.2.1 < 0) || jq acc (bD names t.2.1))
  ·rw [h2] at h
   simp only [cond_false] at h
   cases h3 : aA [61] r with
   | error e => rw [h3] at h; cases h
   | ok r1 =>
    rw [h3] at h
    simp only at h
    have k1 := dW hr h3
    cases h4 : ct 1 names r1 with
    | error e => rw [h4] at h; cases h
    | ok q =>
     rw [h4] at h
     cases h
     have k2 := (jz k1.1 h4).1
     exact ⟨k2.1, by have := k1.2; have := k2.2; simp only [List.length_cons] at *; omega⟩
  ·rw [h2] at h; cases h
 ·rw [h1] at h; cases h
theorem Em (he : Pa.Ends (l.drop k)) (hk : l.length < 1099511627776) (hN : N.length < 1099511627776) {acc : List (Int × Ex)} (ha : acc.length < 1099511627776) :
  Rd l (ud N acc (l.drop k)) (fun x k => (x, k)) (dc acc l (k : Int) N S_ I Q C) := by
 obtain ⟨t, r, ht⟩ := he.ne
 have hd := dm ht
 unfold dc
 rw [sF N S_ I Q C ht, ai]
 have hr : t.1 ≠ 4 → Pa.Ends (l.drop (k + 1)) := fun h => by
  rw [hd.2.1]
  rw [ht] at he
  exact he.tail h
 rw [ht]
 simp only [ud]
 cases h1 : (t.1 != 1)
 ·simp only [cond_false, ku, aH]
  have h14 : t.1 = 1 := by simpa using h1
  rw [HV (by omega), ai, M6 (by omega)]
  have hg : (ax (!decide (bD N t.2.1 < 0)) default (some (jq acc (bD N t.2.1))) fun r44 => bif (decide (bD N t.2.1 < 0) || r44) then cr (aY 3 l (k : Int) N S_ I Q C) fun r53 => r53.elim else eC l (k : Int) N S_ I Q C (bD N t.2.1)) =
    bif (decide (bD N t.2.1 < 0) || jq acc (bD N t.2.1)) then cr (aY 3 l (k : Int) N S_ I Q C) fun r53 => r53.elim else eC l (k : Int) N S_ I Q C (bD N t.2.1) := by
   cases decide (bD N t.2.1 < 0) <;> rfl
  rw [hg]
  cases h2 : (decide (bD N t.2.1 < 0) || jq acc (bD N t.2.1))
  ·simp only [cond_false, eC, cI (show k < 4611686018427387904 by omega)]
   have hs := x3 N S_ I Q C (l := l) (k := k + 1) (hr (by omega)) (by omega) [61]
   rw [hd.2.1] at hs
   cases h3 : aA [61] r with
   | error e =>
    rw [h3] at hs
    rw [show bm [61] l ((k + 1 : Nat) : Int) N S_ I Q C = some (.error e) from hs]
    rfl
   | ok r1 =>
    rw [h3] at hs
    obtain ⟨k1, hm1, hd1⟩ := hs
    have hr1 := (dW (by rw [← hd.2.1]; exact hr (by omega)) h3).1
    rw [hm1, fG]
    have hx := x4 N S_ I Q C (l := l) (k := k1) (by rw [hd1]; exact hr1) hk (by omega) 1
    rw [hd1] at hx
    simp only
    cases h4 : ct 1 N r1 with
    | error e =>
     rw [h4] at hx
     rw [show bY 1 l (k1 : Int) N S_ I Q C = some (.error e) from hx]
     rfl
    | ok p =>
     rw [h4] at hx
     obtain ⟨k2, hm2, hd2⟩ := hx
     rw [hm2, fG]
     exact ⟨k2, rfl, hd2⟩
  ·simp only [cond_true, mf N S_ I Q C ht, km]; rfl
 ·simp only [cond_true, mf N S_ I Q C ht, km]; rfl
end
end Mo
end Go.Proofs.YtdhgpnejphlfpaaGreatDoor
namespace Go.Proofs.YtdhgpnejphlfpaaGreatDoor
namespace Mo
open Pa Sy
open Lx (strip)
noncomputable def DI (s : Int × Ex) : Int × Ex := (s.1, mp 0 s.2)
noncomputable def Gj (c : Cmd) : Cmd := (c.1, mp 0 c.2.1, c.2.2.map DI)
noncomputable def eqM (m n : Mdl) : Prop := n.1 = m.1 ∧ n.2.1 = m.2.1 ∧ n.2.2.1 = m.2.2.1 ∧ n.2.2.2.1 = m.2.2.2.1 ∧ n.2.2.2.2.map Gj = m.2.2.2.2.map Gj
theorem Li (m : Mdl) : eqM m m := ⟨rfl, rfl, rfl, rfl, rfl⟩
end Mo
end Go.Proofs.YtdhgpnejphlfpaaGreatDoor
namespace Go.Proofs.YtdhgpnejphlfpaaGreatDoor
mutual
noncomputable def same : Ex → Ex → Bool
 | .mk o n _ l, b => o == b.op && n == b.n && ik l b.l
noncomputable def ik : List Ex → List Ex → Bool
 | [], [] => true
 | x :: l, y :: m => same x y && ik l m
 | [], _ :: _ => false
 | _ :: _, [] => false
end
theorem Bp (a b : Ex) : same a b = (a.op == b.op && a.n == b.n && ik a.l b.l) := by cases a; simp only [same, Ex.op, Ex.n, Ex.l]
theorem B6 : ∀ (l m : List Ex), l.length ≠ m.length → ik l m = false
 | [], [], h => absurd rfl h
 | x :: l, y :: m, h => by simp only [ik, B6 l m (by simpa using h), Bool.and_false]
 | [], _ :: _, _ => by simp only [ik]
 | _ :: _, [], _ => by simp only [ik]
theorem BN (k : Ex × Ex → Option Bool) (a b : Ex) (hk : ∀ x ∈ a.l, ∀ y, k (x, y) = some (same x y)) (hl : a.l.length < 4611686018427387904) :
  ∀ (r r' pre pre' : List Ex), a.l = pre ++ r → b.l = pre' ++ r' → pre.length = pre'.length → r.length = r'.length → ∀ (M : Nat), r.length < M → aj (g7 k a b) M (pre.length : Int) = some (ik r r')
 | [], r', pre, pre', h, h', _, hrr, M, hM => by
  obtain ⟨m, rfl⟩ : ∃ m, M = m + 1 := ⟨M - 1, by simp at hM; omega⟩
  obtain rfl : r' = [] := List.eq_nil_of_length_eq_zero (by simpa using hrr.symm)
  rw [ar]
  simp only [g7, Jw h, cond_false, ik]
 | x :: r, r', pre, pre', h, h', hpp, hrr, M, hM => by
  obtain ⟨m, rfl⟩ : ∃ m, M = m + 1 := ⟨M - 1, by omega⟩
  obtain ⟨y, r'', rfl⟩ : ∃ y t, r' = y :: t := by
   cases r' with
   | nil => simp at hrr
   | cons y t => exact ⟨y, t, rfl⟩
  rw [ar]
  have hlen : pre.length < 4611686018427387904 := by rw [h] at hl; simp at hl; omega
  have hx := hk x (by rw [h]; simp) y
  have ih := BN k a b hk hl r r'' (pre ++ [x]) (pre' ++ [y]) (by rw [h]; simp) (by rw [h']; simp) (by simp [hpp]) (by simpa using hrr) m (by simp at hM; omega)
  rw [show ((pre ++ [x]).length : Int) = ((pre.length + 1 : Nat) : Int) by simp] at ih
  have hy : idx b.l (pre.length : Int) = some y := by rw [hpp]; exact yt h'
  simp only [g7, K0 h, cond_true, yt h, hy, ai, hx, g8 hlen, ik]
  cases same x y
  ·rfl
  ·simp only [Bool.not_true, cond_false, Bool.true_and]; exact ih
theorem IF : ∀ (N : Nat) (a b : Ex), a.sz ≤ N → a.sz < 4611686018427387904 → aj (fun k (s : Ex × Ex) => ec k s.1 s.2) N (a, b) = some (same a b) := by
 intro N
 induction N with
 | zero => intro e _ h; have := qg e; omega
 | succ N ih =>
  intro a b h hb
  rw [ar]
  have hl := rX a
  show ec _ a b = _
  unfold ec
  simp only [aH, bne]
  rw [Bp]
  cases (a.op == b.op)
  ·rfl
  cases (a.n == b.n)
  ·rfl
  cases hq : ((List.length a.l : Int) == (List.length b.l : Int))
  ·simp only [Bool.not_true, Bool.or_false, Bool.not_false, Bool.or_true, cond_true, Bool.true_and]
   rw [B6 _ _ (by have := beq_eq_false_iff_ne.1 hq; omega)]
  ·simp only [Bool.not_true, Bool.or_false, cond_false, Bool.true_and]
   have hq' := beq_iff_eq.1 hq
   exact BN (aj (fun k (s : Ex × Ex) => ec k s.1 s.2) N) a b (fun x hx y => ih x y (by have := nb hx; omega) (by have := nb hx; omega)) (by omega) a.l b.l [] [] rfl rfl rfl (by omega) al (by show a.l.length < 2 ^ 64; omega)
theorem D5 (a b : Ex) (h : a.sz < 4611686018427387904) : fa a b = some (same a b) := IF al a b (by show a.sz ≤ 2 ^ 64; omega) h
end Go.Proofs.YtdhgpnejphlfpaaGreatDoor
namespace Go.Proofs.YtdhgpnejphlfpaaGreatDoor
noncomputable def eR {α β : Type} (R : α → β → Bool) : List α → List β → Bool
 | [], [] => true
 | x :: l, y :: m => R x y && eR R l m
 | _, _ => false
theorem pP {α β : Type} {R : α → β → Bool} : ∀ {l : List α} {m : List β}, l.length ≠ m.length → eR R l m = false
 | [], [], h => absurd rfl h
 | x :: l, y :: m, h => by simp only [eR, pP (l := l) (m := m) (by simpa using h), Bool.and_false]
 | [], _ :: _, _ => rfl
 | _ :: _, [], _ => rfl
theorem rS {α : Type} [DecidableEq α] : ∀ (l m : List α), eR (fun x y => decide (x = y)) l m = decide (l = m)
 | [], [] => by simp [eR]
 | x :: l, y :: m => by
  simp only [eR, rS l m, List.cons.injEq, Bool.decide_and]
 | [], _ :: _ => by simp [eR]
 | _ :: _, [] => by simp [eR]
theorem B7 {α β : Type} {F : (Int → Option Bool) → Int → Option Bool} {s1 : List α} {s2 : List β} {R : α → β → Bool} (hl : s1.length < 4611686018427387904)
  (hstep : ∀ again (i : Nat) (x : α) (y : β), s1[i]? = some x → s2[i]? = some y → F again (i : Int) = bif R x y then again (((i + 1 : Nat) : Int)) else some false)
  (hend : ∀ again, F again (s1.length : Int) = some true) :
  ∀ (r : List α) (r' : List β) (pre : List α) (pre' : List β), s1 = pre ++ r → s2 = pre' ++ r' → pre.length = pre'.length → r.length = r'.length → ∀ M, r.length < M → aj F M (pre.length : Int) = some (eR R r r')
 | [], r', pre, pre', h, h', hp, hr, M, hM => by
  obtain ⟨m, rfl⟩ : ∃ m, M = m + 1 := ⟨M - 1, by simp at hM; omega⟩
  obtain rfl : r' = [] := List.eq_nil_of_length_eq_zero (by simpa using hr.symm)
  rw [ar]
  have : pre = s1 := by simpa using h.symm
  rw [this]
  exact hend _
 | x :: r, [], pre, pre', h, h', hp, hr, M, hM => by simp at hr
 | x :: r, y :: r', pre, pre', h, h', hp, hr, M, hM => by
  obtain ⟨m, rfl⟩ : ∃ m, M = m + 1 := ⟨M - 1, by omega⟩
  rw [ar]
  have ih := B7 hl hstep hend r r' (pre ++ [x]) (pre' ++ [y]) (by rw [h]; simp) (by rw [h']; simp) (by simp [hp]) (by simpa using hr) m (by simp at hM; omega)
  rw [show ((pre ++ [x]).length : Int) = ((pre.length + 1 : Nat) : Int) by simp] at ih
  rw [hstep _ pre.length x y (by rw [h]; simp) (by rw [h', hp]; simp), ih]
  simp only [eR]
  cases R x y <;> rfl
theorem jM {α β : Type} {F : (Int → Option Bool) → Int → Option Bool} {s1 : List α} {s2 : List β} {R : α → β → Bool} (hl : s1.length < 4611686018427387904) (he : s1.length = s2.length)
  (hstep : ∀ again (i : Nat) (x : α) (y : β), s1[i]? = some x → s2[i]? = some y → F again (i : Int) = bif R x y then again (((i + 1 : Nat) : Int)) else some false)
  (hend : ∀ again, F again (s1.length : Int) = some true) : aj F al 0 = some (eR R s1 s2) :=
 B7 hl hstep hend s1 s2 [] [] rfl rfl rfl he al (by show _ < 2 ^ 64; omega)
theorem c9 {α : Type} {l : List α} {i : Nat} {x : α} (h : l[i]? = some x) : idx l (i : Int) = some x ∧ i < l.length := ⟨by simp [idx, h], (List.getElem?_eq_some_iff.1 h).1⟩
theorem mO {α β : Type} {l : List α} {m : List β} : ((List.length l : Int) != (List.length m : Int)) = !decide (l.length = m.length) := by
 by_cases h : l.length = m.length
 ·rw [decide_eq_true h, h]; simp
 ·rw [decide_eq_false h]; simp; omega
mutual
theorem A2 : ∀ x y : Ex, mp 0 x = mp 0 y → same x y = true
 | .mk o n a l, .mk o' n' a' l', h => by
  simp only [mp, Ex.mk.injEq, true_and] at h
  obtain ⟨h1, h2, h3⟩ := h
  subst h1
  have hn : n = n' := by
   cases hc : (o == 2)
   ·rw [hc] at h2; exact h2
   ·rw [hc] at h2; simp only [cond_true] at h2; omega
  subst hn
  rw [Bp]
  simp only [Ex.op, Ex.n, Ex.l, beq_self_eq_true, Bool.true_and]
  exact Dc l l' h3
theorem Dc : ∀ l m : List Ex, mpL 0 l = mpL 0 m → ik l m = true
 | [], [], _ => by simp only [ik]
 | x :: l, y :: m, h => by
  simp only [mpL, List.cons.injEq] at h
  simp only [ik, A2 x y h.1, Dc l m h.2, Bool.and_self]
 | [], _ :: _, h => by simp [mpL] at h
 | _ :: _, [], h => by simp [mpL] at h
end
namespace Mo
open Pa Sy
noncomputable def q5 (x y : Int × Ex) : Bool := x.1 == y.1 && same x.2 y.2
noncomputable def pW (x y : Cmd) : Bool := x.1 == y.1 && same x.2.1 y.2.1 && eR q5 x.2.2 y.2.2
noncomputable def vT (m n : Mdl) : Bool := decide (m.1 = n.1) && decide (m.2.1 = n.2.1) && decide (m.2.2.1 = n.2.2.1) && decide (m.2.2.2.1 = n.2.2.2.1) && eR pW m.2.2.2.2 n.2.2.2.2
theorem Cb : ∀ (l m : List (Int × Ex)), m.map DI = l.map DI → eR q5 l m = true
 | [], [], _ => rfl
 | x :: l, y :: m, h => by
  simp only [List.map_cons, List.cons.injEq] at h
  obtain ⟨h1, h2⟩ := h
  have e1 : y.1 = x.1 := congrArg (·.1) h1
  have e2 : mp 0 y.2 = mp 0 x.2 := congrArg (·.2) h1
  simp only [eR, q5, e1, beq_self_eq_true, A2 x.2 y.2 e2.symm, Cb l m h2, Bool.and_self]
 | [], _ :: _, h => by simp at h
 | _ :: _, [], h => by simp at h
theorem BG : ∀ (l m : List Cmd), m.map Gj = l.map Gj → eR pW l m = true
 | [], [], _ => rfl
 | x :: l, y :: m, h => by
  simp only [List.map_cons, List.cons.injEq] at h
  obtain ⟨h1, h2⟩ := h
  have e1 : y.1 = x.1 := congrArg (·.1) h1
  have e2 : mp 0 y.2.1 = mp 0 x.2.1 := congrArg (·.2.1) h1
  have e3 : y.2.2.map DI = x.2.2.map DI := congrArg (·.2.2) h1
  simp only [eR, pW, e1, beq_self_eq_true, A2 x.2.1 y.2.1 e2.symm, Cb _ _ e3, BG l m h2, Bool.and_self]
 | [], _ :: _, h => by simp at h
 | _ :: _, [], h => by simp at h
theorem JG {m n : Mdl} (h : eqM m n) : vT m n = true := by
 obtain ⟨h1, h2, h3, h4, h5⟩ := h
 unfold vT
 rw [h1, h2, h3, h4, BG _ _ h5]
 simp
structure Sml (m : Mdl) : Prop where
 names : m.1.length < 4611686018427387904
 schema : m.2.1.length < 4611686018427387904
 init : m.2.2.1.length < 4611686018427387904
 procs : m.2.2.2.1.length < 4611686018427387904
 cmds : m.2.2.2.2.length < 4611686018427387904
 cmd : ∀ c ∈ m.2.2.2.2, c.2.1.sz < 4611686018427387904 ∧ c.2.2.length < 4611686018427387904 ∧ ∀ s ∈ c.2.2, s.2.sz < 4611686018427387904
theorem Sml.empty : Sml ([], [], [], [], []) := ⟨by decide, by decide, by decide, by decide, by decide, fun c h => by cases h⟩
theorem Sml.of {m : Mdl} (h : Part m) (hq : m.2.2.2.1.length < 4611686018427387904) : Sml m := ⟨by have := h.names; omega, by have := h.schema; have := h.names; omega, by have := h.init; have := h.names; omega, hq, by have := h.cmds; omega, fun c hc => by
 have := h.cmd c hc
 exact ⟨by have := this.sz; omega, by have := this.len; omega, fun s hs => by have := (this.sets s hs).sz; omega⟩⟩
theorem HY {l m : List Str} (hl : l.length < 4611686018427387904) : dB l m = some (decide (l = m)) := by
 unfold dB
 rw [mO]
 by_cases h : l.length = m.length
 ·rw [decide_eq_true h]
  rw [Bool.not_true, cond_false, jM (R := fun x y => decide (x = y)) hl h (fun again i x y hx hy => ?_) (fun again => ?_), rS]
  ·obtain ⟨x1, x2⟩ := c9 hx
   obtain ⟨y1, y2⟩ := c9 hy
   simp only [fK, x1, y1, ai, decide_eq_true (show ((i : Nat) : Int) < (l.length : Int) by omega), cond_true, Pa.cI (show i < 4611686018427387904 by omega)]
   by_cases e : x = y
   ·rw [decide_eq_true e, e]; simp
   ·rw [decide_eq_false e, show (x != y) = true by simpa using e]; rfl
  ·simp only [fK, decide_eq_false (show ¬ (l.length : Int) < (l.length : Int) by omega), cond_false]
 ·rw [decide_eq_false h, decide_eq_false (fun e => h (by rw [e]))]; rfl
theorem NT {l m : List Int} (hl : l.length < 4611686018427387904) : ix l m = some (decide (l = m)) := by
 unfold ix
 rw [mO]
 by_cases h : l.length = m.length
 ·rw [decide_eq_true h]
  rw [Bool.not_true, cond_false, jM (R := fun x y => decide (x = y)) hl h (fun again i x y hx hy => ?_) (fun again => ?_), rS]
  ·obtain ⟨x1, x2⟩ := c9 hx
   obtain ⟨y1, y2⟩ := c9 hy
   simp only [iX, x1, y1, ai, decide_eq_true (show ((i : Nat) : Int) < (l.length : Int) by omega), cond_true, Pa.cI (show i < 4611686018427387904 by omega)]
   by_cases e : x = y
   ·rw [decide_eq_true e, e]; simp
   ·rw [decide_eq_false e, show (x != y) = true by simpa using e]; rfl
  ·simp only [iX, decide_eq_false (show ¬ (l.length : Int) < (l.length : Int) by omega), cond_false]
 ·rw [decide_eq_false h, decide_eq_false (fun e => h (by rw [e]))]; rfl
theorem B9 (x y : Int × Int) : yA x.1 x.2 y.1 y.2 = decide (x = y) := by
 obtain ⟨a, b⟩ := x
 obtain ⟨c, d⟩ := y
 simp only [yA, Prod.mk.injEq, Bool.decide_and]
 congr 1
theorem KY {l m : List (Int × Int)} (hl : l.length < 4611686018427387904) : dy l m = some (decide (l = m)) := by
 unfold dy
 rw [mO]
 by_cases h : l.length = m.length
 ·rw [decide_eq_true h]
  rw [Bool.not_true, cond_false, jM (R := fun x y => decide (x = y)) hl h (fun again i x y hx hy => ?_) (fun again => ?_), rS]
  ·obtain ⟨x1, x2⟩ := c9 hx
   obtain ⟨y1, y2⟩ := c9 hy
   simp only [ei, x1, y1, ai, decide_eq_true (show ((i : Nat) : Int) < (l.length : Int) by omega), cond_true, Pa.cI (show i < 4611686018427387904 by omega), B9]
   cases decide (x = y) <;> rfl
  ·simp only [ei, decide_eq_false (show ¬ (l.length : Int) < (l.length : Int) by omega), cond_false]
 ·rw [decide_eq_false h, decide_eq_false (fun e => h (by rw [e]))]; rfl
theorem FK {l m : List Str} (hl : l.length < 4611686018427387904) : dH l m = some (decide (l = m)) := by
 unfold dH
 rw [mO]
 by_cases h : l.length = m.length
 ·rw [decide_eq_true h]
  rw [Bool.not_true, cond_false, jM (R := fun x y => decide (x = y)) hl h (fun again i x y hx hy => ?_) (fun again => ?_), rS]
  ·obtain ⟨x1, x2⟩ := c9 hx
   obtain ⟨y1, y2⟩ := c9 hy
   simp only [jN, x1, y1, ai, decide_eq_true (show ((i : Nat) : Int) < (l.length : Int) by omega), cond_true, Pa.cI (show i < 4611686018427387904 by omega)]
   by_cases e : x = y
   ·rw [decide_eq_true e, e]; simp
   ·rw [decide_eq_false e, show (x != y) = true by simpa using e]; rfl
  ·simp only [jN, decide_eq_false (show ¬ (l.length : Int) < (l.length : Int) by omega), cond_false]
 ·rw [decide_eq_false h, decide_eq_false (fun e => h (by rw [e]))]; rfl
theorem Ot {l m : List Int} (hl : l.length < 4611686018427387904) : ib l m = some (decide (l = m)) := by
 unfold ib
 rw [mO]
 by_cases h : l.length = m.length
 ·rw [decide_eq_true h]
  rw [Bool.not_true, cond_false, jM (R := fun x y => decide (x = y)) hl h (fun again i x y hx hy => ?_) (fun again => ?_), rS]
  ·obtain ⟨x1, x2⟩ := c9 hx
   obtain ⟨y1, y2⟩ := c9 hy
   simp only [kB, x1, y1, ai, decide_eq_true (show ((i : Nat) : Int) < (l.length : Int) by omega), cond_true, Pa.cI (show i < 4611686018427387904 by omega)]
   by_cases e : x = y
   ·rw [decide_eq_true e, e]; simp
   ·rw [decide_eq_false e, show (x != y) = true by simpa using e]; rfl
  ·simp only [kB, decide_eq_false (show ¬ (l.length : Int) < (l.length : Int) by omega), cond_false]
 ·rw [decide_eq_false h, decide_eq_false (fun e => h (by rw [e]))]; rfl
/-! the program's Same -/
theorem AJ : ∀ l m : List Ex, ik l m = eR same l m
 | [], [] => by simp only [ik, eR]
 | x :: l, y :: m => by simp only [ik, eR, AJ l m]
 | [], _ :: _ => by simp only [ik, eR]
 | _ :: _, [] => by simp only [ik, eR]
theorem Hb : ∀ (N : Nat) (a b : Ex), a.sz ≤ N → a.sz < 4611686018427387904 → aj (fun k (s : Ex × Ex) => lb k s.1 s.2) N (a, b) = some (same a b) := by
 intro N
 induction N with
 | zero => intro e _ h; have := qg e; omega
 | succ N ih =>
  intro a b h hb
  rw [ar]
  have hl := rX a
  show lb _ a b = _
  generalize aj (fun k (s : Ex × Ex) => lb k s.1 s.2) N = kk at ih ⊢
  unfold lb
  simp only [aH]
  rw [Bp]
  cases ha : (a.op == b.op && a.n == b.n)
  ·rfl
  ·rw [bZ]
   have : bl kk a.l b.l = some (ik a.l b.l) := by
    unfold bl
    rw [mO, AJ]
    by_cases hq : a.l.length = b.l.length
    ·rw [decide_eq_true hq]
     rw [Bool.not_true, cond_false]
     refine jM (by omega) hq (fun again i x y hx hy => ?_) (fun again => ?_)
     ·obtain ⟨x1, x2⟩ := c9 hx
      obtain ⟨y1, y2⟩ := c9 hy
      have hm : x ∈ a.l := List.mem_of_getElem? hx
      have := nb hm
      have i1 := ih x y (by omega) (by omega)
      simp only [bU, x1, y1, ai, decide_eq_true (show ((i : Nat) : Int) < (a.l.length : Int) by omega), cond_true, Pa.cI (show i < 4611686018427387904 by omega), i1]
      cases same x y <;> rfl
     ·simp only [bU, decide_eq_false (show ¬ (a.l.length : Int) < (a.l.length : Int) by omega), cond_false]
    ·rw [decide_eq_false hq, pP hq]; rfl
   rw [this, ai]
theorem Ew (a b : Ex) (h : a.sz < 4611686018427387904) : nM a b = some (same a b) := Hb al a b (by show a.sz ≤ 2 ^ 64; omega) h
theorem H0 {l m : List (Int × Ex)} (hl : l.length < 4611686018427387904) (hs : ∀ s ∈ l, s.2.sz < 4611686018427387904) : aT l m = some (eR q5 l m) := by
 unfold aT
 rw [mO]
 by_cases hq : l.length = m.length
 ·rw [decide_eq_true hq]
  rw [Bool.not_true, cond_false]
  refine jM hl hq (fun again i x y hx hy => ?_) (fun again => ?_)
  ·obtain ⟨x1, x2⟩ := c9 hx
   obtain ⟨y1, y2⟩ := c9 hy
   have i1 := Ew x.2 y.2 (hs x (List.mem_of_getElem? hx))
   have hc : kV x y = some (q5 x y) := by
    simp only [kV, aH, i1, q5]
    cases (x.1 == y.1) <;> rfl
   simp only [cc, x1, y1, ai, decide_eq_true (show ((i : Nat) : Int) < (l.length : Int) by omega), cond_true, Pa.cI (show i < 4611686018427387904 by omega), hc]
   cases q5 x y <;> rfl
  ·simp only [cc, decide_eq_false (show ¬ (l.length : Int) < (l.length : Int) by omega), cond_false]
 ·rw [decide_eq_false hq, pP hq]; rfl
theorem IL {l m : List Cmd} (hl : l.length < 4611686018427387904) (hs : ∀ c ∈ l, c.2.1.sz < 4611686018427387904 ∧ c.2.2.length < 4611686018427387904 ∧ ∀ s ∈ c.2.2, s.2.sz < 4611686018427387904) :
  bz l m = some (eR pW l m) := by
 unfold bz
 rw [mO]
 by_cases hq : l.length = m.length
 ·rw [decide_eq_true hq]
  rw [Bool.not_true, cond_false]
  refine jM hl hq (fun again i x y hx hy => ?_) (fun again => ?_)
  ·obtain ⟨x1, x2⟩ := c9 hx
   obtain ⟨y1, y2⟩ := c9 hy
   obtain ⟨c1, c2, c3⟩ := hs x (List.mem_of_getElem? hx)
   have i1 := Ew x.2.1 y.2.1 c1
   have i2 := H0 (m := y.2.2) c2 c3
   have hc : kW x y = some (pW x y) := by
    simp only [kW, aH, i1, i2, pW]
    cases (x.1 == y.1)
    ·rfl
    ·cases same x.2.1 y.2.1 <;> rfl
   simp only [cb, x1, y1, ai, decide_eq_true (show ((i : Nat) : Int) < (l.length : Int) by omega), cond_true, Pa.cI (show i < 4611686018427387904 by omega), hc]
   cases pW x y <;> rfl
  ·simp only [cb, decide_eq_false (show ¬ (l.length : Int) < (l.length : Int) by omega), cond_false]
 ·rw [decide_eq_false hq, pP hq]; rfl
theorem ND {m n : Mdl} (h : Sml m) : mD m n = some (vT m n) := by
 unfold mD
 rw [HY h.names, ai, KY h.schema, NT h.init, HY h.procs, IL h.cmds h.cmd]
 unfold vT
 cases decide (m.1 = n.1)
 ·rfl
 cases decide (m.2.1 = n.2.1)
 ·rfl
 cases decide (m.2.2.1 = n.2.2.1)
 ·rfl
 cases decide (m.2.2.2.1 = n.2.2.2.1)
 ·rfl
 rfl
/-! the document's Same -/
theorem J3 {m n : Mdl} {i : Nat} {c d : Cmd} (hc : m.2.2.2.2[i]? = some c) (hd : n.2.2.2.2[i]? = some d) (hl : c.2.2.length < 4611686018427387904) (hs : ∀ s ∈ c.2.2, s.2.sz < 4611686018427387904)
  (_he : c.2.2.length = d.2.2.length) (again : Int → Option Bool) : ∀ (r r' pre pre' : List (Int × Ex)), c.2.2 = pre ++ r → d.2.2 = pre' ++ r' → pre.length = pre'.length → r.length = r'.length → ∀ M, r.length < M →
  aj (gX m n (i : Int) again) M (pre.length : Int) = bif eR q5 r r' then again (IntKind.i64.wrap ((i : Int) + 1)) else some false := by
 obtain ⟨c1, c2⟩ := c9 hc
 obtain ⟨d1, d2⟩ := c9 hd
 intro r
 induction r with
 | nil =>
  intro r' pre pre' h h' hp hr M hM
  obtain ⟨k, rfl⟩ : ∃ k, M = k + 1 := ⟨M - 1, by simp at hM; omega⟩
  obtain rfl : r' = [] := List.eq_nil_of_length_eq_zero (by simpa using hr.symm)
  rw [ar]
  simp only [gX, c1, ai, Sy.CM h, cond_false]
  rfl
 | cons x r ih =>
  intro r' pre pre' h h' hp hr M hM
  obtain ⟨k, rfl⟩ : ∃ k, M = k + 1 := ⟨M - 1, by omega⟩
  obtain ⟨y, r'', rfl⟩ : ∃ y t, r' = y :: t := by
   cases r' with
   | nil => simp at hr
   | cons y t => exact ⟨y, t, rfl⟩
  rw [ar]
  have hlen : pre.length < 4611686018427387904 := by rw [h] at hl; simp at hl; omega
  have ih := ih r'' (pre ++ [x]) (pre' ++ [y]) (by rw [h]; simp) (by rw [h']; simp) (by simp [hp]) (by simpa using hr) k (by simp at hM; omega)
  rw [show ((pre ++ [x]).length : Int) = ((pre.length + 1 : Nat) : Int) by simp] at ih
  have hy : idx d.2.2 (pre.length : Int) = some y := by rw [hp]; exact Sy.mid h'
  have hsx := D5 x.2 y.2 (hs x (by rw [h]; simp))
  simp only [gX, c1, d1, ai, Sy.yp h, cond_true, Sy.mid h, hy, hsx, aH, g8 hlen, ih, eR, q5]
  cases same x.2 y.2
  ·rw [Bool.and_false]; rfl
  ·simp only [Bool.not_true, Bool.not_false, Bn, cond_true, Bool.false_or, bne, Sy.mid h, hy]
   cases (x.1 == y.1) <;> rfl
theorem Nh {m n : Mdl} (h : Sml m) : gJ m n = some (vT m n) := by
 unfold gJ
 rw [FK h.names, ai, FK h.procs, ai, Ot h.init, ai]
 simp only [aH, mO]
 unfold vT
 by_cases h1 : m.1 = n.1
 case neg => rw [decide_eq_false h1]; rfl
 by_cases h4 : m.2.2.2.1 = n.2.2.2.1
 case neg => rw [decide_eq_false h4]; simp
 by_cases h3 : m.2.2.1 = n.2.2.1
 case neg => rw [decide_eq_false h3]; simp
 by_cases l2 : m.2.1.length = n.2.1.length
 case neg => rw [decide_eq_false l2, decide_eq_false (fun e : m.2.1 = n.2.1 => l2 (by rw [e]))]; simp
 by_cases l5 : m.2.2.2.2.length = n.2.2.2.2.length
 case neg => rw [decide_eq_false l5, pP l5]; simp
 rw [decide_eq_true h1, decide_eq_true h4, decide_eq_true h3, decide_eq_true l2, decide_eq_true l5]
 simp only [Bool.not_true, Bool.or_false, cond_false, Bool.and_true, Bool.true_and]
 have cm : aj (g6 m n) al 0 = some (eR pW m.2.2.2.2 n.2.2.2.2) := by
  refine jM h.cmds l5 (fun again i x y hx hy => ?_) (fun again => ?_)
  ·obtain ⟨x1, x2⟩ := c9 hx
   obtain ⟨y1, y2⟩ := c9 hy
   obtain ⟨c1, c2, c3⟩ := h.cmd x (List.mem_of_getElem? hx)
   have i1 := D5 x.2.1 y.2.1 c1
   have hlc := h.cmds
   have i2 := fun he => J3 hx hy c2 c3 he again x.2.2 y.2.2 [] [] rfl rfl rfl he al (by show _ < 2 ^ 64; omega)
   simp only [g6, x1, y1, ai, decide_eq_true (show ((i : Nat) : Int) < (m.2.2.2.2.length : Int) by omega), cond_true, i1, aH, mO, pW]
   cases same x.2.1 y.2.1
   ·rw [Bool.and_false, Bool.false_and]; rfl
   ·simp only [Bool.not_true, Bool.not_false, Bn, cond_true, Bool.false_or, bne]
    by_cases hq : (x.1 == y.1) = true
    case neg =>
     have hq' : (x.1 == y.1) = false := by simpa using hq
     simp only [hq', Bool.not_false, Bool.true_or, cond_true, Bool.false_and, cond_false]
    ·simp only [hq, Bool.not_true, Bool.not_false, cond_true, Bool.false_or, Bool.and_true, Bool.true_and]
     by_cases he : x.2.2.length = y.2.2.length
     ·rw [decide_eq_true he]
      simp only [Bool.not_true, cond_false]
      have := i2 he
      rw [Pa.cI (show i < 4611686018427387904 by omega)] at this
      exact this
     ·rw [decide_eq_false he, pP he]; rfl
  ·simp only [g6, decide_eq_false (show ¬ (m.2.2.2.2.length : Int) < (m.2.2.2.2.length : Int) by omega), cond_false]
 -- the ranges, and then the commands
 have key : ∀ (r r' pre pre' : List (Int × Int)), m.2.1 = pre ++ r → n.2.1 = pre' ++ r' → pre.length = pre'.length → r.length = r'.length → ∀ M, r.length < M →
   aj (gZ m n) M (pre.length : Int) = some (decide (r = r') && eR pW m.2.2.2.2 n.2.2.2.2) := by
  intro r
  induction r with
  | nil =>
   intro r' pre pre' h h' hp hr M hM
   obtain ⟨k, rfl⟩ : ∃ k, M = k + 1 := ⟨M - 1, by simp at hM; omega⟩
   obtain rfl : r' = [] := List.eq_nil_of_length_eq_zero (by simpa using hr.symm)
   rw [ar]
   simp only [gZ, Sy.CM h, cond_false]
   rw [cm]; rfl
  | cons x r ih =>
   intro r' pre pre' h' h'' hp hr M hM
   obtain ⟨k, rfl⟩ : ∃ k, M = k + 1 := ⟨M - 1, by omega⟩
   obtain ⟨y, r'', rfl⟩ : ∃ y t, r' = y :: t := by
    cases r' with
    | nil => simp at hr
    | cons y t => exact ⟨y, t, rfl⟩
   rw [ar]
   have hlen : pre.length < 4611686018427387904 := by have hl := h.schema; rw [h'] at hl; simp at hl; omega
   have ih := ih r'' (pre ++ [x]) (pre' ++ [y]) (by rw [h']; simp) (by rw [h'']; simp) (by simp [hp]) (by simpa using hr) k (by simp at hM; omega)
   rw [show ((pre ++ [x]).length : Int) = ((pre.length + 1 : Nat) : Int) by simp] at ih
   have hy : idx n.2.1 (pre.length : Int) = some y := by rw [hp]; exact Sy.mid h''
   simp only [gZ, ai, Sy.yp h', cond_true, Sy.mid h', hy, B9, g8 hlen, ih, List.cons.injEq, Bool.decide_and]
   cases decide (x = y) <;> rfl
 exact key m.2.1 n.2.1 [] [] rfl rfl rfl l2 al (by have := h.schema; show _ < 2 ^ 64; omega)
end Mo
end Go.Proofs.YtdhgpnejphlfpaaGreatDoor
namespace Go.Proofs.YtdhgpnejphlfpaaGreatDoor
namespace Mo
open Pa Sy
noncomputable def q7 (N : List Str) (f : Nat) (acc : List (Int × Ex)) (ts : List Tok) : Except Err (List (Int × Ex) × List Tok) := match cZ N f acc ts with
 | .error e => .error e
 | .ok p => match aA [59] p.2 with
  | .error e => .error e
  | .ok r => .ok (p.1, r)
theorem MQ {N : List Str} {f : Nat} {acc : List (Int × Ex)} {ts : List Tok} {e : Err} (h : ud N acc ts = .error e) : q7 N (f + 1) acc ts = .error e := by
 unfold q7
 rw [xH, h]
theorem GU {N : List Str} {f : Nat} {acc : List (Int × Ex)} {ts : List Tok} {p : (Int × Ex) × List Tok} (h : ud N acc ts = .ok p) (hh : isH 3 [44] p.2 = true) : q7 N (f + 1) acc ts = q7 N f (acc ++ [p.1]) p.2.tail := by
 unfold q7
 rw [xH, h]
 simp only [hh, cond_true]
theorem z7 {N : List Str} {f : Nat} {acc : List (Int × Ex)} {ts : List Tok} {p : (Int × Ex) × List Tok} (h : ud N acc ts = .ok p) (hh : isH 3 [44] p.2 = false) : q7 N (f + 1) acc ts = match aA [59] p.2 with
  | .error e => .error e
  | .ok r => .ok (acc ++ [p.1], r) := by
 unfold q7
 rw [xH, h]
 simp only [hh, cond_false]
theorem Oa {t : Tok} (h : isT 3 [59] t = true) : isT 3 [44] t = false := by
 unfold isT at *
 simp only [Bool.and_eq_true, beq_iff_eq] at h
 rw [h.2, Bool.and_eq_false_iff]
 exact .inr (by decide)
section
variable {l : List Tok} (N : List Str) (S_ : List (Int × Int)) (I : List Int) (Q : List Str) (C : List Cmd)
theorem H4 (hk : l.length < 1099511627776) (hN : N.length < 1099511627776) (hC : C.length < 1000000) (g : Ex × Int) : ∀ (f : Nat) (acc : List (Int × Ex)) (k M : Nat), Pa.Ends (l.drop k) → (l.drop k).length < f → (l.drop k).length < M → acc.length ≤ k → k ≤ l.length →
  Rd l (q7 N f acc (l.drop k)) (fun sets k' => (k', C ++ [(IntKind.i64.wrap ((Q.length : Int) - 1), g.1, sets)])) (aj (jW l N S_ I Q C g) M ((k : Int), acc))
 | 0, acc, k, M, he, hf, hM, ha, hkl => by omega
 | f + 1, acc, k, 0, he, hf, hM, ha, hkl => by omega
 | f + 1, acc, k, M + 1, he, hf, hM, ha, hkl => by
  rw [ar]
  simp only [jW]
  have h1 := Em N S_ I Q C (l := l) (k := k) he hk hN (acc := acc) (by omega)
  cases ho : ud N acc (l.drop k) with
  | error e =>
   rw [ho] at h1
   rw [MQ ho, show dc acc l (k : Int) N S_ I Q C = some (.error e) from h1]
   rfl
  | ok p =>
   rw [ho] at h1
   obtain ⟨k1, hm1, hd1⟩ := h1
   have hsh := MS he ho
   obtain ⟨t2, r2, ht2⟩ := hsh.1.ne
   have hd2 : l.drop k1 = t2 :: r2 := by rw [hd1, ht2]
   have hlt := (dm hd2).2.2.1
   have hkk : k < k1 := rR rfl hd1 hsh.2
   rw [hm1, fG]
   simp only
   rw [Sy.lD (Sy.jj (by simp; omega) (by simp; omega)), Bb N S_ I Q C hd2, ai]
   cases h59 : isT 3 [59] t2
   ·simp only [cond_false]
    have hs := x3 N S_ I Q C (l := l) (k := k1) (by rw [hd1]; exact hsh.1) (by omega) [44]
    rw [hd2] at hs
    cases h44 : isT 3 [44] t2
    ·have e1 : aA [44] (t2 :: r2) = .error (2, t2.2.2.2) := by simp only [aA, h44, cond_false]
     have e2 : aA [59] (t2 :: r2) = .error (2, t2.2.2.2) := by simp only [aA, h59, cond_false]
     rw [e1] at hs
     rw [z7 ho (by rw [ht2]; exact h44), ht2, e2, show bm [44] l (k1 : Int) N S_ I Q C = some (.error (2, t2.2.2.2)) from hs]
     rfl
    ·have e1 : aA [44] (t2 :: r2) = .ok r2 := by simp only [aA, h44, cond_true]
     rw [e1] at hs
     obtain ⟨k2, hm2, hd3⟩ := hs
     have hr2 : Pa.Ends r2 := by
      have := hsh.1
      rw [ht2] at this
      exact this.tail (xQ h44 (by decide))
     have hk2 : k1 < k2 := rR hd2 hd3 (by simp)
     have hlen2 : (l.drop k2).length < (l.drop k).length := by
      rw [hd3]
      have := hsh.2
      rw [ht2] at this
      simp only [List.length_cons] at this
      omega
     have hk2l : k2 ≤ l.length := by
      obtain ⟨t3, r3, ht3⟩ := hr2.ne
      have := (dm (hd3.trans ht3)).2.2.1
      omega
     rw [hm2, fG, GU ho (by rw [ht2]; exact h44), ht2]
     have := H4 hk hN hC g f (acc ++ [p.1]) k2 M (by rw [hd3]; exact hr2) (by omega) (by omega) (by simp; omega) hk2l
     rw [hd3] at this
     exact this
   ·simp only [cond_true]
    have e2 : aA [59] (t2 :: r2) = .ok r2 := by simp only [aA, h59, cond_true]
    rw [Sy.lD (Sy.jj (by simp; omega) (by simp; omega)), z7 ho (by rw [ht2]; exact Oa h59), ht2, e2]
    exact ⟨k1 + 1, by rw [cI (show k1 < 4611686018427387904 by omega)], (dm hd2).2.1⟩
variable {k : Nat}
theorem IA (he : Pa.Ends (l.drop k)) (hk : l.length < 1099511627776) (hN : N.length < 1099511627776) (_hkl : k ≤ l.length) :
  Rd l (iu (N, S_, I, Q, C) (l.drop k)) (fun m' k' => (k', m'.2.2.2.2)) (gH l (k : Int) N S_ I Q C) := by
 obtain ⟨t, r, ht⟩ := he.ne
 unfold gH iu
 simp only [aH]
 cases h256 : decide (256 ≤ (List.length C : Int))
 ·have hC : C.length < 256 := by have := of_decide_eq_false h256; omega
  simp only [cond_false, nW]
  have hx := x4 N S_ I Q C (l := l) (k := k) he hk (by omega) 2
  cases h1 : ct 2 N (l.drop k) with
  | error e =>
   rw [h1] at hx
   rw [show bY 2 l (k : Int) N S_ I Q C = some (.error e) from hx]
   rfl
  | ok p =>
   rw [h1] at hx
   obtain ⟨k1, hm1, hd1⟩ := hx
   have he1 := (jz he h1).1
   have hk1 : k < k1 := rR rfl hd1 he1.2
   rw [hm1, fG]
   have hs := x3 N S_ I Q C (l := l) (k := k1) (by rw [hd1]; exact he1.1) (by omega) [58]
   rw [hd1] at hs
   simp only
   cases h2 : aA [58] p.2 with
   | error e =>
    rw [h2] at hs
    rw [show bm [58] l (k1 : Int) N S_ I Q C = some (.error e) from hs]
    rfl
   | ok r2 =>
    rw [h2] at hs
    obtain ⟨k2, hm2, hd2⟩ := hs
    have he2 := dW he1.1 h2
    have hk2 : k1 < k2 := rR hd1 hd2 he2.2
    rw [hm2, fG]
    have hk2l : k2 ≤ l.length := by
     obtain ⟨t3, r3, ht3⟩ := he2.1.ne
     have := (dm (hd2.trans ht3)).2.2.1
     omega
    have hdl : (l.drop k2).length ≤ l.length := by simp
    have hl := H4 (l := l) N S_ I Q C hk hN (by omega) (p.1, (k1 : Int)) (r2.length + 1) [] k2 al (by rw [hd2]; exact he2.1) (by rw [hd2]; omega) (by show _ < 2 ^ 64; omega) (by simp) hk2l
    rw [hd2] at hl
    unfold q7 at hl
    simp only
    cases h3 : cZ N (r2.length + 1) [] r2 with
    | error e => rw [h3] at hl; exact hl
    | ok q =>
     rw [h3] at hl
     simp only at hl ⊢
     cases h4 : aA [59] q.2 with
     | error e => rw [h4] at hl; exact hl
     | ok r4 =>
      rw [h4] at hl
      obtain ⟨k4, hm4, hd4⟩ := hl
      exact ⟨k4, hm4, hd4⟩
 ·simp only [cond_true, mf N S_ I Q C ht, km]
  rw [ht]
  rfl
end
end Mo
end Go.Proofs.YtdhgpnejphlfpaaGreatDoor
namespace Go.Proofs.YtdhgpnejphlfpaaGreatDoor
namespace Mo
open Pa Sy
theorem LG : ∃ m, al = m + 2 := ⟨18446744073709551614, rfl⟩
theorem Mx (lo hi : Int) : lC [(lo, hi)] = some (cQ lo hi) := by
 obtain ⟨m, hm⟩ := LG
 unfold lC lr iy jy
 rw [hm]
 have h1 : (decide ((1 : Int) ≤ (List.length ([(lo, hi)] : List (Int × Int)) : Int)) && decide ((List.length ([(lo, hi)] : List (Int × Int)) : Int) ≤ 17)) = true := rfl
 simp only [aH]
 rw [h1, bZ, Sy.lD (by rfl), Sy.lD (by rfl)]
 have h2 : aj (gz [(lo, hi)]) (m + 2) (List.replicate (Int.toNat (List.length ([(lo, hi)] : List (Int × Int)) : Int)) false, 0) = some [cQ lo hi] := by
  rw [ar]
  have hb : lA (lo, hi) = some (cQ lo hi) := by
   unfold lA cQ
   simp only [aH]
   congr 1
   by_cases a1 : lo < -1073741824 <;> by_cases a2 : 1073741824 < hi <;> by_cases a3 : hi < lo <;> by_cases a4 : 65535 < IntKind.i64.wrap (hi - lo) <;>
    simp [a1, a2, a3, a4] <;> omega
  simp only [gz]
  rw [show decide ((0 : Int) < (List.length ([(lo, hi)] : List (Int × Int)) : Int)) = true from rfl, cond_true, show idx ([(lo, hi)] : List (Int × Int)) 0 = some (lo, hi) from rfl, ai, hb, ai]
  rw [show idx (List.replicate (Int.toNat (List.length ([(lo, hi)] : List (Int × Int)) : Int)) false) 0 = some false from rfl, ai]
  rw [show IntKind.i64.wrap (0 + 1) = (1 : Int) from rfl, ar]
  simp only [gz]
  rw [show decide ((1 : Int) < (List.length ([(lo, hi)] : List (Int × Int)) : Int)) = false from rfl, cond_false]
  rfl
 rw [h2, ai, bZ]
 have h3 : aj (fk [cQ lo hi] false) (m + 2) 0 = some (bif cQ lo hi then -1 else 0) := by
  rw [ar]
  simp only [fk]
  rw [show decide ((0 : Int) < (List.length ([cQ lo hi] : List Bool) : Int)) = true from rfl, cond_true, show idx ([cQ lo hi] : List Bool) 0 = some (cQ lo hi) from rfl, ai]
  rw [show IntKind.i64.wrap (0 + 1) = (1 : Int) from rfl, ar]
  simp only [fk]
  rw [show decide ((1 : Int) < (List.length ([cQ lo hi] : List Bool) : Int)) = false from rfl, cond_false]
  cases cQ lo hi <;> rfl
 rw [h3, ai, ai]
 cases cQ lo hi <;> rfl
theorem OM (lo hi v : Int) : oQ [(lo, hi)] [v] = some (bif decide (lo ≤ v) && decide (v ≤ hi) then 0 else 5) := by
 obtain ⟨m, hm⟩ := LG
 unfold oQ
 rw [hm, show ((List.length ([v] : List Int) : Int) != (List.length ([(lo, hi)] : List (Int × Int)) : Int)) = false from rfl, cond_false, ar]
 simp only [oL]
 rw [show decide ((0 : Int) < (List.length ([v] : List Int) : Int)) = true from rfl, cond_true, show idx ([v] : List Int) 0 = some v from rfl, ai, show idx ([(lo, hi)] : List (Int × Int)) 0 = some (lo, hi) from rfl, ai]
 rw [show oM (lo, hi) v = some (decide (lo ≤ v) && decide (v ≤ hi)) from rfl, ai, show IntKind.i64.wrap (0 + 1) = (1 : Int) from rfl, ar]
 simp only [oL]
 rw [show decide ((1 : Int) < (List.length ([v] : List Int) : Int)) = false from rfl, cond_false]
 cases (decide (lo ≤ v) && decide (v ≤ hi)) <;> rfl
theorem FC (a b : Int) : decide (a < b) = !decide (b ≤ a) := by
 by_cases h : a < b
 ·rw [decide_eq_true h, decide_eq_false (by omega)]; rfl
 ·rw [decide_eq_false h, decide_eq_true (by omega)]; rfl
section
variable {l : List Tok} {k : Nat} (N : List Str) (S_ : List (Int × Int)) (I : List Int) (Q : List Str) (C : List Cmd)
theorem Hz (he : Pa.Ends (l.drop k)) (hk : l.length < 1099511627776) (hN : N.length ≤ l.length) (hS : S_.length ≤ l.length) (hI : I.length ≤ l.length) (hQ : Q.length ≤ l.length) :
  Rd l (jK (N, S_, I, Q, C) (l.drop k)) (fun m' k' => (k', m'.1, m'.2.1, m'.2.2.1)) (fW l (k : Int) N S_ I Q C) := by
 unfold fW jK
 have h1 := Is N S_ I Q C (l := l) (k := k) he (by omega) (by omega) (by omega) (decide (16 ≤ (N.length : Int)))
 simp only
 try simp only [aH]
 cases e1 : cW (decide (16 ≤ (N.length : Int))) N Q (l.drop k) with
 | error e => rw [e1] at h1; rw [show fy _ l (k : Int) N S_ I Q C = some (.error e) from h1]; rfl
 | ok p1 =>
  rw [e1] at h1
  obtain ⟨k1, m1, d1⟩ := h1
  have s1 := (nB he e1).1
  obtain ⟨t1, r1, ht1⟩ := s1.1.ne
  rw [m1, fG]
  simp only
  rw [sF N S_ I Q C (d1.trans ht1), ai]
  have h2 := zB N S_ I Q C (l := l) (k := k1) (by rw [d1]; exact s1.1) (by omega)
  rw [d1] at h2
  cases e2 : dw p1.2 with
  | error e => rw [e2] at h2; rw [show cY l (k1 : Int) N S_ I Q C = some (.error e) from h2]; rfl
  | ok p2 =>
   rw [e2] at h2
   obtain ⟨k2, m2, d2⟩ := h2
   have s2 := rO s1.1 e2
   rw [m2, fG]
   simp only
   have h3 := zB N S_ I Q C (l := l) (k := k2) (by rw [d2]; exact s2.1) (by omega)
   rw [d2] at h3
   cases e3 : dw p2.2 with
   | error e => rw [e3] at h3; rw [show cY l (k2 : Int) N S_ I Q C = some (.error e) from h3]; rfl
   | ok p3 =>
    rw [e3] at h3
    obtain ⟨k3, m3, d3⟩ := h3
    have s3 := rO s2.1 e3
    rw [m3, fG]
    simp only
    have h4 := zB N S_ I Q C (l := l) (k := k3) (by rw [d3]; exact s3.1) (by omega)
    rw [d3] at h4
    cases e4 : dw p3.2 with
    | error e => rw [e4] at h4; rw [show cY l (k3 : Int) N S_ I Q C = some (.error e) from h4]; rfl
    | ok p4 =>
     rw [e4] at h4
     obtain ⟨k4, m4, d4⟩ := h4
     have s4 := rO s3.1 e4
     rw [m4, fG]
     simp only
     have h5 := x3 N S_ I Q C (l := l) (k := k4) (by rw [d4]; exact s4.1) (by omega) [59]
     rw [d4] at h5
     cases e5 : aA [59] p4.2 with
     | error e => rw [e5] at h5; rw [show bm [59] l (k4 : Int) N S_ I Q C = some (.error e) from h5]; rfl
     | ok r5 =>
      rw [e5] at h5
      obtain ⟨k5, m5, d5⟩ := h5
      rw [m5, fG, Mx, ai, OM]
      have hg : (ax (!!cQ p2.1 p3.1) default (some (bif decide (p2.1 ≤ p4.1) && decide (p4.1 ≤ p3.1) then (0 : Int) else 5)) fun r83 =>
        bif (!cQ p2.1 p3.1 || r83 != 0) then (some (.error (5, t1.2.2.2)) : Option (Except (Int × Int) (Int × List Str × List (Int × Int) × List Int))) else gv N S_ I (p1.1, (k1 : Int)) (p2.1, (k2 : Int)) (p3.1, (k3 : Int)) (p4.1, (k4 : Int)) (k5 : Int)) =
        bif !(cQ p2.1 p3.1) || decide (p4.1 < p2.1) || decide (p3.1 < p4.1) then some (.error (5, t1.2.2.2)) else gv N S_ I (p1.1, (k1 : Int)) (p2.1, (k2 : Int)) (p3.1, (k3 : Int)) (p4.1, (k4 : Int)) (k5 : Int) := by
       cases cQ p2.1 p3.1
       ·rfl
       ·simp only [Bool.not_true, Bool.not_false, bZ, ai, Bool.false_or]
        rw [FC p4.1 p2.1, FC p3.1 p4.1]
        cases decide (p2.1 ≤ p4.1) <;> cases decide (p4.1 ≤ p3.1) <;> rfl
      rw [hg]
      have hp : vA p1.2 = t1.2.2.2 := by rw [ht1]; rfl
      rw [hp]
      cases hb : (!(cQ p2.1 p3.1) || decide (p4.1 < p2.1) || decide (p3.1 < p4.1))
      ·simp only [cond_false, gv]
       rw [Sy.lD (Sy.jj (by simp; omega) (by simp; omega)), show idx ([(p2.1, p3.1)] : List (Int × Int)) 0 = some (p2.1, p3.1) from rfl, ai, Sy.lD (Sy.jj (by simp; omega) (by simp; omega)), Sy.lD (Sy.jj (by simp; omega) (by simp; omega))]
       exact ⟨k5, rfl, d5⟩
      ·rfl
theorem Ab (hk : l.length < 1099511627776) (hN : N.length < 1099511627776) (nm : Str × Int) : ∀ (f : Nat) (C : List Cmd) (k M : Nat), Pa.Ends (l.drop k) → (l.drop k).length < f → (l.drop k).length < M →
  Rd l (gw f (N, S_, I, Q ++ [nm.1], C) (l.drop k)) (fun m' k' => (k', m'.2.2.2.1, m'.2.2.2.2)) (aj (j3 l N S_ I Q nm) M ((k : Int), C))
 | 0, C, k, M, he, hf, hM => by omega
 | f + 1, C, k, 0, he, hf, hM => by omega
 | f + 1, C, k, M + 1, he, hf, hM => by
  rw [ar]
  obtain ⟨t, r, ht⟩ := he.ne
  have hd := dm ht
  simp only [j3]
  rw [Bb N S_ I (Q ++ [nm.1]) C ht, ai]
  have hH : isH 3 [125] (l.drop k) = isT 3 [125] t := by rw [ht]; rfl
  unfold gw
  rw [hH]
  cases h1 : isT 3 [125] t
  ·simp only [Bool.not_false, cond_true, cond_false]
   have hc := IA N S_ I (Q ++ [nm.1]) C (l := l) (k := k) he hk hN (Nat.le_of_lt hd.2.2.1)
   cases h2 : iu (N, S_, I, Q ++ [nm.1], C) (l.drop k) with
   | error e =>
    rw [h2] at hc
    rw [show gH l (k : Int) N S_ I (Q ++ [nm.1]) C = some (.error e) from hc]
    rfl
   | ok p =>
    rw [h2] at hc
    obtain ⟨k1, m1, d1⟩ := hc
    obtain ⟨s1, g, r1, r2, sets, r3, _, _, _, _, hp, _, _⟩ := uP he h2
    rw [m1, fG]
    have ih := Ab hk hN nm f p.1.2.2.2.2 k1 M (by rw [d1]; exact s1.1) (by rw [d1]; have := s1.2; omega) (by rw [d1]; have := s1.2; omega)
    rw [d1] at ih
    have hpe : p.1 = (N, S_, I, Q ++ [nm.1], p.1.2.2.2.2) := by rw [hp]
    rw [← hpe] at ih
    exact ih
  ·simp only [Bool.not_true, cond_true, cond_false]
   exact ⟨k + 1, by rw [cI (show k < 4611686018427387904 by omega)], by rw [ht, hd.2.1]; rfl⟩
theorem I4 (he : Pa.Ends (l.drop k)) (hk : l.length < 1099511627776) (hN : N.length ≤ l.length) (hQ : Q.length ≤ l.length) :
  Rd l (im (N, S_, I, Q, C) (l.drop k)) (fun m' k' => (k', m'.2.2.2.1, m'.2.2.2.2)) (gG l (k : Int) N S_ I Q C) := by
 unfold gG im
 have h1 := Is N S_ I Q C (l := l) (k := k) he (by omega) (by omega) (by omega) false
 simp only
 cases e1 : cW false N Q (l.drop k) with
 | error e => rw [e1] at h1; rw [show fy false l (k : Int) N S_ I Q C = some (.error e) from h1]; rfl
 | ok p1 =>
  rw [e1] at h1
  obtain ⟨k1, m1, d1⟩ := h1
  have s1 := (nB he e1).1
  rw [m1, fG]
  simp only
  rw [Sy.lD (Sy.jj (by simp; omega) (by simp; omega))]
  have h2 := x3 N S_ I (Q ++ [p1.1]) C (l := l) (k := k1) (by rw [d1]; exact s1.1) (by omega) [123]
  rw [d1] at h2
  cases e2 : aA [123] p1.2 with
  | error e => rw [e2] at h2; rw [show bm [123] l (k1 : Int) N S_ I (Q ++ [p1.1]) C = some (.error e) from h2]; rfl
  | ok r2 =>
   rw [e2] at h2
   obtain ⟨k2, m2, d2⟩ := h2
   have s2 := dW s1.1 e2
   rw [m2, fG]
   have hdl : (l.drop k2).length ≤ l.length := by simp
   have := Ab (l := l) N S_ I Q hk (by omega) (p1.1, (k1 : Int)) (r2.length + 1) C k2 al (by rw [d2]; exact s2.1) (by rw [d2]; omega) (by show _ < 2 ^ 64; omega)
   rw [d2] at this
   exact this
end
end Mo
end Go.Proofs.YtdhgpnejphlfpaaGreatDoor
namespace Go.Proofs.YtdhgpnejphlfpaaGreatDoor
namespace Mo
open Pa Sy
noncomputable def RdA (s : Except Err Mdl) (m : Option (Except Err (Int × List Str × List (Int × Int) × List Int × List Str × List Cmd))) : Prop := match s with
 | .error e => m = some (.error e)
 | .ok m' => ∃ k : Nat, m = some (.ok ((k : Int), m'))
theorem vO {m : Mdl} {ts : List Tok} {p : Mdl × List Tok} (he : Pa.Ends ts) (h : im m ts = .ok p) : cC ts p.2 ∧ p.1.1 = m.1 ∧ p.1.2.1 = m.2.1 ∧ p.1.2.2.1 = m.2.2.1 ∧ p.1.2.2.2.1.length = m.2.2.2.1.length + 1 := by
 unfold im at h
 cases h1 : cW false m.1 m.2.2.2.1 ts with
 | error e => rw [h1] at h; cases h
 | ok q1 =>
  rw [h1] at h
  simp only at h
  have s1 := (nB he h1).1
  cases h2 : aA [123] q1.2 with
  | error e => rw [h2] at h; cases h
  | ok r2 =>
   rw [h2] at h
   simp only at h
   have s2 := dW s1.1 h2
   have key : ∀ (f : Nat) (m : Mdl) (ts : List Tok) (p : Mdl × List Tok), Pa.Ends ts → gw f m ts = .ok p → cC ts p.2 ∧ p.1.1 = m.1 ∧ p.1.2.1 = m.2.1 ∧ p.1.2.2.1 = m.2.2.1 ∧ p.1.2.2.2.1 = m.2.2.2.1 := by
    intro f
    induction f with
    | zero => intro m ts p _ h; cases h
    | succ f ih =>
     intro m ts p he h
     unfold gw at h
     cases hh : isH 3 [125] ts
     ·rw [hh] at h
      simp only [cond_false] at h
      cases hc : iu m ts with
      | error e => rw [hc] at h; cases h
      | ok q =>
       rw [hc] at h
       obtain ⟨s3, g, r1, r2, sets, r3, _, _, _, _, hp, _, _⟩ := uP he hc
       obtain ⟨a1, a2, a3, a4, a5⟩ := ih _ _ _ s3.1 h
       rw [hp] at a2 a3 a4 a5
       exact ⟨s3.trans a1, a2, a3, a4, a5⟩
     ·rw [hh] at h
      simp only [cond_true] at h
      cases h
      have := iF he (by decide) hh
      exact ⟨⟨this.1, by have := this.2; simp only; omega⟩, rfl, rfl, rfl, rfl⟩
   obtain ⟨a1, a2, a3, a4, a5⟩ := key _ _ _ _ s2.1 h
   exact ⟨(s1.trans s2).trans a1, a2, a3, a4, by rw [a5]; simp⟩
theorem Hy {l : List Tok} (hk : l.length < 1099511627776) : ∀ (f : Nat) (N : List Str) (S_ : List (Int × Int)) (I : List Int) (Q : List Str) (C : List Cmd) (k M : Nat), Pa.Ends (l.drop k) → (l.drop k).length < f → (l.drop k).length < M → N.length ≤ k → S_.length ≤ k → I.length ≤ k → Q.length ≤ k →
  RdA (gP f (N, S_, I, Q, C) (l.drop k)) (aj (jT l) M ((k : Int), N, S_, I, Q, C))
 | 0, N, S_, I, Q, C, k, M, he, hf, hM, _, _, _, _ => by omega
 | f + 1, N, S_, I, Q, C, k, 0, he, hf, hM, _, _, _, _ => by omega
 | f + 1, N, S_, I, Q, C, k, M + 1, he, hf, hM, bN, bS, bI, bQ => by
  rw [ar]
  obtain ⟨t, r, ht⟩ := he.ne
  have hd := dm ht
  have hw : IntKind.i64.wrap ((k : Int) + 1) = ((k + 1 : Nat) : Int) := cI (by omega)
  simp only [jT]
  rw [sF N S_ I Q C ht, ai, Bb N S_ I Q C ht, Bb N S_ I Q C ht, ai, hw, ht]
  unfold gP
  simp only
  have hr : t.1 ≠ 4 → Pa.Ends (l.drop (k + 1)) := fun h => by
   rw [hd.2.1]
   rw [ht] at he
   exact he.tail h
  have hdl : (l.drop k).length = r.length + 1 := by rw [ht]; rfl
  cases h4 : (t.1 == 4)
  ·rw [show (t.1 != 4) = true by simpa [bne] using h4, cond_true, cond_false]
   have ht4 : t.1 ≠ 4 := by simpa using h4
   cases hv : isT 1 [118, 97, 114] t
   ·simp only [cond_false, ai]
    cases hp : isT 1 [112, 114, 111, 99] t
    ·simp only [Bool.not_false, cond_true, cond_false, mf N S_ I Q C ht, km]; rfl
    ·simp only [Bool.not_true, cond_true, cond_false]
     have h := I4 N S_ I Q C (l := l) (k := k + 1) (hr ht4) hk (by omega) (by omega)
     rw [hd.2.1] at h
     cases e1 : im (N, S_, I, Q, C) r with
     | error e =>
      rw [e1] at h
      rw [show gG l ((k + 1 : Nat) : Int) N S_ I Q C = some (.error e) from h]
      rfl
     | ok p =>
      rw [e1] at h
      obtain ⟨k1, m1, d1⟩ := h
      obtain ⟨s1, a2, a3, a4, a5⟩ := vO (by rw [← hd.2.1]; exact hr ht4) e1
      have hkk : k + 1 < k1 := rR hd.2.1 d1 s1.2
      rw [m1, fG]
      simp only at a2 a3 a4 a5 ⊢
      have ih := Hy hk f p.1.1 p.1.2.1 p.1.2.2.1 p.1.2.2.2.1 p.1.2.2.2.2 k1 M (by rw [d1]; exact s1.1) (by rw [d1]; have := s1.2; omega) (by rw [d1]; have := s1.2; omega) (by rw [a2]; omega) (by rw [a3]; omega) (by rw [a4]; omega) (by rw [a5]; omega)
      rw [d1] at ih
      have e2 : ((k1 : Int), N, S_, I, p.1.2.2.2.1, p.1.2.2.2.2) = ((k1 : Int), p.1.1, p.1.2.1, p.1.2.2.1, p.1.2.2.2.1, p.1.2.2.2.2) := by rw [a2, a3, a4]
      rw [e2]
      exact ih
   ·simp only [cond_true]
    have h := Hz N S_ I Q C (l := l) (k := k + 1) (hr ht4) hk (by omega) (by omega) (by omega) (by omega)
    rw [hd.2.1] at h
    cases e1 : jK (N, S_, I, Q, C) r with
    | error e =>
     rw [e1] at h
     rw [show fW l ((k + 1 : Nat) : Int) N S_ I Q C = some (.error e) from h]
     rfl
    | ok p =>
     rw [e1] at h
     obtain ⟨k1, m1, d1⟩ := h
     obtain ⟨s1, name, lo, hi, first, hp, _⟩ := yr (by rw [← hd.2.1]; exact hr ht4) e1
     have hkk : k + 1 < k1 := rR hd.2.1 d1 s1.2
     rw [m1, fG]
     simp only at hp ⊢
     have ih := Hy hk f p.1.1 p.1.2.1 p.1.2.2.1 p.1.2.2.2.1 p.1.2.2.2.2 k1 M (by rw [d1]; exact s1.1) (by rw [d1]; have := s1.2; omega) (by rw [d1]; have := s1.2; omega) (by rw [hp]; simp; omega) (by rw [hp]; simp; omega) (by rw [hp]; simp; omega) (by rw [hp]; simp; omega)
     rw [d1] at ih
     have e2 : ((k1 : Int), p.1.1, p.1.2.1, p.1.2.2.1, Q, C) = ((k1 : Int), p.1.1, p.1.2.1, p.1.2.2.1, p.1.2.2.2.1, p.1.2.2.2.2) := by rw [hp]
     rw [e2]
     exact ih
  ·rw [show (t.1 != 4) = false by simpa [bne] using h4, cond_true, cond_false]
   cases N with
   | nil =>
    rw [show ((List.length ([] : List Str) : Int) == 0) = true from rfl, cond_true]
    simp only [mf [] S_ I Q C ht, km]
    rfl
   | cons x N =>
    rw [show ((List.length (x :: N) : Int) == 0) = false by simp; omega, cond_false]
    exact ⟨k, rfl⟩
theorem Ge (text : Str) : fp text = some (ue (qJ text)) := by
 unfold fp qJ
 rw [Lx.IG, ai]
 unfold Lx.tokens
 by_cases h : 65536 < text.length
 ·rw [if_pos h, if_pos h]
  rfl
 ·rw [if_neg h, if_neg h]
  have hx : Lx.fC (text.length + 1) 0 text = Lx.lex text := rfl
  rw [hx]
  cases hl : Lx.lex text with
  | error e =>
   have h0 : (e.1 != 0) = true := bne_iff_ne.2 (DU _ _ _ _ hl)
   simp only [Lx.res, h0, cond_true]
   rfl
  | ok l =>
   have hg := vz hl
   have hlen := hg.len
   simp only [Lx.res, show ((0 : Int) != 0) = false from rfl, cond_false]
   have := Hy (l := l) (by omega) (l.length + 1) [] [] [] [] [] 0 al (by simpa using hg.ends) (by simp) (by show _ < 2 ^ 64; simp; omega) (by simp) (by simp) (by simp) (by simp)
   unfold pN
   rw [show l.drop 0 = l from rfl, show ((0 : Nat) : Int) = 0 from rfl] at this
   have hs : gP (l.length + 1) ([], [], [], [], []) l = Sy.sys l := rfl
   rw [hs] at this
   cases hsys : Sy.sys l with
   | error e =>
    rw [hsys] at this
    rw [show aj (jT l) al (0, [], [], [], [], []) = some (.error e) from this]
    rfl
   | ok m =>
    rw [hsys] at this
    obtain ⟨k, hm⟩ := this
    rw [hm]
    rfl
end Mo
end Go.Proofs.YtdhgpnejphlfpaaGreatDoor
namespace Go.Proofs.YtdhgpnejphlfpaaGreatDoor
namespace Mo
open Pa Sy
theorem Fe {m : Mdl} {ts : List Tok} {p : Mdl × List Tok} (he : Pa.Ends ts) (h : im m ts = .ok p) : p.1.2.2.2.1.length ≤ m.2.2.2.1.length + 1 := by
 have := (vO he h).2.2.2.2
 omega
theorem Ed : ∀ (f : Nat) (m : Mdl) (ts : List Tok) (p : Mdl), Pa.Ends ts → gP f m ts = .ok p → p.2.2.2.1.length ≤ m.2.2.2.1.length + ts.length := by
 intro f
 induction f with
 | zero => intro _ _ _ _ h; simp [gP] at h
 | succ f ih =>
  intro m ts p he h
  obtain ⟨t, r, rfl⟩ := he.ne
  simp only [gP] at h
  cases c4 : (t.1 == 4)
  ·rw [c4] at h
   simp only [cond_false] at h
   have her := he.tail (by simpa using c4)
   cases cv : isT 1 [118, 97, 114] t
   ·rw [cv] at h
    simp only [cond_false] at h
    cases cp : isT 1 [112, 114, 111, 99] t
    ·rw [cp] at h; cases h
    ·rw [cp] at h
     simp only [cond_true] at h
     cases h1 : im m r with
     | error e => rw [h1] at h; cases h
     | ok q =>
      obtain ⟨m', r'⟩ := q
      rw [h1] at h
      simp only at h
      have g := vO her h1
      have g1 := Fe her h1
      have i1 := ih m' r' p g.1.1 h
      have := g.1.2
      simp only [List.length_cons] at *
      omega
   ·rw [cv] at h
    simp only [cond_true] at h
    cases h1 : jK m r with
    | error e => rw [h1] at h; cases h
    | ok q =>
     obtain ⟨m', r'⟩ := q
     rw [h1] at h
     simp only at h
     obtain ⟨g, name, lo, hi, first, g2, _⟩ := yr her h1
     have i1 := ih m' r' p g.1 h
     have := g.2
     simp only at g2
     rw [g2] at i1
     simp only [List.length_cons] at *
     omega
  ·rw [c4] at h
   simp only [cond_true] at h
   cases hne : m.1.isEmpty
   ·rw [hne] at h; cases h; simp only [List.length_cons]; omega
   ·rw [hne] at h; cases h
theorem Ko {text : Str} {m : Mdl} (h : qJ text = .ok m) : Sml m := by
 refine Sml.of (IJ h).toPart ?_
 unfold qJ at h
 split at h
 ·cases h
 ·rename_i hl
  cases hx : Lx.lex text with
  | error e => rw [hx] at h; cases h
  | ok l =>
   rw [hx] at h
   have hg := vz hx
   have := Ed _ _ _ _ hg.ends h
   have := hg.len
   simp at *
   omega
theorem Ks (text : Str) : Sml (ue (qJ text)).1 := by
 cases h : qJ text with
 | error e => exact Sml.empty
 | ok m => exact Ko h
end Mo
end Go.Proofs.YtdhgpnejphlfpaaGreatDoor
namespace Go.Proofs.YtdhgpnejphlfpaaGreatDoor
namespace Mo
theorem Gi : ly = some true := by
 show _ = _
 kernel_rfl
end Mo
end Go.Proofs.YtdhgpnejphlfpaaGreatDoor
namespace Go.Proofs.YtdhgpnejphlfpaaGreatDoor
theorem FI (name : Str) : fH name = some (gn.contains name) := by
 unfold fH oR gn
 simp only [List.contains_cons, List.contains_nil, Bool.or_false]
 cases (name == [116, 114, 117, 101])
 case true => rfl
 cases (name == [102, 97, 108, 115, 101])
 case true => rfl
 cases (name == [88])
 case true => rfl
 cases (name == [70])
 case true => rfl
 cases (name == [71])
 case true => rfl
 cases (name == [85])
 case true => rfl
 cases (name == [82])
 case true => rfl
 cases (name == [118, 97, 114])
 case true => rfl
 cases (name == [112, 114, 111, 99]) <;> rfl
end Go.Proofs.YtdhgpnejphlfpaaGreatDoor
