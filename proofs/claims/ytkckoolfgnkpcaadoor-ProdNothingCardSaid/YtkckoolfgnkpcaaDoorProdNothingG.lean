/-
  Own texts for the statement ProdNothing, cut down to what it needs: StA, TrEval, StB1, StN, PdA, PdS, SysErr, StC1, StC2, TrREval, StC4, StR0, StC5, StRo, PdC, KFr, KFx, KArg, PdCt. (cut and joined by a program)
-/
import Derived.Test.YtkckoolfgnkpcaaDoorProdNothingA
import Derived.Test.YtkckoolfgnkpcaaDoorProdNothingB
import Derived.Test.YtkckoolfgnkpcaaDoorProdNothingC
import Derived.Test.YtkckoolfgnkpcaaDoorProdNothingD
import Derived.Test.YtkckoolfgnkpcaaDoorProdNothingE
import Derived.Test.YtkckoolfgnkpcaaDoorProdNothingF
import Derived.KernelRfl
import Derived.Lib.LaidTab
import Derived.Below
import Derived.WalkKit
import Derived.ProofKit
import Derived.Test.YtkckoolfgnkpcaaDoorRows
import Derived.Carry
import Derived.ChangeSlices
import Derived.OpenShut
namespace Go.Proofs.YtkckoolfgnkpcaaDoor
namespace Sp
theorem Ey (d : Nat) (h : d < 10) : Lx.dig (UInt8.ofNat (48 + d)) = d ∧ Lx.isDigit (UInt8.ofNat (48 + d)) = true := by
 have : d = 0 ∨ d = 1 ∨ d = 2 ∨ d = 3 ∨ d = 4 ∨ d = 5 ∨ d = 6 ∨ d = 7 ∨ d = 8 ∨ d = 9 := by omega
 rcases this with rfl | rfl | rfl | rfl | rfl | rfl | rfl | rfl | rfl | rfl <;> exact ⟨rfl, rfl⟩
theorem wQ : ∀ (N n : Nat), n ≤ N → Lx.dw 0 (Lib.decDigits n) = n ∧ (Lib.decDigits n).all Lx.isDigit = true ∧ Lib.decDigits n ≠ [] := by
 intro N
 induction N with
 | zero =>
  intro n h
  obtain rfl : n = 0 := by omega
  rw [Lib.decDigits, dif_pos (by omega)]
  exact ⟨rfl, rfl, by simp⟩
 | succ N ih =>
  intro n h
  rw [Lib.decDigits]
  split
  ·rename_i hn
   obtain ⟨h1, h2⟩ := Ey n hn
   refine ⟨?_, by simp only [List.all_cons, h2, List.all_nil, Bool.and_self], by simp⟩
   show 10 * 0 + Lx.dig (UInt8.ofNat (48 + n)) = n
   rw [h1]; omega
  ·rename_i hn
   obtain ⟨h1, h2⟩ := Ey (n % 10) (by omega)
   obtain ⟨i1, i2, _⟩ := ih (n / 10) (by omega)
   refine ⟨?_, by simp only [List.all_append, i2, List.all_cons, h2, List.all_nil, Bool.and_self], by simp⟩
   unfold Lx.dw at *
   rw [List.foldl_append, i1]
   show 10 * ((n / 10 : Nat) : Int) + Lx.dig (UInt8.ofNat (48 + n % 10)) = n
   rw [h1]; omega
theorem Dq {m n : Nat} (h : Lib.decDigits m = Lib.decDigits n) : m = n := by
 have h1 := (wQ m m (Nat.le_refl _)).1
 have h2 := (wQ n n (Nat.le_refl _)).1
 rw [h, h2] at h1
 omega
theorem wL {c : UInt8} (h : Lx.isDigit c = true) : c ≠ 45 ∧ c ≠ 32 := by
 constructor <;> (intro e; subst e; cases h)
theorem yK (n : Nat) : ∀ c ∈ Lib.decDigits n, Lx.isDigit c = true := fun c hc => List.all_eq_true.1 (wQ n n (Nat.le_refl _)).2.1 c hc
theorem Kd {x y : Int} (h : Lib.itoa x = Lib.itoa y) : x = y := by
 have hh : ∀ (m n : Nat), Lib.decDigits m ≠ 45 :: Lib.decDigits n := fun m n e => by
  have := yK m 45 (by rw [e]; simp)
  exact (wL this).1 rfl
 unfold Lib.itoa at h
 split at h <;> split at h
 ·have := Dq (List.cons.inj h).2
  omega
 ·exact absurd h.symm (hh _ _)
 ·exact absurd h (hh _ _)
 ·have := Dq h
  omega
theorem Ab (x : Int) : ∀ c ∈ Lib.itoa x, c ≠ 32 := by
 intro c hc
 unfold Lib.itoa at hc
 split at hc
 ·rcases List.mem_cons.1 hc with rfl | hc
  ·decide
  ·exact (wL (yK _ c hc)).2
 ·exact (wL (yK _ c hc)).2
theorem rk : ∀ (k u : Nat), u < 10 ^ (k + 1) → Lib.nDigits u ≤ k + 1
 | 0, u, h => by rw [Lib.nDigits_small (by simpa using h)]; omega
 | k + 1, u, h => by
  by_cases hu : u < 10
  ·rw [Lib.nDigits_small hu]; omega
  ·rw [Lib.nDigits_big hu]
   have := rk k (u / 10) (by rw [Nat.div_lt_iff_lt_mul (by omega), ← Nat.pow_succ]; exact h)
   omega
theorem zo {n : Int} (h0 : -9223372036854775808 ≤ n) (h1 : n ≤ 9223372036854775807) : (Lib.itoa n).length ≤ 20 := by
 unfold Lib.itoa
 split
 ·rw [List.length_cons, Lib.decDigits_length]
  have := rk 18 n.natAbs (by omega)
  omega
 ·rw [Lib.decDigits_length]
  have := rk 18 n.toNat (by omega)
  omega
noncomputable def cD (v : List Int) : Str := v.flatMap fun n => Lib.itoa n ++ [32]
theorem Li {a b r s : Str} (ha : ∀ c ∈ a, c ≠ 32) (hb : ∀ c ∈ b, c ≠ 32) (h : a ++ 32 :: r = b ++ 32 :: s) : a = b ∧ r = s := by
 induction a generalizing b with
 | nil =>
  cases b with
  | nil => simp only [List.nil_append, List.cons.injEq, true_and] at h; exact ⟨rfl, h⟩
  | cons c b => simp only [List.nil_append, List.cons_append, List.cons.injEq] at h; exact absurd h.1.symm (hb c (by simp))
 | cons c a ih =>
  cases b with
  | nil => simp only [List.nil_append, List.cons_append, List.cons.injEq] at h; exact absurd h.1 (ha c (by simp))
  | cons d b =>
   simp only [List.cons_append, List.cons.injEq] at h
   obtain ⟨rfl, h⟩ := h
   obtain ⟨rfl, h2⟩ := ih (fun c hc => ha c (List.mem_cons_of_mem _ hc)) (fun c hc => hb c (List.mem_cons_of_mem _ hc)) h
   exact ⟨rfl, h2⟩
theorem wY : ∀ {a b : List Int}, cD a = cD b → a = b
 | [], [], _ => rfl
 | [], y :: b, h => by
  simp only [cD, List.flatMap_nil, List.flatMap_cons] at h
  have := congrArg List.length h
  simp at this
 | x :: a, [], h => by
  simp only [cD, List.flatMap_nil, List.flatMap_cons] at h
  have := congrArg List.length h
  simp at this
 | x :: a, y :: b, h => by
  simp only [cD, List.flatMap_cons, List.append_assoc, List.singleton_append] at h
  obtain ⟨h1, h2⟩ := Li (Ab x) (Ab y) h
  rw [Kd h1, wY h2]
theorem Kl (a b : List Int) : cD (a ++ b) = cD a ++ cD b := by simp [cD]
theorem tl (s : Str) : strOf (bytesOf s) = s := by
 induction s with
 | nil => rfl
 | cons c s ih =>
  simp only [strOf, bytesOf, List.map_cons, List.map_map] at ih ⊢
  rw [ih]; simp
theorem rz (a b : Str) : bytesOf (a ++ b) = bytesOf a ++ bytesOf b := by simp [bytesOf]
theorem iE (s : Str) : (bytesOf s).length = s.length := by simp [bytesOf]
noncomputable def I64 (v : List Int) : Prop := ∀ n ∈ v, -9223372036854775808 ≤ n ∧ n ≤ 9223372036854775807
theorem BW {v : List Int} (h : I64 v) : (cD v).length ≤ 21 * v.length := by
 induction v with
 | nil => simp [cD]
 | cons n v ih =>
  have h1 := h n (by simp)
  have := zo h1.1 h1.2
  have := ih (fun m hm => h m (List.mem_cons_of_mem _ hm))
  simp only [cD, List.flatMap_cons, List.length_append, List.length_cons, List.length_nil] at *
  omega
theorem copy_eq (f : Bool) (l : List Int) : ed f l = some true := by cases f <;> rfl
theorem Oa {s : Str} {l : List Int} (f : Bool) (h : l.length + s.length ≤ 140737488355328) : dJ s f l = some ((s.length : Int), true, l ++ bytesOf s) := by
 unfold dJ
 rw [copy_eq, ai, Sy.cb (Sy.bO (by omega) (by omega))]
theorem Ot {l : List Int} (c : Int) (f : Bool) (h : l.length + 1 ≤ 140737488355328) : ek c f l = some (true, l ++ [c]) := by
 unfold ek
 rw [copy_eq, ai, Sy.cb (Sy.bO (by simp; omega) (by simp; omega))]
theorem HS (f : Bool) {s : Str} (h : bytesOf s ≠ []) : fy f (bytesOf s) = some s := by
 have e : strOf (bytesOf s) = s := tl s
 cases hb : bytesOf s with
 | nil => exact absurd hb h
 | cons c l =>
  rw [hb] at e
  unfold fy
  rw [show idx (c :: l) 0 = some c from rfl, ai, Sy.cb (by simp), e]
theorem MO {x : Int} (h : zh x = true) : Ar x = some (Lib.itoa x) := Sy.cb h _
theorem Ae (v : List Int) (hv : I64 v) (hl : v.length < 1000000000) (hne : v ≠ []) : ∀ (r pre : List Int), v = pre ++ r → ∀ (M : Nat) (f : Bool), r.length < M →
  ao (mz v) M (f, bytesOf (cD pre), (pre.length : Int)) = some (cD v)
 | [], pre, h, M, f, hM => by
  obtain ⟨m, rfl⟩ : ∃ m, M = m + 1 := ⟨M - 1, by simp at hM; omega⟩
  rw [an]
  have e : pre = v := by simpa using h.symm
  subst e
  simp only [mz, decide_eq_false (show ¬ ((pre.length : Int) < (List.length pre : Int)) by omega), cond_false]
  rw [HS, ai]
  cases pre with
  | nil => exact absurd rfl hne
  | cons x r =>
   intro e
   have : (bytesOf (cD (x :: r))).length ≠ 0 := by rw [iE]; simp [cD]
   rw [e] at this
   exact this rfl
 | x :: r, pre, h, M, f, hM => by
  obtain ⟨m, rfl⟩ : ∃ m, M = m + 1 := ⟨M - 1, by omega⟩
  rw [an]
  have hx := hv x (by rw [h]; simp)
  have hlen : pre.length + r.length + 1 = v.length := by rw [h]; simp; omega
  have hi : zh x = true := BY.2 hx
  have hp : I64 pre := fun n hn => hv n (by rw [h]; exact List.mem_append_left _ hn)
  have hb := BW hp
  have hxl := zo hx.1 hx.2
  have ih := Ae v hv hl hne r (pre ++ [x]) (by rw [h]; simp) m true (by simp at hM; omega)
  rw [show ((pre ++ [x]).length : Int) = ((pre.length + 1 : Nat) : Int) by simp] at ih
  have e1 : bytesOf (cD (pre ++ [x])) = (bytesOf (cD pre) ++ bytesOf (Lib.itoa x)) ++ [32] := by
   rw [Kl, rz]
   simp only [cD, List.flatMap_cons, List.flatMap_nil, List.append_nil, rz, List.append_assoc]
   rfl
  rw [e1] at ih
  simp only [mz, Sy.eK h, cond_true, Sy.mid h, ai, MO hi]
  rw [Oa f (by rw [iE]; omega), ai]
  simp only
  rw [Ot 32 true (by rw [List.length_append, iE, iE]; omega), ai]
  simp only [Pa.bu (show pre.length < 4611686018427387904 by omega)]
  exact ih
theorem Ll {v : List Int} (hv : I64 v) (hl : v.length < 1000000000) (hne : v ≠ []) : uG v = some (cD v) :=
 Ae v hv hl hne v [] rfl au false (by show v.length < 2 ^ 64; omega)
/-! sets of states -/
noncomputable def cB (l : List (List Int)) (v : List Int) : List (List Int) := if l.contains v then l else l ++ [v]
noncomputable def bC (acc l : List (List Int)) : List (List Int) := l.foldl cB acc
noncomputable def Seen (l : List (List Int)) (at_ : Option (List (Str × Bool))) : Prop := (at_ = none → l = []) ∧ ∀ v, iP at_ (cD v) false = l.contains v
theorem KA : Seen [] none := ⟨fun _ => rfl, fun _v => rfl⟩
theorem zK (l : List (Str × Bool)) (k k' : Str) : (mI (kM l k true) k').getD false = ((k' == k) || (mI l k').getD false) := by
 induction l with
 | nil =>
  simp only [kM, mI]
  cases hk : (k' == k) <;> rfl
 | cons p l ih =>
  simp only [kM]
  cases h1 : (k == p.1)
  ·simp only [cond_false, mI]
   cases h2 : (k' == p.1)
   ·simp only [cond_false]; exact ih
   ·simp only [cond_true]
    have e1 : k' = p.1 := by simpa using h2
    have e2 : (k' == k) = false := by
     rw [beq_eq_false_iff_ne] at h1 ⊢
     intro e; exact h1 (by rw [← e, e1])
    rw [e2, Bool.false_or]
  ·simp only [cond_true, mI]
   have e1 : k = p.1 := by simpa using h1
   cases h2 : (k' == k)
   ·simp only [cond_false, Bool.false_or]
    have : (k' == p.1) = false := by rw [← e1]; exact h2
    rw [this]; rfl
   ·rfl
theorem add_eq {v : List Int} {l : List (List Int)} {at_ : Option (List (Str × Bool))} (hv : I64 v) (hl : v.length < 1000000000) (hne : v ≠ []) (hll : l.length < 1000000000) (hs : Seen l at_) :
  ∃ at', fR v l at_ = some (cB l v, at') ∧ Seen (cB l v) at' := by
 have k1 : aw (List.length l + List.length ([v] : List (List Int))) 24 = true := Sy.bO (by simp; omega) (by simp; omega)
 have key : ∀ mp : List (Str × Bool), Seen l (some mp) → ∃ at', lr v l (some mp) = some (cB l v, at') ∧ Seen (cB l v) at' := fun mp hs => by
  unfold lr
  rw [Ll hv hl hne, ai, hs.2 v]
  unfold cB
  cases hc : l.contains v
  ·simp only [Bool.not_false, cond_true, ai, Sy.cb k1, Bool.false_eq_true, if_false]
   refine ⟨_, rfl, (fun h => by cases h), fun u => ?_⟩
   have h1 := hs.2 u
   unfold iP at h1 ⊢
   simp only [Option.getD_some] at h1 ⊢
   rw [zK, h1]
   have e : (cD u == cD v) = (u == v) := by
    by_cases h : u = v
    ·rw [h]; simp
    ·rw [beq_eq_false_iff_ne.2 h, beq_eq_false_iff_ne.2 (fun e => h (wY e))]
   rw [e]
   simp only [List.contains_eq_any_beq, List.any_append, List.any_cons, List.any_nil, Bool.or_false]
   rw [Bool.or_comm]
  ·simp only [Bool.not_true, cond_false, if_true]
   exact ⟨_, rfl, hs⟩
 unfold fR
 cases at_ with
 | none =>
  simp only [Option.isNone_none, cond_true]
  refine key [] ⟨(fun h => by cases h), fun u => ?_⟩
  exact hs.2 u
 | some mp =>
  simp only [Option.isNone_some, cond_false]
  exact key mp hs
theorem j4 (l : List (List Int)) (v : List Int) : (cB l v).length ≤ l.length + 1 := by
 unfold cB; split <;> simp
theorem sL {l : List (List Int)} {v u : List Int} : u ∈ cB l v ↔ u ∈ l ∨ u = v := by
 unfold cB
 split
 ·rename_i h
  have : v ∈ l := by simpa using h
  constructor
  ·exact .inl
  ·rintro (h | rfl)
   ·exact h
   ·exact this
 ·simp
theorem Fw {l : List (List Int)} (h : l.Nodup) (v : List Int) : (cB l v).Nodup := by
 unfold cB
 split
 ·exact h
 ·rename_i hc
  rw [List.nodup_append]
  refine ⟨h, by simp, fun a ha b hb => ?_⟩
  rw [List.mem_singleton.1 hb]
  intro e
  subst e
  exact hc (by simpa using ha)
theorem nH : ∀ (m l : List (List Int)), (bC l m).length ≤ l.length + m.length
 | [], l => by simp [bC]
 | v :: m, l => by
  have := nH m (cB l v)
  have := j4 l v
  simp only [bC, List.foldl_cons, List.length_cons] at *
  omega
theorem eB {u : List Int} : ∀ {m l : List (List Int)}, u ∈ bC l m ↔ u ∈ l ∨ u ∈ m
 | [], l => by simp [bC]
 | v :: m, l => by
  have := eB (u := u) (m := m) (l := cB l v)
  simp only [bC, List.foldl_cons] at *
  rw [this, sL]
  simp only [List.mem_cons]
  constructor
  ·rintro ((h | h) | h)
   ·exact .inl h
   ·exact .inr (.inl h)
   ·exact .inr (.inr h)
  ·rintro (h | h | h)
   ·exact .inl (.inl h)
   ·exact .inl (.inr h)
   ·exact .inr h
theorem sU : ∀ {m l : List (List Int)}, l.Nodup → (bC l m).Nodup
 | [], l, h => h
 | v :: m, l, h => by
  have := sU (m := m) (Fw h v)
  simpa only [bC, List.foldl_cons] using this
theorem wB : ∀ (m l : List (List Int)), l <+: bC l m
 | [], l => List.prefix_refl _
 | v :: m, l => by
  have h1 := wB m (cB l v)
  have h2 : l <+: cB l v := by
   unfold cB
   split
   ·exact List.prefix_refl _
   ·exact List.prefix_append _ _
  simp only [bC, List.foldl_cons] at *
  exact h2.trans h1
end Sp
end Go.Proofs.YtkckoolfgnkpcaaDoor
namespace Go.Proofs.YtkckoolfgnkpcaaDoor
theorem Iv (b : Bool) : ml b = some (tr b) := by cases b <;> rfl
theorem tL (k : Ex × List Int → Option Int) (e : Ex) (v : List Int) (again : Int × Int × Int → Option Int) (a b t : Int) (h : ¬ t < (List.length (dm e.l 0 (min (List.length e.l : Int) 2)) : Int)) :
  bU k e v again (a, b, t) = some (evF e.op e.n v a b) := by
 simp only [bU, decide_eq_false h, cond_false, bl, pR, qw, qd, pV, qu, Iv, ai, evF]
 cases c2 : (decide (e.n < 0) || decide ((List.length v : Int) ≤ e.n))
 ·have h1 : idx v e.n = some (v.getD e.n.toNat 0) := by
   simp only [Bool.or_eq_false_iff, decide_eq_false_iff_not] at c2
   unfold idx
   rw [if_pos (by omega), List.getElem?_eq_getElem (by omega)]
   simp [List.getD, List.getElem?_eq_getElem (show e.n.toNat < v.length by omega)]
  rw [h1]
  generalize (e.op == 1) = b1
  generalize (e.op == 2) = b2
  generalize (e.op == 3) = b3
  generalize (e.op == 5) = b5
  generalize (e.op == 6) = b6
  generalize (e.op == 4) = b4
  generalize (e.op == 8) = b8
  generalize (e.op == 7) = b7
  generalize (e.op == 19) = b19
  generalize (e.op == 12) = b12
  generalize (e.op == 9) = b9
  generalize (e.op == 11) = b11
  generalize (e.op == 10) = b10
  generalize (e.op == 13) = b13
  generalize (e.op == 15) = b15
  generalize (e.op == 16) = b16
  generalize (e.op == 17) = b17
  generalize (e.op == 18) = b18
  cases b1
  case true => rfl
  cases b2
  case true => rfl
  cases b3
  case true => rfl
  cases b5
  case true => rfl
  cases b6
  case true => rfl
  cases b4
  case true => rfl
  cases b8
  case true => rfl
  cases b7
  case true => rfl
  cases b19
  case true => rfl
  cases b12
  case true => rfl
  cases b9
  case true => rfl
  cases b11
  case true => rfl
  cases b10
  case true => rfl
  cases b13
  case true => rfl
  cases b15
  case true => rfl
  cases b16
  case true => rfl
  cases b17
  case true => rfl
  cases b18 <;> rfl
 ·generalize (e.op == 1) = b1
  generalize (e.op == 2) = b2
  generalize (e.op == 3) = b3
  generalize (e.op == 5) = b5
  generalize (e.op == 6) = b6
  generalize (e.op == 4) = b4
  generalize (e.op == 8) = b8
  generalize (e.op == 7) = b7
  generalize (e.op == 19) = b19
  generalize (e.op == 12) = b12
  generalize (e.op == 9) = b9
  generalize (e.op == 11) = b11
  generalize (e.op == 10) = b10
  generalize (e.op == 13) = b13
  generalize (e.op == 15) = b15
  generalize (e.op == 16) = b16
  generalize (e.op == 17) = b17
  generalize (e.op == 18) = b18
  cases b1
  case true => rfl
  cases b2
  case true => rfl
  cases b3
  case true => rfl
  cases b5
  case true => rfl
  cases b6
  case true => rfl
  cases b4
  case true => rfl
  cases b8
  case true => rfl
  cases b7
  case true => rfl
  cases b19
  case true => rfl
  cases b12
  case true => rfl
  cases b9
  case true => rfl
  cases b11
  case true => rfl
  cases b10
  case true => rfl
  cases b13
  case true => rfl
  cases b15
  case true => rfl
  cases b16
  case true => rfl
  cases b17
  case true => rfl
  cases b18 <;> rfl
theorem NH (k : Ex × List Int → Option Int) (e : Ex) (v : List Int) (hk : ∀ x ∈ e.l, k (x, v) = some (ev v x)) : lb k e v = some (ev v e) := by
 unfold lb
 have hc : kJ 0 (min (List.length e.l : Int) 2) (List.length e.l) = true := sq.2 ⟨⟨Int.le_refl _, by omega⟩, by omega⟩
 rw [hc, yg]
 show ao (bU k e v) au (0, 0, 0) = _
 rw [show au = 18446744073709551613 + 1 + 1 + 1 from rfl]
 generalize 18446744073709551613 = N
 rw [an]
 obtain ⟨op, n, a, l⟩ := e
 match l, hk with
 | [], _ => exact tL k (.mk op n a []) v _ 0 0 0 (by show ¬ (0 : Int) < ((List.length (dm ([] : List Ex) 0 _) : Nat) : Int); simp [dm])
 | [x], hk =>
  have hx := hk x (by simp [Ex.l])
  have hl : dm [x] 0 (min (List.length [x] : Int) 2) = [x] := rfl
  have h1 : bU k (.mk op n a [x]) v (ao (bU k (.mk op n a [x]) v) (N + 1 + 1)) (0, 0, 0) = ao (bU k (.mk op n a [x]) v) (N + 1 + 1) (ev v x, 0, 1) := by
   simp only [bU, Ex.l, hl]
   show (k (x, v)).bind _ = _
   rw [hx]
   rfl
  rw [h1, an]
  exact tL k (.mk op n a [x]) v _ (ev v x) 0 1 (by show ¬ (1 : Int) < (List.length (dm [x] 0 (min (List.length [x] : Int) 2)) : Int); rw [hl]; simp)
 | x :: y :: r, hk =>
  have hx := hk x (by simp [Ex.l])
  have hy := hk y (by simp [Ex.l])
  have hm : min (List.length (x :: y :: r) : Int) 2 = 2 := by simp only [List.length_cons]; omega
  have hl : dm (x :: y :: r) 0 2 = [x, y] := rfl
  have h1 : bU k (.mk op n a (x :: y :: r)) v (ao (bU k (.mk op n a (x :: y :: r)) v) (N + 1 + 1)) (0, 0, 0) = ao (bU k (.mk op n a (x :: y :: r)) v) (N + 1 + 1) (ev v x, 0, 1) := by
   show (bif decide ((0 : Int) < (List.length (dm (x :: y :: r) 0 (min (List.length (x :: y :: r) : Int) 2)) : Int)) then (idx (dm (x :: y :: r) 0 (min (List.length (x :: y :: r) : Int) 2)) 0).bind _ else _) = _
   rw [hm, hl]
   show (k (x, v)).bind _ = _
   rw [hx]
   rfl
  have h2 : bU k (.mk op n a (x :: y :: r)) v (ao (bU k (.mk op n a (x :: y :: r)) v) (N + 1)) (ev v x, 0, 1) = ao (bU k (.mk op n a (x :: y :: r)) v) (N + 1) (ev v x, ev v y, 2) := by
   show (bif decide ((1 : Int) < (List.length (dm (x :: y :: r) 0 (min (List.length (x :: y :: r) : Int) 2)) : Int)) then (idx (dm (x :: y :: r) 0 (min (List.length (x :: y :: r) : Int) 2)) 1).bind _ else _) = _
   rw [hm, hl]
   show (k (y, v)).bind _ = _
   rw [hy]
   rfl
  rw [h1, an, h2, an]
  exact tL k (.mk op n a (x :: y :: r)) v _ (ev v x) (ev v y) 2 (by show ¬ (2 : Int) < (List.length (dm (x :: y :: r) 0 (min (List.length (x :: y :: r) : Int) 2)) : Int); rw [hm, hl]; simp)
theorem G7 : ∀ (N : Nat) (e : Ex) (v : List Int), e.sz ≤ N → ao (fun k (s : Ex × List Int) => lb k s.1 s.2) N (e, v) = some (ev v e) := by
 intro N
 induction N with
 | zero => intro e _ h; have := rD e; omega
 | succ N ih =>
  intro e v h
  rw [an]
  exact NH _ e v (fun x hx => ih x v (by have := tg hx; omega))
theorem yt (e : Ex) (h : e.sz < 4611686018427387904) (v : List Int) : ji e v = some (ev v e) := G7 au e v (by show e.sz ≤ 2 ^ 64; omega)
end Go.Proofs.YtkckoolfgnkpcaaDoor
namespace Go.Proofs.YtkckoolfgnkpcaaDoor
namespace Sp
noncomputable def fits : List (Int × Int) → List Int → Bool
 | s :: S, n :: w => (decide (s.1 ≤ n) && decide (n ≤ s.2)) && fits S w
 | _, _ => true
noncomputable def uu (v w : List Int) (s : Int × Ex) : List Int := w.set s.1.toNat (ev v s.2)
noncomputable def E1 (v : List Int) (c : Sy.Cmd) : List Int := c.2.2.foldl (uu v) v
theorem wu (v w : List Int) (s : Int × Ex) : (uu v w s).length = w.length := by simp [uu]
theorem zQ (v : List Int) : ∀ (l : List (Int × Ex)) (w : List Int), (l.foldl (uu v) w).length = w.length
 | [], w => rfl
 | s :: l, w => by rw [List.foldl_cons, zQ v l, wu]
theorem tT (v : List Int) (c : Sy.Cmd) : (E1 v c).length = v.length := zQ _ _ _
noncomputable def fin (S : List (Int × Int)) (w : List Int) : List Int × Int := bif fits S w then (w, 0) else ([], 6)
noncomputable def enI (v : List Int) : Nat → List Sy.Cmd → List Int
 | _, [] => []
 | k, c :: r => if ev v c.2.1 = 1 then (k : Int) :: enI v (k + 1) r else enI v (k + 1) r
noncomputable def enC (v : List Int) (l : List Sy.Cmd) : List Sy.Cmd := l.filter fun c => decide (ev v c.2.1 = 1)
noncomputable def cE (cmds : List Sy.Cmd) (v : List Int) (i : Int) : List Int := match cmds[i.toNat]? with | some c => E1 v c | none => v
noncomputable def vc (S : List (Int × Int)) (cmds : List Sy.Cmd) (v : List Int) (k : Int) : List Int × Int :=
 if k < 0 ∨ (cmds.length : Int) ≤ k then ([], 10) else fin S (cE cmds v k)
noncomputable def goes (v : List Int) (cmds : List Sy.Cmd) : List (List Int) := (enC v cmds).map (E1 v)
noncomputable def xy (S : List (Int × Int)) (v : List Int) (ws : List (List Int)) : List (List Int) × Int :=
 if ws = [] then ([v], 0) else bif ws.all (fits S) then (bC [] ws, 0) else ([], 6)
noncomputable def bk (S : List (Int × Int)) (cmds : List Sy.Cmd) (v : List Int) : List (List Int) × Int := xy S v (goes v cmds)
structure SafeS (S : List (Int × Int)) (C : List Sy.Cmd) : Prop where
 pos : 1 ≤ S.length
 few : S.length ≤ 16
 field : ∀ f ∈ S, Sy.vh f
 cmds : C.length ≤ 300
 guard : ∀ c ∈ C, c.2.1.sz < 1000000
 sets : ∀ c ∈ C, c.2.2.length ≤ 65537 ∧ ∀ s ∈ c.2.2, 0 ≤ s.1 ∧ s.1 < S.length ∧ s.2.sz < 1000000
structure InS (S : List (Int × Int)) (v : List Int) : Prop where
 len : v.length = S.length
 fit : fits S v = true
theorem CQ : ∀ {S : List (Int × Int)} {v : List Int}, v.length = S.length → (∀ f ∈ S, Sy.vh f) → fits S v = true → I64 v
 | [], [], _, _, _ => fun n hn => by cases hn
 | [], _ :: _, h, _, _ => by simp at h
 | _ :: _, [], h, _, _ => by simp at h
 | s :: S, x :: w, h, hS, hf => by
  simp only [fits, Bool.and_eq_true, decide_eq_true_eq] at hf
  have h1 := hS s (by simp)
  intro n hn
  rcases List.mem_cons.1 hn with rfl | hn
  ·have := h1.lo; have := h1.hi; omega
  ·exact CQ (by simpa using h) (fun f hf => hS f (List.mem_cons_of_mem _ hf)) hf.2 n hn
theorem InS.i64 {S : List (Int × Int)} {cmds : List Sy.Cmd} {v : List Int} (h : InS S v) (hs : SafeS S cmds) : I64 v := CQ h.len hs.field h.fit
theorem InS.ne {S : List (Int × Int)} {cmds : List Sy.Cmd} {v : List Int} (h : InS S v) (hs : SafeS S cmds) : v ≠ [] := fun e => by
 have := h.len; have := hs.pos; subst e; simp at *; omega
theorem InS.short {S : List (Int × Int)} {cmds : List Sy.Cmd} {v : List Int} (h : InS S v) (hs : SafeS S cmds) : v.length < 1000000000 := by
 have := h.len; have := hs.few; omega
/-! within the ranges -/
theorem NA (s : Int × Int) (n : Int) : mP s n = some (decide (s.1 ≤ n) && decide (n ≤ s.2)) := rfl
theorem DB (S : List (Int × Int)) (w : List Int) : ∀ (r pre : List Int) (rs ps : List (Int × Int)), w = pre ++ r → S = ps ++ rs → ps.length = pre.length → rs.length = r.length → w.length < 1000 →
  ∀ M, r.length < M → ao (jV S w) M (pre.length : Int) = some (bif fits rs r then 0 else 5)
 | [], pre, rs, ps, h, hS, hl, hr, hw, M, hM => by
  obtain ⟨m, rfl⟩ : ∃ m, M = m + 1 := ⟨M - 1, by simp at hM; omega⟩
  rw [an]
  simp only [jV, Sy.fO h, cond_false]
  have : rs = [] := List.eq_nil_of_length_eq_zero hr
  subst this; rfl
 | x :: r, pre, [], ps, h, hS, hl, hr, hw, M, hM => by simp at hr
 | x :: r, pre, s :: rs, ps, h, hS, hl, hr, hw, M, hM => by
  obtain ⟨m, rfl⟩ : ∃ m, M = m + 1 := ⟨M - 1, by omega⟩
  rw [an]
  have e1 : idx S (pre.length : Int) = some s := by rw [← hl]; exact Sy.mid hS
  have hlen : pre.length + r.length + 1 = w.length := by rw [h]; simp; omega
  have ih := DB S w r (pre ++ [x]) rs (ps ++ [s]) (by rw [h]; simp) (by rw [hS]; simp) (by simp; omega) (by simpa using hr) hw m (by simp at hM; omega)
  rw [show ((pre ++ [x]).length : Int) = ((pre.length + 1 : Nat) : Int) by simp] at ih
  simp only [jV, Sy.eK h, cond_true, Sy.mid h, ai, e1, NA, Pa.bu (show pre.length < 4611686018427387904 by omega), ih, fits]
  cases h1 : (decide (s.1 ≤ x) && decide (x ≤ s.2))
  ·rfl
  ·simp only [Bool.not_true, cond_false, Bool.true_and]
theorem Oq (S : List (Int × Int)) (w : List Int) (hl : w.length = S.length) (hw : w.length < 1000) : ki S w = some (bif fits S w then 0 else 5) := by
 unfold ki
 rw [show ((List.length w : Int) != (List.length S : Int)) = false by rw [hl]; simp, cond_false]
 exact DB S w w [] S [] rfl rfl rfl hl.symm hw au (by show w.length < 2 ^ 64; omega)
/-! a fired command -/
theorem ov {α : Type} (l : List α) (i : Int) (h0 : 0 ≤ i) (h1 : i < l.length) : ∃ x, idx l i = some x ∧ l[i.toNat]? = some x := by
 have h : i.toNat < l.length := by omega
 refine ⟨l[i.toNat], ?_, List.getElem?_eq_getElem h⟩
 unfold idx
 rw [if_pos h0]
 exact List.getElem?_eq_getElem h
theorem zH (m : Sy.Mdl) (v : List Int) (e : Sy.Cmd) (hn : v.length = m.2.1.length) (hv : v.length < 1000) (he : e.2.2.length ≤ 65537) (hs : ∀ s ∈ e.2.2, 0 ≤ s.1 ∧ s.1 < m.2.1.length ∧ s.2.sz < 1000000) :
  ∀ (r pre : List (Int × Ex)), e.2.2 = pre ++ r → ∀ (w : List Int) (M : Nat), w.length = v.length → r.length < M →
   ao (mT m v e) M (w, (pre.length : Int)) = some (fin m.2.1 (r.foldl (uu v) w))
 | [], pre, h, w, M, hw, hM => by
  obtain ⟨k, rfl⟩ : ∃ k, M = k + 1 := ⟨M - 1, by simp at hM; omega⟩
  rw [an]
  simp only [mT, Sy.fO h, cond_false, List.foldl_nil, fin]
  rw [Oq m.2.1 w (by omega) (by omega), ai]
  cases hf : fits m.2.1 w <;> rfl
 | s :: r, pre, h, w, M, hw, hM => by
  obtain ⟨k, rfl⟩ : ∃ k, M = k + 1 := ⟨M - 1, by omega⟩
  rw [an]
  obtain ⟨h0, h1, h2⟩ := hs s (by rw [h]; simp)
  have hlen : pre.length + r.length + 1 = e.2.2.length := by rw [h]; simp; omega
  obtain ⟨x, hx, _⟩ := ov w s.1 h0 (by omega)
  have ih := zH m v e hn hv he hs r (pre ++ [s]) (by rw [h]; simp) (uu v w s) k (by rw [wu, hw]) (by simp at hM; omega)
  rw [show ((pre ++ [s]).length : Int) = ((pre.length + 1 : Nat) : Int) by simp] at ih
  simp only [mT, Sy.eK h, cond_true, Sy.mid h, ai]
  rw [yt s.2 (by omega) v]
  simp only [ai, hx, Pa.bu (show pre.length < 4611686018427387904 by omega)]
  exact ih
theorem w7 (v : List Int) (h : v.length < 1000000000) : bd v = some v := by
 unfold bd
 rw [Sy.cb (Sy.bO (by simp; omega) (by simp; omega)), List.nil_append]
 cases v with
 | nil => simp [v7, both]
 | cons x r => rfl
theorem ML {m : Sy.Mdl} {v : List Int} (hm : SafeS m.2.1 m.2.2.2.2) (hn : v.length = m.2.1.length) (k : Int) : qT m v k = some (vc m.2.1 m.2.2.2.2 v k) := by
 have hv : v.length < 1000 := by have := hm.few; omega
 unfold qT
 simp only [bl]
 unfold vc
 by_cases hk : k < 0 ∨ (m.2.2.2.2.length : Int) ≤ k
 ·rw [if_pos hk]
  rw [show (decide (k < 0) || decide ((List.length m.2.2.2.2 : Int) ≤ k)) = true by rw [Bool.or_eq_true, decide_eq_true_eq, decide_eq_true_eq]; exact hk, cond_true]
 ·rw [if_neg hk]
  rw [show (decide (k < 0) || decide ((List.length m.2.2.2.2 : Int) ≤ k)) = false by rw [Bool.eq_false_iff]; intro h; rw [Bool.or_eq_true, decide_eq_true_eq, decide_eq_true_eq] at h; exact hk h, cond_false]
  obtain ⟨c, hc, hc2⟩ := ov m.2.2.2.2 k (by omega) (by omega)
  rw [w7 v (by omega), ai, hc, ai]
  have hmem : c ∈ m.2.2.2.2 := List.mem_of_getElem? hc2
  have := zH m v c hn hv (hm.sets c hmem).1 (hm.sets c hmem).2 c.2.2 [] rfl v au rfl (by have := (hm.sets c hmem).1; show _ < 2 ^ 64; omega)
  rw [show (0 : Int) = ((([] : List (Int × Ex)).length : Nat) : Int) from rfl, this]
  unfold cE
  rw [hc2]
  rfl
/-! the commands that may fire -/
theorem DP (m : Sy.Mdl) (v : List Int) (hm : SafeS m.2.1 m.2.2.2.2) : ∀ (r pre : List Sy.Cmd), m.2.2.2.2 = pre ++ r → ∀ (out : List Int) (M : Nat), out.length ≤ pre.length → r.length < M →
  ao (jQ m v) M (out, (pre.length : Int)) = some (out ++ enI v pre.length r)
 | [], pre, h, out, M, ho, hM => by
  obtain ⟨k, rfl⟩ : ∃ k, M = k + 1 := ⟨M - 1, by simp at hM; omega⟩
  rw [an]
  simp only [jQ, Sy.fO h, cond_false, enI, List.append_nil]
 | c :: r, pre, h, out, M, ho, hM => by
  obtain ⟨k, rfl⟩ : ∃ k, M = k + 1 := ⟨M - 1, by omega⟩
  rw [an]
  have hlen : pre.length + r.length + 1 = m.2.2.2.2.length := by rw [h]; simp; omega
  have h3 := hm.cmds
  have hg := hm.guard c (by rw [h]; simp)
  simp only [jQ, Sy.eK h, cond_true, Sy.mid h, ai]
  rw [yt c.2.1 (by omega) v, ai]
  have ih := fun out ho => DP m v hm r (pre ++ [c]) (by rw [h]; simp) out k ho (by simp at hM; omega)
  rw [show ((pre ++ [c]).length : Int) = ((pre.length + 1 : Nat) : Int) by simp, show (pre ++ [c]).length = pre.length + 1 by simp] at ih
  simp only [Pa.bu (show pre.length < 4611686018427387904 by omega), enI]
  by_cases he : ev v c.2.1 = 1
  ·rw [if_pos he, show (ev v c.2.1 == 1) = true by simpa using he, cond_true, Sy.cb (Sy.bO (by simp; omega) (by simp; omega)), ih _ (by simp; omega), List.append_assoc]
   rfl
  ·rw [if_neg he, show (ev v c.2.1 == 1) = false by simpa using he, cond_false, ih _ (by omega)]
theorem N8 {m : Sy.Mdl} {v : List Int} (hm : SafeS m.2.1 m.2.2.2.2) : pS m v = some (enI v 0 m.2.2.2.2) :=
 DP m v hm m.2.2.2.2 [] rfl [] au (Nat.le_refl _) (by have := hm.cmds; show _ < 2 ^ 64; omega)
theorem rF (v : List Int) : ∀ (r : List Sy.Cmd) (k : Nat), (enI v k r).length = (enC v r).length
 | [], k => rfl
 | c :: r, k => by
  unfold enI enC
  rw [List.filter_cons]
  by_cases he : ev v c.2.1 = 1
  ·rw [if_pos he, if_pos (by simpa using he), List.length_cons, List.length_cons, rF v r]; rfl
  ·rw [if_neg he, if_neg (by simpa using he), rF v r]; rfl
theorem DQ {v : List Int} {i : Int} : ∀ {r : List Sy.Cmd} {k : Nat}, i ∈ enI v k r → ∃ (j : Nat) (c : Sy.Cmd), i = ((k + j : Nat) : Int) ∧ r[j]? = some c ∧ ev v c.2.1 = 1
 | [], k, h => by simp [enI] at h
 | c :: r, k, h => by
  unfold enI at h
  have rec_ : i ∈ enI v (k + 1) r → ∃ (j : Nat) (d : Sy.Cmd), i = ((k + j : Nat) : Int) ∧ (c :: r)[j]? = some d ∧ ev v d.2.1 = 1 := fun h => by
   obtain ⟨j, d, h1, h2, h3⟩ := DQ h
   exact ⟨j + 1, d, by rw [h1]; omega, by simpa using h2, h3⟩
  by_cases he : ev v c.2.1 = 1
  ·rw [if_pos he] at h
   rcases List.mem_cons.1 h with rfl | h
   ·exact ⟨0, c, rfl, rfl, he⟩
   ·exact rec_ h
  ·rw [if_neg he] at h
   exact rec_ h
theorem yU (v : List Int) (cmds : List Sy.Cmd) : ∀ (r pre : List Sy.Cmd), cmds = pre ++ r → (enI v pre.length r).map (cE cmds v) = goes v r
 | [], pre, h => rfl
 | c :: r, pre, h => by
  have ih := yU v cmds r (pre ++ [c]) (by rw [h]; simp)
  rw [show (pre ++ [c]).length = pre.length + 1 by simp] at ih
  unfold enI goes enC
  rw [List.filter_cons]
  by_cases he : ev v c.2.1 = 1
  ·rw [if_pos he, if_pos (by simpa using he), List.map_cons, List.map_cons, ih]
   unfold cE
   rw [show ((pre.length : Int)).toNat = pre.length from rfl, show cmds[pre.length]? = some c by rw [h]; simp]
   rfl
  ·rw [if_neg he, if_neg (by simpa using he), ih]; rfl
theorem Kk {v w : List Int} {cmds : List Sy.Cmd} (h : w ∈ goes v cmds) : w.length = v.length := by
 obtain ⟨c, _, rfl⟩ := List.mem_map.1 h
 exact tT v c
theorem Ig (v : List Int) (cmds : List Sy.Cmd) : (goes v cmds).length ≤ cmds.length := by
 unfold goes enC
 rw [List.length_map]
 exact List.length_filter_le _ _
theorem Hf {v : List Int} {cmds : List Sy.Cmd} {i : Int} (h : i ∈ enI v 0 cmds) : 0 ≤ i ∧ i < cmds.length := by
 obtain ⟨j, c, rfl, h2, _⟩ := DQ h
 have := (List.getElem?_eq_some_iff.1 h2).1
 omega
theorem pL {S : List (Int × Int)} {cmds : List Sy.Cmd} {v : List Int} (hv : InS S v) : ∀ w ∈ (bk S cmds v).1, InS S w := by
 intro w hw
 unfold bk xy at hw
 split at hw
 ·rw [List.mem_singleton.1 hw]; exact hv
 ·cases ha : (goes v cmds).all (fits S) <;> rw [ha] at hw
  ·cases hw
  ·rcases eB.1 hw with h | h
   ·cases h
   ·exact ⟨by rw [Kk h]; exact hv.len, List.all_eq_true.1 ha w h⟩
theorem tN {S : List (Int × Int)} {cmds : List Sy.Cmd} (v : List Int) : (bk S cmds v).1.length ≤ cmds.length + 1 := by
 unfold bk xy
 split
 ·simp
 ·cases ha : (goes v cmds).all (fits S)
  ·simp
  ·have := nH (goes v cmds) []
   have := Ig v cmds
   simp at *; omega
end Sp
end Go.Proofs.YtkckoolfgnkpcaaDoor
namespace Go.Proofs.YtkckoolfgnkpcaaDoor
namespace Sp
theorem JU {v : List Int} {S : List (Int × Int)} {C : List Sy.Cmd} (hm : SafeS S C) (hv : InS S v) {l : List (List Int)} {at_ : Option (List (Str × Bool))} (hs : Seen l at_) (k : List (List Int) → Option (List (Str × Bool)) → Option ((List (List Int)) × Int)) (hk : ∀ l a, k l a = some (l, 0)) :
  (bif ((List.length l : Int) == 0) then ((bd v).bind fun r76 => (fR r76 l at_).bind fun r81 => k r81.1 r81.2) else some (l, 0)) = some (if l = [] then [v] else l, 0) := by
 by_cases h : l = []
 ·subst h
  rw [show ((List.length ([] : List (List Int)) : Int) == 0) = true from rfl, cond_true, w7 v (hv.short hm), ai]
  obtain ⟨at', h4, _⟩ := add_eq (hv.i64 hm) (hv.short hm) (hv.ne hm) (show ([] : List (List Int)).length < 1000000000 by simp) hs
  rw [h4, ai, hk]
  rfl
 ·have e : ((List.length l : Int) == 0) = false := by
   rw [beq_eq_false_iff_ne]
   intro e
   exact h (List.eq_nil_of_length_eq_zero (by omega))
  rw [e, cond_false, if_neg h]
theorem n3 (m : Sy.Mdl) (v : List Int) (hm : SafeS m.2.1 m.2.2.2.2) (hv : InS m.2.1 v) (L : List Int) (hL : ∀ i ∈ L, 0 ≤ i ∧ i < m.2.2.2.2.length) (hLl : L.length ≤ 300) :
  ∀ (r pre : List Int), L = pre ++ r → ∀ (c : Int) (l : List (List Int)) (at_ : Option (List (Str × Bool))) (M : Nat), Seen l at_ → l.length ≤ pre.length → r.length < M →
   ao (mw v (m.1, m.2.1, m.2.2.1, m.2.2.2.1, m.2.2.2.2, v) L) M ((pre.length : Int), c, l, at_) =
    some (if (r.map (cE m.2.2.2.2 v)).all (fits m.2.1) = true then (if bC l (r.map (cE m.2.2.2.2 v)) = [] then [v] else bC l (r.map (cE m.2.2.2.2 v)), 0) else ([], 6))
 | [], pre, h, c, l, at_, M, hs, hl, hM => by
  obtain ⟨k, rfl⟩ : ∃ k, M = k + 1 := ⟨M - 1, by simp at hM; omega⟩
  rw [an]
  simp only [mw, Sy.fO h, cond_false]
  exact JU hm hv hs (fun l _ => some (l, 0)) (fun _ _ => rfl)
 | i :: r, pre, h, c, l, at_, M, hs, hl, hM => by
  obtain ⟨k, rfl⟩ : ∃ k, M = k + 1 := ⟨M - 1, by omega⟩
  rw [an]
  have hlen : pre.length + r.length + 1 = L.length := by rw [h]; simp; omega
  obtain ⟨hi0, hi1⟩ := hL i (by rw [h]; simp)
  simp only [mw, Sy.eK h, cond_true, Sy.mid h, ai, Bool.not_true, Bool.not_false, cond_false]
  rw [show (m.1, m.2.1, m.2.2.1, m.2.2.2.1, m.2.2.2.2) = m from rfl, ML hm hv.len i]
  unfold vc
  rw [if_neg (by omega), ai]
  unfold fin
  rw [List.map_cons, List.all_cons]
  obtain ⟨c', _, hc⟩ := ov m.2.2.2.2 i hi0 hi1
  have hfl : (cE m.2.2.2.2 v i).length = m.2.1.length := by unfold cE; rw [hc, ← hv.len]; exact tT v c'
  cases hf : fits m.2.1 (cE m.2.2.2.2 v i)
  ·rw [Bool.false_and, if_neg (by decide)]
   rfl
  ·have hin : InS m.2.1 (cE m.2.2.2.2 v i) := ⟨hfl, hf⟩
   obtain ⟨at', h1, h2⟩ := add_eq (hin.i64 hm) (hin.short hm) (hin.ne hm) (show l.length < 1000000000 by omega) hs
   have hl2 := j4 l (cE m.2.2.2.2 v i)
   have hq := n3 m v hm hv L hL hLl r (pre ++ [i]) (by rw [h]; simp) c (cB l (cE m.2.2.2.2 v i)) at' k h2 (by simp; omega) (by simp at hM; omega)
   rw [show ((pre ++ [i]).length : Int) = ((pre.length + 1 : Nat) : Int) by simp] at hq
   rw [cond_true, show ((0 : Int) != 0) = false from rfl, cond_false]
   simp only [h1, ai, Pa.bu (show pre.length < 4611686018427387904 by omega)]
   rw [hq, Bool.true_and]
   rfl
theorem Mf {m : Sy.Mdl} {v : List Int} (hm : SafeS m.2.1 m.2.2.2.2) (hv : InS m.2.1 v) : qZ m v = some (bk m.2.1 m.2.2.2.2 v) := by
 have hlen : (enI v 0 m.2.2.2.2).length ≤ 300 := by
  rw [rF]
  have := List.length_filter_le (fun c : Sy.Cmd => decide (ev v c.2.1 = 1)) m.2.2.2.2
  have := hm.cmds
  unfold enC; omega
 have hq := n3 m v hm hv (enI v 0 m.2.2.2.2) (fun i hi => Hf hi) hlen (enI v 0 m.2.2.2.2) [] rfl 0 [] none au KA (Nat.le_refl _) (by show _ < 2 ^ 64; omega)
 have hmap : (enI v 0 m.2.2.2.2).map (cE m.2.2.2.2 v) = goes v m.2.2.2.2 := yU v m.2.2.2.2 m.2.2.2.2 [] rfl
 rw [hmap] at hq
 unfold qZ sw
 rw [ai]
 simp only
 rw [show (m.1, m.2.1, m.2.2.1, m.2.2.2.1, m.2.2.2.2) = m from rfl, N8 hm, ai]
 rw [show ((([] : List Int).length : Nat) : Int) = 0 from rfl] at hq
 rw [hq]
 congr 1
 unfold bk xy
 cases ha : (goes v m.2.2.2.2).all (fits m.2.1)
 ·have hg : goes v m.2.2.2.2 ≠ [] := fun e => by rw [e] at ha; cases ha
  rw [if_neg hg, if_neg (by decide)]
  rfl
 ·rw [if_pos rfl, cond_true]
  by_cases hg : goes v m.2.2.2.2 = []
  ·rw [if_pos hg, if_pos (by rw [hg]; rfl)]
  ·rw [if_neg hg, if_neg]
   intro e
   cases hgo : goes v m.2.2.2.2 with
   | nil => exact hg hgo
   | cons x r =>
    have : x ∈ bC [] (x :: r) := eB.2 (.inr (by simp))
    rw [hgo] at e
    rw [e] at this
    cases this
end Sp
end Go.Proofs.YtkckoolfgnkpcaaDoor
namespace Go.Proofs.YtkckoolfgnkpcaaDoor
namespace Pd
open Sp
/-! numbers as texts -/
theorem EH {l : List Int} {u : Nat} (hu : u < 18446744073709551616) (hl : l.length < 100000000000) : xw l (u : Int) 10 = some (l ++ bytesOf (Lib.decDigits u)) := by
 unfold xw
 rw [show ((10 : Int) == 10) = true from rfl, decide_eq_true (show (0 : Int) ≤ (u : Int) by omega), decide_eq_true (show (u : Int) ≤ 18446744073709551615 by omega), Bool.true_and, Bool.true_and, Bool.true_and,
  Sy.cb (Sy.bO (by omega) (by omega)), Int.toNat_natCast]
theorem Ov {x : Int} (h0 : 0 ≤ x) (h1 : x < 18446744073709551616) : IntKind.u64.wrap x = x := by
 rw [IntKind.wrap_u64]; omega
theorem L0 {l : List Int} {i : Int} (h0 : -9223372036854775808 ≤ i) (h1 : i ≤ 9223372036854775807) (hl : l.length < 10000000000) : gb l i 10 = some (l ++ bytesOf (Lib.itoa i)) := by
 unfold gb eV
 simp only [bl]
 by_cases hi : i < 0
 ·rw [decide_eq_true hi, cond_true, Sy.cb (Sy.bO (by simp; omega) (by simp; omega))]
  obtain ⟨u, rfl⟩ : ∃ u : Nat, i = -(u : Int) := ⟨i.natAbs, by omega⟩
  have hw : IntKind.u64.wrap (0 - IntKind.u64.wrap (-(u : Int))) = (u : Int) := by rw [IntKind.wrap_u64, IntKind.wrap_u64]; omega
  unfold dU
  rw [hw, EH (by omega) (by simp; omega), ai, ai, show Lib.itoa (-(u : Int)) = 45 :: Lib.decDigits u from by unfold Lib.itoa; rw [if_pos (by omega)]; simp]
  simp [bytesOf]
 ·rw [decide_eq_false hi, cond_false]
  obtain ⟨u, rfl⟩ : ∃ u : Nat, i = (u : Int) := ⟨i.toNat, by omega⟩
  unfold dU
  rw [Ov (by omega) (by omega), EH (by omega) (by omega), ai, ai, show Lib.itoa (u : Int) = Lib.decDigits u from by unfold Lib.itoa; rw [if_neg (by omega)]; simp]
noncomputable def keyOf (v : List Int) : Str := v.flatMap fun n => 32 :: Lib.itoa n
theorem wV (v : List Int) : keyOf v ++ [32] = 32 :: cD v := by
 induction v with
 | nil => rfl
 | cons x r ih =>
  simp only [keyOf, cD, List.flatMap_cons, List.append_assoc, List.cons_append] at ih ⊢
  rw [ih]
  simp
theorem key_inj {a b : List Int} (h : keyOf a = keyOf b) : a = b := by
 have h1 : keyOf a ++ [32] = keyOf b ++ [32] := by rw [h]
 rw [wV, wV] at h1
 exact wY (List.cons.inj h1).2
theorem Mx (a b : List Int) : keyOf (a ++ b) = keyOf a ++ keyOf b := by simp [keyOf]
theorem K6 {v : List Int} (h : I64 v) : (keyOf v).length ≤ 21 * v.length := by
 have h1 := congrArg List.length (wV v)
 have h2 := BW h
 simp at h1
 omega
/-! states together, each once -/
noncomputable def ij (l : List (List Int)) (at_ : Option (List (Str × Bool))) : Prop := (at_ = none → l = []) ∧ ∀ v, iP at_ (keyOf v) false = l.contains v
theorem uM : ij [] none := ⟨fun _ => rfl, fun _v => rfl⟩
theorem L9 {x : List Int} {l : List (List Int)} {mp : List (Str × Bool)} (hll : l.length < 1000000000) (hs : ij l (some mp)) :
  ∃ at', (bif (!(iP (some mp) (strOf (bytesOf (keyOf x))) false)) then ((some mp).bind fun m36 => chk (aw (List.length l + List.length ([x] : List (List Int))) 24) <| some ((l ++ ([x] : List (List Int))), (some (kM m36 (strOf (bytesOf (keyOf x))) true)))) else some (l, some mp)) = some (cB l x, at') ∧ ij (cB l x) at' := by
 have k1 : aw (List.length l + List.length ([x] : List (List Int))) 24 = true := Sy.bO (by simp; omega) (by simp; omega)
 rw [tl, hs.2 x]
 unfold cB
 cases hc : l.contains x
 ·simp only [Bool.not_false, cond_true, ai, Sy.cb k1, Bool.false_eq_true, if_false]
  refine ⟨_, rfl, (fun h => by cases h), fun u => ?_⟩
  have h1 := hs.2 u
  unfold iP at h1 ⊢
  simp only [Option.getD_some] at h1 ⊢
  rw [zK, h1]
  have e : (keyOf u == keyOf x) = (u == x) := by
   by_cases h : u = x
   ·rw [h]; simp
   ·rw [beq_eq_false_iff_ne.2 h, beq_eq_false_iff_ne.2 (fun e => h (key_inj e))]
  rw [e]
  simp only [List.contains_eq_any_beq, List.any_append, List.any_cons, List.any_nil, Bool.or_false]
  rw [Bool.or_comm]
 ·simp only [Bool.not_true, cond_false, if_true]
  exact ⟨_, rfl, hs⟩
theorem wa {x : List Int} (hx : I64 x) (hl : x.length < 100000000) {l : List (List Int)} {mp : List (Str × Bool)} (hll : l.length < 1000000000) (hs : ij l (some mp)) :
  ∀ (r pre : List Int), x = pre ++ r → ∀ M, r.length < M → ∃ at', ao (jU x l (some mp)) M (bytesOf (keyOf pre), (pre.length : Int)) = some (cB l x, at') ∧ ij (cB l x) at'
 | [], pre, h, M, hM => by
  obtain ⟨m, rfl⟩ : ∃ m, M = m + 1 := ⟨M - 1, by simp at hM; omega⟩
  rw [an]
  simp only [jU, Sy.fO h, cond_false]
  have e : pre = x := by rw [h]; simp
  rw [e]
  exact L9 hll hs
 | n :: r, pre, h, M, hM => by
  obtain ⟨m, rfl⟩ : ∃ m, M = m + 1 := ⟨M - 1, by omega⟩
  rw [an]
  have hn := hx n (by rw [h]; simp)
  have hlen : pre.length + r.length + 1 = x.length := by rw [h]; simp; omega
  have hp : I64 pre := fun n hn => hx n (by rw [h]; exact List.mem_append_left _ hn)
  have hk := K6 hp
  obtain ⟨at', h1, h2⟩ := wa hx hl hll hs r (pre ++ [n]) (by rw [h]; simp) m (by simp at hM; omega)
  rw [show ((pre ++ [n]).length : Int) = ((pre.length + 1 : Nat) : Int) by simp] at h1
  refine ⟨at', ?_, h2⟩
  have e1 : bytesOf (keyOf (pre ++ [n])) = (bytesOf (keyOf pre) ++ [32]) ++ bytesOf (Lib.itoa n) := by
   rw [Mx, rz]
   simp only [keyOf, List.flatMap_cons, List.flatMap_nil, List.append_nil, List.append_assoc]
   rfl
  rw [e1] at h1
  simp only [jU, Sy.eK h, cond_true, Sy.mid h, ai]
  rw [Sy.cb (Sy.bO (by rw [iE]; simp; omega) (by rw [iE]; simp; omega)), L0 hn.1 hn.2 (by rw [List.length_append, iE]; simp; omega), ai, Pa.bu (show pre.length < 4611686018427387904 by omega)]
  exact h1
structure Row (x : List Int) : Prop where
 i64 : I64 x
 short : x.length < 100000000
theorem add_eq {x : List Int} (hx : Row x) {l : List (List Int)} {at_ : Option (List (Str × Bool))} (hll : l.length < 1000000000) (hs : ij l at_) :
  ∃ at', fG x l at_ = some (cB l x, at') ∧ ij (cB l x) at' := by
 unfold fG qK
 simp only [bl]
 cases at_ with
 | none =>
  simp only [Option.isNone_none, cond_true]
  exact wa hx.i64 hx.short hll (mp := []) ⟨(fun h => by cases h), fun u => hs.2 u⟩ x [] rfl au (by have := hx.short; show _ < 2 ^ 64; omega)
 | some mp =>
  simp only [Option.isNone_some, cond_false]
  exact wa hx.i64 hx.short hll hs x [] rfl au (by have := hx.short; show _ < 2 ^ 64; omega)
/-! which states fit -/
abbrev Au := List (List Ex) × List (List Int) × List Int × List (List Int)
structure OkA (a : Au) (k : Nat) : Prop where
 lits : a.1.length = k
 next : a.2.1.length = k
 few : k ≤ 10
 row : ∀ l ∈ a.1, l.length ≤ 10 ∧ ∀ e ∈ l, e.sz < 1000000
 init : a.2.2.1.length ≤ 10 ∧ ∀ q ∈ a.2.2.1, 0 ≤ q ∧ q < k
 nxt : ∀ l ∈ a.2.1, l.length ≤ 10 ∧ ∀ q ∈ l, 0 ≤ q ∧ q < k
noncomputable def x5 (a : Au) (q : Int) : List Ex := (a.1[q.toNat]?).getD []
noncomputable def kW (a : Au) (q : Int) : List Int := (a.2.1[q.toNat]?).getD []
noncomputable def fu (a : Au) (q : Int) (v : List Int) : Bool := (x5 a q).all fun e => ev v e == 1
theorem z8 (s : List Ex) (v : List Int) (hs : s.length ≤ 10) (he : ∀ e ∈ s, e.sz < 1000000) : ∀ (r pre : List Ex), s = pre ++ r → ∀ M, r.length < M →
  ∃ i : Int, ao (bT s v) M (pre.length : Int) = some i ∧ decide (0 ≤ i) = !(r.all fun e => ev v e == 1)
 | [], pre, h, M, hM => by
  obtain ⟨m, rfl⟩ : ∃ m, M = m + 1 := ⟨M - 1, by simp at hM; omega⟩
  rw [an]
  simp only [bT, Sy.fO h, cond_false]
  exact ⟨_, rfl, rfl⟩
 | e :: r, pre, h, M, hM => by
  obtain ⟨m, rfl⟩ : ∃ m, M = m + 1 := ⟨M - 1, by omega⟩
  rw [an]
  have hlen : pre.length + r.length + 1 = s.length := by rw [h]; simp; omega
  have hsz := he e (by rw [h]; simp)
  obtain ⟨i, h1, h2⟩ := z8 s v hs he r (pre ++ [e]) (by rw [h]; simp) m (by simp at hM; omega)
  rw [show ((pre ++ [e]).length : Int) = ((pre.length + 1 : Nat) : Int) by simp] at h1
  simp only [bT, Sy.eK h, cond_true, Sy.mid h, ai, nR, yt e (show e.sz < 4611686018427387904 by omega) v, Pa.bu (show pre.length < 4611686018427387904 by omega), h1]
  by_cases hv : ev v e = 1
  ·rw [show (ev v e != 1) = false by simpa using hv, cond_false]
   exact ⟨i, rfl, by rw [h2, List.all_cons, show (ev v e == 1) = true by simpa using hv, Bool.true_and]⟩
  ·rw [show (ev v e != 1) = true by simpa using hv, cond_true]
   exact ⟨_, rfl, by rw [List.all_cons, show (ev v e == 1) = false by simpa using hv]; simp⟩
theorem yB {α : Type} {l : List α} {q : Int} {k : Nat} (hl : l.length = k) (h : 0 ≤ q ∧ q < k) : ∃ x, idx l q = some x ∧ l[q.toNat]? = some x ∧ x ∈ l := by
 have hlt : q.toNat < l.length := by omega
 refine ⟨l[q.toNat], ?_, List.getElem?_eq_getElem hlt, List.getElem_mem hlt⟩
 unfold idx
 rw [if_pos h.1, List.getElem?_eq_getElem hlt]
theorem Ec {a : Au} {k : Nat} (ha : OkA a k) {q : Int} (hq : 0 ≤ q ∧ q < k) (v : List Int) : qh a q v = some (fu a q v) := by
 obtain ⟨s, h1, h2, h3⟩ := yB ha.lits hq
 obtain ⟨h4, h5⟩ := ha.row s h3
 obtain ⟨i, h6, h7⟩ := z8 s v h4 h5 s [] rfl au (by show _ < 2 ^ 64; omega)
 unfold qh cY dE fu x5
 rw [show ((([] : List Ex).length : Nat) : Int) = 0 from rfl] at h6
 rw [h1, ai, h6, ai, h7, ai, h2]
 simp
/-! states together, of one state of the system -/
noncomputable def dH (a : Au) (v : List Int) (qs : List Int) : List (List Int) := (qs.filter fun q => fu a q v).map fun q => v ++ [q]
theorem uK {a : Au} {v qs : List Int} : (dH a v qs).length ≤ qs.length := by
 unfold dH; rw [List.length_map]; exact List.length_filter_le _ _
theorem xG {a : Au} {v qs : List Int} {q : Int} : dH a v (q :: qs) = if fu a q v then (v ++ [q]) :: dH a v qs else dH a v qs := by
 unfold dH
 rw [List.filter_cons]
 split <;> rfl
theorem Ci {v : List Int} {q : Int} {k : Nat} (hv : I64 v) (hl : v.length < 1000000) (hk : k ≤ 10) (hq : 0 ≤ q ∧ q < k) : Row (v ++ [q]) :=
 ⟨fun n hn => by
  rcases List.mem_append.1 hn with h | h
  ·exact hv n h
  ·rw [List.mem_singleton.1 h]; omega, by simp; omega⟩
theorem HW {l : List (List Int)} {x : List Int} {r : List (List Int)} : bC l (x :: r) = bC (cB l x) r := rfl
theorem Kh {l a b : List (List Int)} : bC l (a ++ b) = bC (bC l a) b := by simp [bC]
theorem Dv {a : Au} {k : Nat} (ha : OkA a k) {v : List Int} (hv : I64 v) (hl : v.length < 1000000) {q : Int} (hq : 0 ≤ q ∧ q < k) {l : List (List Int)} {at_ : Option (List (Str × Bool))} (hll : l.length < 100000000) (hs : ij l at_) {R : Type} (stop go : List (List Int) → Option (List (Str × Bool)) → Option R) :
  ∃ at', (bif fu a q v then ((bd v).bind fun r40 => chk (aw (List.length r40 + List.length ([q] : List Int)) 8) <| (fG (r40 ++ ([q] : List Int)) l at_).bind fun r51 => ab (!true) fun b57 => bif b57 then stop r51.1 r51.2 else go r51.1 r51.2) else go l at_) =
   go (if fu a q v then cB l (v ++ [q]) else l) at' ∧ ij (if fu a q v then cB l (v ++ [q]) else l) at' := by
 cases hf : fu a q v
 ·exact ⟨at_, rfl, hs⟩
 ·obtain ⟨at', h1, h2⟩ := add_eq (Ci hv hl ha.few hq) (show l.length < 1000000000 by omega) hs
  refine ⟨at', ?_, h2⟩
  rw [cond_true, w7 v (by omega), ai, Sy.cb (Sy.bO (by simp; omega) (by simp; omega)), h1, ai]
  rfl
theorem zS {a : Au} {k : Nat} (ha : OkA a k) {v : List Int} (hv : I64 v) (hl : v.length < 1000000) (qs : List Int) (hqs : qs.length ≤ 10) (hq : ∀ q ∈ qs, 0 ≤ q ∧ q < k) : ∀ (r pre : List Int), qs = pre ++ r → ∀ (l : List (List Int)) (at_ : Option (List (Str × Bool))) (M : Nat), ij l at_ → l.length ≤ pre.length → r.length < M →
  ao (kj (qs, a.1, a.2.1, a.2.2.1, a.2.2.2, v)) M ((pre.length : Int), l, at_) = some (bC l (dH a v r))
 | [], pre, h, l, at_, M, hs, hll, hM => by
  obtain ⟨m, rfl⟩ : ∃ m, M = m + 1 := ⟨M - 1, by simp at hM; omega⟩
  rw [an]
  simp only [kj, Sy.fO h, cond_false]
  rfl
 | q :: r, pre, h, l, at_, M, hs, hll, hM => by
  obtain ⟨m, rfl⟩ : ∃ m, M = m + 1 := ⟨M - 1, by omega⟩
  rw [an]
  have hlen : pre.length + r.length + 1 = qs.length := by rw [h]; simp; omega
  have hqk := hq q (by rw [h]; simp)
  simp only [kj, Sy.eK h, cond_true, Sy.mid h, ai]
  rw [show (a.1, a.2.1, a.2.2.1, a.2.2.2) = a from rfl, Ec ha hqk, ai, Pa.bu (show pre.length < 4611686018427387904 by omega)]
  obtain ⟨at', h1, h2⟩ := Dv ha hv hl hqk (l := l) (by omega) hs (fun l _ => some l) (fun l a' => ao (kj (qs, a.1, a.2.1, a.2.2.1, a.2.2.2, v)) m (((pre.length + 1 : Nat) : Int), l, a'))
  rw [h1, xG]
  have hl2 : (if fu a q v then cB l (v ++ [q]) else l).length ≤ pre.length + 1 := by
   split
   ·have := j4 l (v ++ [q]); omega
   ·omega
  have ih := zS ha hv hl qs hqs hq r (pre ++ [q]) (by rw [h]; simp) _ at' m h2 (by simp; omega) (by simp at hM; omega)
  rw [show ((pre ++ [q]).length : Int) = ((pre.length + 1 : Nat) : Int) by simp] at ih
  rw [ih]
  cases fu a q v <;> rfl
theorem DF {m : Sy.Mdl} (hm : SafeS m.2.1 m.2.2.2.2) (hi : InS m.2.1 m.2.2.1) {a : Au} {k : Nat} (ha : OkA a k) : j8 m a = some (bC [] (dH a m.2.2.1 a.2.2.1)) := by
 unfold j8 nY
 rw [ai]
 have hle := hi.len
 have hf := hm.few
 exact zS ha (hi.i64 hm) (by omega) a.2.2.1 ha.init.1 ha.init.2 a.2.2.1 [] rfl [] none au uM (Nat.le_refl _) (by have := ha.init.1; show _ < 2 ^ 64; omega)
/-! what a state together leads to -/
theorem EJ {a : Au} {k : Nat} (ha : OkA a k) {v : List Int} (hv : I64 v) (hl : v.length < 1000000) (t : Int) (again : (List (List Int)) × (Option (List (Str × Bool))) × Int → Option ((List (List Int)) × Int)) (qs : List Int) (hqs : qs.length ≤ 10) (hq : ∀ q ∈ qs, 0 ≤ q ∧ q < k) :
  ∀ (r pre : List Int), qs = pre ++ r → ∀ (l : List (List Int)) (at_ : Option (List (Str × Bool))) (M : Nat), ij l at_ → l.length ≤ 1000000 + pre.length → r.length < M →
  ∃ at', ao (j7 t again (qs, a.1, a.2.1, a.2.2.1, a.2.2.2, v)) M ((pre.length : Int), l, at_) = again (bC l (dH a v r), at', IntKind.i64.wrap (t + 1)) ∧ ij (bC l (dH a v r)) at'
 | [], pre, h, l, at_, M, hs, hll, hM => by
  obtain ⟨m, rfl⟩ : ∃ m, M = m + 1 := ⟨M - 1, by simp at hM; omega⟩
  rw [an]
  simp only [j7, Sy.fO h, cond_false]
  exact ⟨at_, rfl, hs⟩
 | q :: r, pre, h, l, at_, M, hs, hll, hM => by
  obtain ⟨m, rfl⟩ : ∃ m, M = m + 1 := ⟨M - 1, by omega⟩
  rw [an]
  have hlen : pre.length + r.length + 1 = qs.length := by rw [h]; simp; omega
  have hqk := hq q (by rw [h]; simp)
  simp only [j7, Sy.eK h, cond_true, Sy.mid h, ai]
  rw [show (a.1, a.2.1, a.2.2.1, a.2.2.2) = a from rfl, Ec ha hqk, ai, Pa.bu (show pre.length < 4611686018427387904 by omega)]
  obtain ⟨at', h1, h2⟩ := Dv ha hv hl hqk (l := l) (by omega) hs (fun l a' => again (l, a', IntKind.i64.wrap (t + 1))) (fun l a' => ao (j7 t again (qs, a.1, a.2.1, a.2.2.1, a.2.2.2, v)) m (((pre.length + 1 : Nat) : Int), l, a'))
  rw [h1, xG]
  have hl2 : (if fu a q v then cB l (v ++ [q]) else l).length ≤ 1000000 + (pre.length + 1) := by
   split
   ·have := j4 l (v ++ [q]); omega
   ·omega
  have ih := EJ ha hv hl t again qs hqs hq r (pre ++ [q]) (by rw [h]; simp) _ at' m h2 (by simp; omega) (by simp at hM; omega)
  rw [show ((pre ++ [q]).length : Int) = ((pre.length + 1 : Nat) : Int) by simp] at ih
  cases hf : fu a q v <;> rw [hf] at ih <;> exact ih
noncomputable def mD (a : Au) (qs : List Int) (ws : List (List Int)) : List (List Int) := ws.flatMap fun w => dH a w qs
theorem zq {a : Au} {qs : List Int} (h : qs.length ≤ 10) : ∀ ws : List (List Int), (mD a qs ws).length ≤ 10 * ws.length
 | [] => by simp [mD]
 | w :: ws => by
  have := zq (a := a) h ws
  have := uK (a := a) (v := w) (qs := qs)
  simp only [mD, List.flatMap_cons, List.length_append, List.length_cons] at *
  omega
theorem n3 {a : Au} {k : Nat} (ha : OkA a k) {r11 : List Int × Int} {r16 : List (List Int) × Int} (hq : 0 ≤ r11.2 ∧ r11.2 < k) (hw : ∀ w ∈ r16.1, I64 w ∧ w.length < 1000000) (hn : r16.1.length ≤ 1000) :
  ∀ (r pre : List (List Int)), r16.1 = pre ++ r → ∀ (l : List (List Int)) (at_ : Option (List (Str × Bool))) (M : Nat), ij l at_ → l.length ≤ 10 * pre.length → r.length < M →
   ao (j3 a r11 r16) M (l, at_, (pre.length : Int)) = some (bC l (mD a (kW a r11.2) r), 0)
 | [], pre, h, l, at_, M, hs, hll, hM => by
  obtain ⟨m, rfl⟩ : ∃ m, M = m + 1 := ⟨M - 1, by simp at hM; omega⟩
  rw [an]
  simp only [j3, Sy.fO h, cond_false]
  rfl
 | w :: r, pre, h, l, at_, M, hs, hll, hM => by
  obtain ⟨m, rfl⟩ : ∃ m, M = m + 1 := ⟨M - 1, by omega⟩
  rw [an]
  have hlen : pre.length + r.length + 1 = r16.1.length := by rw [h]; simp; omega
  obtain ⟨qs, h1, h2, h3⟩ := yB ha.next hq
  have hqs := ha.nxt qs h3
  have hno : kW a r11.2 = qs := by unfold kW; rw [h2]; rfl
  obtain ⟨hw1, hw2⟩ := hw w (by rw [h]; simp)
  simp only [j3, Sy.eK h, cond_true, Sy.mid h, ai, h1, nY]
  obtain ⟨at', h4, h5⟩ := EJ ha hw1 hw2 (pre.length : Int) (ao (j3 a r11 r16) m) qs hqs.1 hqs.2 qs [] rfl l at_ au hs (by simp; omega) (by have := hqs.1; show _ < 2 ^ 64; omega)
  rw [show ((([] : List Int).length : Nat) : Int) = 0 from rfl] at h4
  rw [h4, Pa.bu (show pre.length < 4611686018427387904 by omega)]
  have hd := nH (dH a w qs) l
  have hwl := uK (a := a) (v := w) (qs := qs)
  have hq10 := hqs.1
  have ih := n3 ha hq hw hn r (pre ++ [w]) (by rw [h]; simp) _ at' m h5 (by simp; omega) (by simp at hM; omega)
  rw [show ((pre ++ [w]).length : Int) = ((pre.length + 1 : Nat) : Int) by simp] at ih
  rw [ih, hno]
  simp only [mD, List.flatMap_cons]
  rw [Kh]
noncomputable def qS (m : Sy.Mdl) (a : Au) (v : List Int) (q : Int) : List (List Int) × Int :=
 if (bk m.2.1 m.2.2.2.2 v).2 = 0 then (bC [] (mD a (kW a q) (bk m.2.1 m.2.2.2.2 v).1), 0) else ([], (bk m.2.1 m.2.2.2.2 v).2)
theorem LV {n : Nat} : nQ 0 (n : Int) (n : Int) (n + 1) = true := by unfold nQ; simp; omega
theorem JB {v : List Int} {q : Int} (hv : v.length < 1000000) : mu (v ++ [q]) = some (v, q) := by
 unfold mu
 have h1 : IntKind.i64.wrap ((List.length (v ++ [q]) : Int) - 1) = (v.length : Int) := by rw [w64 (by simp; omega)]; simp
 rw [h1, show (v ++ [q]).length = v.length + 1 by simp, Sy.cb LV]
 have h2 : idx (v ++ [q]) (v.length : Int) = some q := by
  unfold idx
  rw [if_pos (by omega), show ((v.length : Int)).toNat = v.length from rfl]
  simp
 rw [h2, ai]
 unfold dm
 simp
theorem JO {m : Sy.Mdl} (hm : SafeS m.2.1 m.2.2.2.2) {v : List Int} (hv : InS m.2.1 v) {a : Au} {k : Nat} (ha : OkA a k) {q : Int} (hq : 0 ≤ q ∧ q < k) : lG m a (v ++ [q]) = some (qS m a v q) := by
 have hle := hv.len
 have hf := hm.few
 have hfew := tN (S := m.2.1) (cmds := m.2.2.2.2) v
 have hc := hm.cmds
 unfold lG qS
 rw [JB (by omega), ai, Mf hm hv, ai]
 by_cases hz : (bk m.2.1 m.2.2.2.2 v).2 = 0
 ·rw [if_pos hz, show ((bk m.2.1 m.2.2.2.2 v).2 != 0) = false by simpa using hz, cond_false]
  have := n3 ha (r11 := (v, q)) (r16 := bk m.2.1 m.2.2.2.2 v) hq (fun w hw => by
   have hi := pL hv w hw
   have := hi.len
   exact ⟨hi.i64 hm, by omega⟩) (by omega) (bk m.2.1 m.2.2.2.2 v).1 [] rfl [] none au uM (Nat.zero_le _) (by show _ < 2 ^ 64; omega)
  exact this
 ·rw [if_neg hz, show ((bk m.2.1 m.2.2.2.2 v).2 != 0) = true by simpa using hz, cond_true]
/-! what is reached together -/
noncomputable def St (m : Sy.Mdl) (k : Nat) (x : List Int) : Prop := ∃ v q, x = v ++ [q] ∧ InS m.2.1 v ∧ 0 ≤ q ∧ q < (k : Int)
theorem St.row {m : Sy.Mdl} (hm : SafeS m.2.1 m.2.2.2.2) {k : Nat} (hk : k ≤ 10) {x : List Int} (h : St m k x) : Row x := by
 obtain ⟨v, q, rfl, hv, h0, h1⟩ := h
 have hle := hv.len
 have hf := hm.few
 exact Ci (hv.i64 hm) (by omega) hk ⟨h0, h1⟩
noncomputable def fw (m : Sy.Mdl) (a : Au) (x : List Int) : List (List Int) × Int := qS m a x.dropLast (x.getLastD 0)
theorem qc (m : Sy.Mdl) (a : Au) (v : List Int) (q : Int) : fw m a (v ++ [q]) = qS m a v q := by
 unfold fw
 rw [List.dropLast_concat, List.getLastD_concat]
theorem Ij {m : Sy.Mdl} (hm : SafeS m.2.1 m.2.2.2.2) {a : Au} {k : Nat} (ha : OkA a k) {x : List Int} (hx : St m k x) : lG m a x = some (fw m a x) := by
 obtain ⟨v, q, rfl, hv, h0, h1⟩ := hx
 rw [qc]
 exact JO hm hv ha ⟨h0, h1⟩
theorem zR {a : Au} {v qs y : List Int} (h : y ∈ dH a v qs) : ∃ q, q ∈ qs ∧ fu a q v = true ∧ y = v ++ [q] := by
 unfold dH at h
 obtain ⟨q, h1, rfl⟩ := List.mem_map.1 h
 obtain ⟨h2, h3⟩ := List.mem_filter.1 h1
 exact ⟨q, h2, h3, rfl⟩
theorem zA {a : Au} {k : Nat} (ha : OkA a k) {q : Int} (hq : 0 ≤ q ∧ q < k) : (kW a q).length ≤ 10 ∧ ∀ p ∈ kW a q, 0 ≤ p ∧ p < (k : Int) := by
 obtain ⟨qs, h1, h2, h3⟩ := yB ha.next hq
 unfold kW
 rw [h2]
 exact ha.nxt qs h3
theorem A8 {m : Sy.Mdl} {a : Au} {k : Nat} (ha : OkA a k) {x : List Int} (hx : St m k x) : ∀ y ∈ (fw m a x).1, St m k y := by
 obtain ⟨v, q, rfl, hv, h0, h1⟩ := hx
 rw [qc]
 intro y hy
 unfold qS at hy
 split at hy
 ·rcases eB.1 hy with h | h
  ·cases h
  ·obtain ⟨w, hw, hy2⟩ := List.mem_flatMap.1 h
   obtain ⟨p, hp, _, rfl⟩ := zR hy2
   have := (zA ha ⟨h0, h1⟩).2 p hp
   exact ⟨w, p, rfl, pL hv w hw, this.1, this.2⟩
 ·cases hy
theorem Gi {m : Sy.Mdl} (hm : SafeS m.2.1 m.2.2.2.2) {a : Au} {k : Nat} (ha : OkA a k) {x : List Int} (hx : St m k x) : (fw m a x).1.length ≤ 4000 := by
 obtain ⟨v, q, rfl, hv, h0, h1⟩ := hx
 rw [qc]
 unfold qS
 split
 ·have h2 := nH (mD a (kW a q) (bk m.2.1 m.2.2.2.2 v).1) []
  have h3 := zq (a := a) (zA ha ⟨h0, h1⟩).1 (bk m.2.1 m.2.2.2.2 v).1
  have h4 := tN (S := m.2.1) (cmds := m.2.2.2.2) v
  have h5 := hm.cmds
  simp only [List.length_nil] at h2
  show (bC [] _).length ≤ _
  omega
 ·simp
noncomputable def gK (m : Sy.Mdl) (a : Au) (most : Int) : Nat → List (List Int) → Nat → List (List Int) × Int
 | 0, l, _ => (l, 0)
 | f + 1, l, i =>
  if (l.length : Int) ≤ most then
   match l[i]? with
   | some x => if (fw m a x).2 = 0 then gK m a most f (bC l (fw m a x).1) (i + 1) else ([], (fw m a x).2)
   | none => (l, 0)
  else ([], 7)
theorem AX {m : Sy.Mdl} (hm : SafeS m.2.1 m.2.2.2.2) {k : Nat} (hk : k ≤ 10) (i : Int) (again : (List (List Int)) × (Option (List (Str × Bool))) × Int → Option ((List (List Int)) × Int)) (q : List (List Int) × Int) (hq : ∀ w ∈ q.1, St m k w) (hql : q.1.length ≤ 4000) :
  ∀ (r pre : List (List Int)), q.1 = pre ++ r → ∀ (l : List (List Int)) (at_ : Option (List (Str × Bool))) (M : Nat), ij l at_ → l.length ≤ 100000 + pre.length → r.length < M →
   ∃ at', ao (ln i again q) M (l, at_, (pre.length : Int)) = again (bC l r, at', IntKind.i64.wrap (i + 1)) ∧ ij (bC l r) at'
 | [], pre, h, l, at_, M, hs, hl, hM => by
  obtain ⟨n, rfl⟩ : ∃ n, M = n + 1 := ⟨M - 1, by simp at hM; omega⟩
  rw [an]
  simp only [ln, Sy.fO h, cond_false]
  exact ⟨at_, rfl, hs⟩
 | w :: r, pre, h, l, at_, M, hs, hl, hM => by
  obtain ⟨n, rfl⟩ : ∃ n, M = n + 1 := ⟨M - 1, by omega⟩
  rw [an]
  have hlen : pre.length + r.length + 1 = q.1.length := by rw [h]; simp; omega
  have hw := hq w (by rw [h]; simp)
  obtain ⟨at', h1, h2⟩ := add_eq (hw.row hm hk) (show l.length < 1000000000 by omega) hs
  have hl2 := j4 l w
  obtain ⟨at2, h3, h4⟩ := AX hm hk i again q hq hql r (pre ++ [w]) (by rw [h]; simp) (cB l w) at' n h2 (by simp; omega) (by simp at hM; omega)
  rw [show ((pre ++ [w]).length : Int) = ((pre.length + 1 : Nat) : Int) by simp] at h3
  refine ⟨at2, ?_, h4⟩
  simp only [ln, Sy.eK h, cond_true, Sy.mid h, ai, h1, Pa.bu (show pre.length < 4611686018427387904 by omega)]
  exact h3
theorem CE {m : Sy.Mdl} (hm : SafeS m.2.1 m.2.2.2.2) {a : Au} {k : Nat} (ha : OkA a k) (most : Int) (hmost : most ≤ 1000) : ∀ (j : Nat) (i : Nat) (l : List (List Int)) (at_ : Option (List (Str × Bool))) (F M : Nat),
  ij l at_ → (∀ w ∈ l, St m k w) → most.toNat + 1 - i ≤ j → i ≤ 1001 → j < F → j < M →
   ao (jz m a most) M (l, at_, (i : Int)) = some (gK m a most F l i)
 | 0, i, l, at_, F, M, hs, hl, hk, hi, hF, hM => by
  obtain ⟨n, rfl⟩ : ∃ n, M = n + 1 := ⟨M - 1, by omega⟩
  obtain ⟨f, rfl⟩ : ∃ f, F = f + 1 := ⟨F - 1, by omega⟩
  rw [an, gK]
  simp only [jz, bl]
  by_cases hle : (l.length : Int) ≤ most
  ·have hn : ¬ ((i : Int) < (l.length : Int)) := by omega
   rw [if_pos hle, decide_eq_false hn, Bool.false_and, cond_false, decide_eq_false (by omega), cond_false]
   rw [List.getElem?_eq_none (by omega)]
  ·rw [if_neg hle, decide_eq_false hle, Bool.and_false, cond_false, decide_eq_true (by omega), cond_true]
 | j + 1, i, l, at_, F, M, hs, hl, hk, hi, hF, hM => by
  obtain ⟨n, rfl⟩ : ∃ n, M = n + 1 := ⟨M - 1, by omega⟩
  obtain ⟨f, rfl⟩ : ∃ f, F = f + 1 := ⟨F - 1, by omega⟩
  rw [an, gK]
  simp only [jz, bl]
  by_cases hle : (l.length : Int) ≤ most
  ·rw [if_pos hle]
   by_cases hlt : (i : Int) < (l.length : Int)
   ·obtain ⟨x, hx1, hx2⟩ := ov l (i : Int) (by omega) hlt
    rw [show ((i : Int)).toNat = i from rfl] at hx2
    have hst := hl x (List.mem_of_getElem? hx2)
    rw [decide_eq_true hlt, decide_eq_true hle, Bool.and_self, cond_true, hx1, ai, Ij hm ha hst, ai, hx2]
    simp only
    by_cases hz : (fw m a x).2 = 0
    ·rw [show ((fw m a x).2 != 0) = false by simpa using hz, cond_false, if_pos hz]
     have hfew := Gi hm ha hst
     obtain ⟨at', h1, h2⟩ := AX hm ha.few (i : Int) (ao (jz m a most) n) (fw m a x) (A8 ha hst) hfew (fw m a x).1 [] rfl l at_ au hs (by simp; omega) (by show _ < 2 ^ 64; omega)
     rw [show ((([] : List (List Int)).length : Nat) : Int) = 0 from rfl] at h1
     rw [h1, Pa.bu (show i < 4611686018427387904 by omega)]
     exact CE hm ha most hmost j (i + 1) _ at' f n h2 (fun w hw => by
      rcases eB.1 hw with h | h
      ·exact hl w h
      ·exact A8 ha hst w h) (by omega) (by omega) (by omega) (by omega)
    ·rw [show ((fw m a x).2 != 0) = true by simpa using hz, cond_true, if_neg hz]
   ·rw [decide_eq_false hlt, Bool.false_and, cond_false, decide_eq_false (by omega), cond_false]
    rw [List.getElem?_eq_none (by omega)]
  ·rw [if_neg hle, decide_eq_false hle, Bool.and_false, cond_false, decide_eq_true (by omega), cond_true]
theorem AN {m : Sy.Mdl} (hm : SafeS m.2.1 m.2.2.2.2) {a : Au} {k : Nat} (ha : OkA a k) (most : Int) (hmost : most ≤ 1000) (L : List (List Int)) (hL : ∀ w ∈ L, St m k w) (hLl : L.length ≤ 4000) : ∀ (r pre : List (List Int)), L = pre ++ r → ∀ (l : List (List Int)) (at_ : Option (List (Str × Bool))) (M : Nat), ij l at_ → (∀ w ∈ l, St m k w) → l.length ≤ pre.length → r.length < M →
  ao (lg m a most L) M (l, at_, (pre.length : Int)) = some (gK m a most 2000 (bC l r) 0)
 | [], pre, h, l, at_, M, hs, hi, hl, hM => by
  obtain ⟨n, rfl⟩ : ∃ n, M = n + 1 := ⟨M - 1, by simp at hM; omega⟩
  rw [an]
  simp only [lg, Sy.fO h, cond_false]
  exact CE hm ha most hmost 1001 0 l at_ 2000 au hs hi (by omega) (by omega) (by omega) (by show _ < 2 ^ 64; omega)
 | w :: r, pre, h, l, at_, M, hs, hi, hl, hM => by
  obtain ⟨n, rfl⟩ : ∃ n, M = n + 1 := ⟨M - 1, by omega⟩
  rw [an]
  have hlen : pre.length + r.length + 1 = L.length := by rw [h]; simp; omega
  have hw := hL w (by rw [h]; simp)
  obtain ⟨at', h1, h2⟩ := add_eq (hw.row hm ha.few) (show l.length < 1000000000 by omega) hs
  have hl2 := j4 l w
  have ih := AN hm ha most hmost L hL hLl r (pre ++ [w]) (by rw [h]; simp) (cB l w) at' n h2 (fun u hu => by
   rcases sL.1 hu with h | h
   ·exact hi u h
   ·rw [h]; exact hw) (by simp; omega) (by simp at hM; omega)
  rw [show ((pre ++ [w]).length : Int) = ((pre.length + 1 : Nat) : Int) by simp] at ih
  simp only [lg, Sy.eK h, cond_true, Sy.mid h, ai, h1, Pa.bu (show pre.length < 4611686018427387904 by omega)]
  exact ih
theorem Ji {m : Sy.Mdl} (hi : InS m.2.1 m.2.2.1) {a : Au} {k : Nat} (ha : OkA a k) : ∀ w ∈ bC [] (dH a m.2.2.1 a.2.2.1), St m k w := fun w hw => by
 rcases eB.1 hw with h | h
 ·cases h
 ·obtain ⟨q, hq, _, rfl⟩ := zR h
  have := ha.init.2 q hq
  exact ⟨_, q, rfl, hi, this.1, this.2⟩
theorem uV {m : Sy.Mdl} (hm : SafeS m.2.1 m.2.2.2.2) (hi : InS m.2.1 m.2.2.1) {a : Au} {k : Nat} (ha : OkA a k) (most : Int) (hmost : most ≤ 1000) :
  cV m a most = some (gK m a most 2000 (bC [] (bC [] (dH a m.2.2.1 a.2.2.1))) 0) := by
 unfold cV
 rw [DF hm hi ha, ai]
 have h1 := nH (dH a m.2.2.1 a.2.2.1) []
 have h2 := uK (a := a) (v := m.2.2.1) (qs := a.2.2.1)
 have h3 := ha.init.1
 simp only [List.length_nil] at h1
 exact AN hm ha most hmost (bC [] (dH a m.2.2.1 a.2.2.1)) (Ji hi ha) (by omega) _ [] rfl [] none au uM (fun w hw => by cases hw) (Nat.le_refl _) (Nat.lt_of_le_of_lt (Nat.le_trans h1 (by omega : 0 + (dH a m.2.2.1 a.2.2.1).length ≤ 10)) (by show 10 < 2 ^ 64; omega))
theorem lN : ∀ {l acc : List (List Int)}, (acc ++ l).Nodup → bC acc l = acc ++ l
 | [], acc, _ => by simp [bC]
 | x :: l, acc, h => by
  have hx : x ∉ acc := fun hm => by
   rw [List.nodup_append] at h
   exact h.2.2 x hm x (by simp) rfl
  rw [HW, show cB acc x = acc ++ [x] by unfold cB; rw [if_neg (by simpa using hx)], lN (by simpa using h)]
  simp
end Pd
end Go.Proofs.YtkckoolfgnkpcaaDoor
namespace Go.Proofs.YtkckoolfgnkpcaaDoor
namespace Pd
theorem Fu : gS = some true := by kernel_rfl
end Pd
end Go.Proofs.YtkckoolfgnkpcaaDoor
namespace Go.Proofs.YtkckoolfgnkpcaaDoor
namespace Sy
open Pa
noncomputable def Er {α : Type} (x : Except Err α) : Prop := ∀ e, x = .error e → e.1 ≠ 0
theorem Er.ok {α : Type} {a : α} : Er (.ok a : Except Err α) := fun e h => by cases h
theorem Er.lit {α : Type} {e : Err} (h : e.1 ≠ 0) : Er (.error e : Except Err α) := fun e' he => by cases he; exact h
theorem Er.bif {α : Type} {c : Bool} {a b : Except Err α} (ha : c = true → Er a) (hb : c = false → Er b) : Er (bif c then a else b) := by cases c; exact hb rfl; exact ha rfl
theorem Er.of {α : Type} {x : Except Err α} (h : Er x) {e : Err} (he : x = .error e) {β : Type} : Er (.error e : Except Err β) := .lit (h e he)
theorem Jq {names : List Str} {ts : List Tok} : Er (qO names ts) := fun e h => by
 unfold qO at h
 split at h
 ·rename_i hx
  have h1 := Classical.choose_spec hx
  rw [h] at h1
  rcases h1.err e rfl with h | h | h <;> omega
 ·cases h; decide
theorem p7 {x : Str} {ts : List Tok} : Er (aU x ts) := by
 unfold aU
 split
 ·exact .lit (by decide)
 ·exact .bif (fun _ => .ok) (fun _ => .lit (show (2 : Int) ≠ 0 by decide))
theorem Bc {full : Bool} {names procs : List Str} {ts : List Tok} : Er (cT full names procs ts) := by
 unfold cT
 split
 ·exact .lit (by decide)
 ·exact .bif (fun _ => .lit (show (2 : Int) ≠ 0 by decide)) fun _ => .bif (fun _ => .lit (show (3 : Int) ≠ 0 by decide)) fun _ => .bif (fun _ => .lit (show (9 : Int) ≠ 0 by decide)) fun _ => .ok
theorem AT {neg : Bool} {ts : List Tok} : Er (jS neg ts) := by
 unfold jS
 split
 ·exact .lit (by decide)
 ·exact .bif (fun _ => .lit (show (2 : Int) ≠ 0 by decide)) fun _ => .ok
theorem yT {ts : List Tok} : Er (di ts) := .bif (fun _ => AT) fun _ => AT
theorem LS {m : Mdl} {ts : List Tok} : Er (jk m ts) := by
 unfold jk
 split
 ·rename_i h; exact Bc.of h
 ·split
  ·rename_i h; exact yT.of h
  ·split
   ·rename_i h; exact yT.of h
   ·split
    ·rename_i h; exact yT.of h
    ·split
     ·rename_i h; exact p7.of h
     ·exact .bif (fun _ => .lit (show (5 : Int) ≠ 0 by decide)) fun _ => .ok
theorem CD {want : Int} {names : List Str} {ts : List Tok} : Er (bZ want names ts) := by
 unfold bZ
 split
 ·rename_i h; exact Jq.of h
 ·exact .bif (fun h => .lit (by simpa using h)) fun _ => .bif (fun _ => .lit (show (4 : Int) ≠ 0 by decide)) fun _ => .ok
theorem Bs {names : List Str} : ∀ (f : Nat) (acc : List (Int × Ex)) (ts : List Tok), Er (cM names f acc ts)
 | 0, _, _ => .lit (show (2 : Int) ≠ 0 by decide)
 | f + 1, acc, ts => by
  unfold cM
  split
  ·exact .lit (by decide)
  ·refine .bif (fun _ => .lit (show (2 : Int) ≠ 0 by decide)) fun _ => .bif (fun _ => .lit (show (3 : Int) ≠ 0 by decide)) fun _ => ?_
   split
   ·rename_i h; exact p7.of h
   ·split
    ·rename_i h; exact CD.of h
    ·exact .bif (fun _ => Bs f _ _) fun _ => .ok
theorem LW {m : Mdl} {ts : List Tok} : Er (gW m ts) := by
 unfold gW
 refine .bif (fun _ => .lit (show (9 : Int) ≠ 0 by decide)) fun _ => ?_
 split
 ·rename_i h; exact CD.of h
 ·split
  ·rename_i h; exact p7.of h
  ·split
   ·rename_i h; exact (Bs _ _ _).of h
   ·split
    ·rename_i h; exact p7.of h
    ·exact .ok
theorem Cd : ∀ (f : Nat) (m : Mdl) (ts : List Tok), Er (gu f m ts)
 | 0, _, _ => .lit (show (2 : Int) ≠ 0 by decide)
 | f + 1, m, ts => by
  unfold gu
  refine .bif (fun _ => .ok) fun _ => ?_
  split
  ·rename_i h; exact LW.of h
  ·exact Cd f _ _
theorem Ib {m : Mdl} {ts : List Tok} : Er (lj m ts) := by
 unfold lj
 split
 ·rename_i h; exact Bc.of h
 ·split
  ·rename_i h; exact p7.of h
  ·exact Cd _ _ _
theorem tQ : ∀ (f : Nat) (m : Mdl) (ts : List Tok), Er (iT f m ts)
 | 0, _, _ => .lit (show (2 : Int) ≠ 0 by decide)
 | f + 1, m, ts => by
  unfold iT
  split
  ·exact .lit (by decide)
  ·refine .bif (fun _ => .bif (fun _ => .lit (show (2 : Int) ≠ 0 by decide)) fun _ => .ok) fun _ => .bif (fun _ => ?_) fun _ => .bif (fun _ => ?_) fun _ => .lit (show (2 : Int) ≠ 0 by decide)
   ·split
    ·rename_i h; exact LS.of h
    ·exact tQ f _ _
   ·split
    ·rename_i h; exact Ib.of h
    ·exact tQ f _ _
theorem Kw {text : Str} {e : Err} (h : w6 text = .error e) : e.1 ≠ 0 := by
 unfold w6 at h
 split at h
 ·cases h; decide
 ·split at h
  ·exact tQ _ _ _ e h
  ·rename_i hl
   cases h
   exact CA _ _ _ _ hl
end Sy
end Go.Proofs.YtkckoolfgnkpcaaDoor
namespace Go.Proofs.YtkckoolfgnkpcaaDoor
namespace Sp
/-! rows alike -/
theorem Cz (a b : List Int) (hl : a.length = b.length) (ha : a.length < 1000000000) : ∀ (r pre s : List Int), a = pre ++ r → b = pre ++ s → ∀ M, r.length < M → ao (gn a b) M (pre.length : Int) = some (r == s)
 | [], pre, s, h, h2, M, hM => by
  obtain ⟨k, rfl⟩ : ∃ k, M = k + 1 := ⟨M - 1, by simp at hM; omega⟩
  rw [an]
  simp only [gn, Sy.fO h, cond_false]
  have : s = [] := List.eq_nil_of_length_eq_zero (by rw [h, h2] at hl; simpa using hl.symm)
  subst this; rfl
 | x :: r, pre, [], h, h2, M, hM => by rw [h, h2] at hl; simp at hl
 | x :: r, pre, y :: s, h, h2, M, hM => by
  obtain ⟨k, rfl⟩ : ∃ k, M = k + 1 := ⟨M - 1, by omega⟩
  rw [an]
  have hlen : pre.length + r.length + 1 = a.length := by rw [h]; simp; omega
  simp only [gn, Sy.eK h, cond_true, Sy.mid h, Sy.mid h2, ai, Pa.bu (show pre.length < 4611686018427387904 by omega)]
  by_cases e : x = y
  ·subst e
   have ih := Cz a b hl ha r (pre ++ [x]) s (by rw [h]; simp) (by rw [h2]; simp) k (by simp at hM; omega)
   rw [show ((pre ++ [x]).length : Int) = ((pre.length + 1 : Nat) : Int) by simp] at ih
   rw [show (x != x) = false by simp, cond_false, ih]
   simp
  ·rw [show (x != y) = true by simpa using e, cond_true]
   simp [e]
theorem Hp (a b : List Int) (ha : a.length < 1000000000) : fV a b = some (a == b) := by
 unfold fV
 by_cases hl : a.length = b.length
 ·rw [show ((List.length a : Int) != (List.length b : Int)) = false by rw [hl]; simp, cond_false]
  exact Cz a b hl ha a [] b rfl rfl au (by show _ < 2 ^ 64; omega)
 ·rw [show ((List.length a : Int) != (List.length b : Int)) = true by simp; omega, cond_true, beq_eq_false_iff_ne.2 (fun e => hl (by rw [e]))]
theorem zW (a b : List (List Int)) (hl : a.length = b.length) (ha : a.length < 1000000000) (hs : ∀ w ∈ a, w.length < 1000000000) : ∀ (r pre s ps : List (List Int)), a = pre ++ r → b = ps ++ s → ps.length = pre.length → ∀ M, r.length < M → ao (fI a b) M (pre.length : Int) = some (r == s)
 | [], pre, s, ps, h, h2, hp, M, hM => by
  obtain ⟨k, rfl⟩ : ∃ k, M = k + 1 := ⟨M - 1, by simp at hM; omega⟩
  rw [an]
  simp only [fI, Sy.fO h, cond_false]
  have : s = [] := List.eq_nil_of_length_eq_zero (by rw [h, h2] at hl; simp at hl; omega)
  subst this; rfl
 | x :: r, pre, [], ps, h, h2, hp, M, hM => by rw [h, h2] at hl; simp at hl; omega
 | x :: r, pre, y :: s, ps, h, h2, hp, M, hM => by
  obtain ⟨k, rfl⟩ : ∃ k, M = k + 1 := ⟨M - 1, by omega⟩
  rw [an]
  have hlen : pre.length + r.length + 1 = a.length := by rw [h]; simp; omega
  have e1 : idx b (pre.length : Int) = some y := by rw [← hp]; exact Sy.mid h2
  simp only [fI, Sy.eK h, cond_true, Sy.mid h, e1, ai, Pa.bu (show pre.length < 4611686018427387904 by omega)]
  rw [Hp x y (hs x (by rw [h]; simp)), ai]
  by_cases e : x = y
  ·subst e
   have ih := zW a b hl ha hs r (pre ++ [x]) s (ps ++ [x]) (by rw [h]; simp) (by rw [h2]; simp) (by simp; omega) k (by simp at hM; omega)
   rw [show ((pre ++ [x]).length : Int) = ((pre.length + 1 : Nat) : Int) by simp] at ih
   rw [show (!(x == x)) = false by simp, cond_false, ih]
   simp
  ·rw [show (!(x == y)) = true by simpa using e, cond_true]
   simp [e]
theorem Mj (a b : List (List Int)) (ha : a.length < 1000000000) (hs : ∀ w ∈ a, w.length < 1000000000) : cq a b = some (a == b) := by
 unfold cq
 by_cases hl : a.length = b.length
 ·rw [show ((List.length a : Int) != (List.length b : Int)) = false by rw [hl]; simp, cond_false]
  exact zW a b hl ha hs a [] b [] rfl rfl rfl au (by show _ < 2 ^ 64; omega)
 ·rw [show ((List.length a : Int) != (List.length b : Int)) = true by simp; omega, cond_true, beq_eq_false_iff_ne.2 (fun e => hl (by rw [e]))]
/-! the place of a state in a row -/
noncomputable def plc (v : List Int) : Nat → List (List Int) → Int
 | _, [] => -1
 | k, x :: r => if x = v then (k : Int) else plc v (k + 1) r
theorem u6 {v : List Int} : ∀ {l : List (List Int)} {k : Nat}, plc v k l < 0 ↔ v ∉ l
 | [], k => by simp [plc]
 | x :: r, k => by
  unfold plc
  by_cases e : x = v
  ·rw [if_pos e]
   constructor
   ·intro h; omega
   ·intro h; exact absurd (by rw [e]; simp) h
  ·rw [if_neg e, u6 (l := r)]
   simp only [List.mem_cons, not_or]
   exact ⟨fun h => ⟨fun e2 => e e2.symm, h⟩, fun h => h.2⟩
/-! within the ranges, as the document says it -/
noncomputable def inB (S : List (Int × Int)) (v : List Int) : Bool := decide (v.length = S.length) && fits S v
theorem lM {S : List (Int × Int)} {v : List Int} : inB S v = true ↔ InS S v := by
 unfold inB
 rw [Bool.and_eq_true, decide_eq_true_eq]
 exact ⟨fun h => ⟨h.1, h.2⟩, fun h => ⟨h.len, h.fit⟩⟩
/-! what the document's walk needs -/
structure ld (S : List (Int × Int)) (C : List Sy.Cmd) : Prop extends SafeS S C where
 rguard : ∀ c ∈ C, fg (S.length : Int) c.2.1 = true ∧ (rt c.2.1).1 = 2
 rsets : ∀ c ∈ C, ∀ s ∈ c.2.2, fg (S.length : Int) s.2 = true ∧ (rt s.2).1 = 1
theorem Le {m : Sy.Mdl} (h : Sy.Wf m) : ld m.2.1 m.2.2.2.2 := by
 have hs := h.schema
 have h1 := h.some_
 have h2 := h.names
 have h3 := h.cmds
 refine { pos := by omega, few := by omega, field := h.fields, cmds := by omega, guard := fun c hc => ?_, sets := fun c hc => ⟨(h.cmd c hc).len, fun s hs2 => ?_⟩, rguard := fun c hc => ?_, rsets := fun c hc s hs2 => ?_ }
 ·have := (h.cmd c hc).sz; omega
 ·have k := (h.cmd c hc).sets s hs2
  have := k.var; have := k.sz
  refine ⟨by omega, by omega, by omega⟩
 ·have k := h.cmd c hc
  rw [hs]
  exact ⟨k.may, k.typ.2⟩
 ·have k := (h.cmd c hc).sets s hs2
  rw [hs]
  exact ⟨k.may, k.typ.2⟩
theorem DN : ∀ {S : List (Int × Int)} {v : List Int}, (∀ (i : Nat) (f : Int × Int) (n : Int), S[i]? = some f → v[i]? = some n → f.1 ≤ n ∧ n ≤ f.2) → fits S v = true
 | [], [], _ => rfl
 | [], _ :: _, _ => rfl
 | _ :: _, [], _ => rfl
 | s :: S, x :: v, h => by
  have h0 := h 0 s x rfl rfl
  simp only [fits, Bool.and_eq_true, decide_eq_true_eq]
  exact ⟨h0, DN fun i f n h1 h2 => h (i + 1) f n (by simpa using h1) (by simpa using h2)⟩
theorem Mr {m : Sy.Mdl} (h : Sy.Wf m) : InS m.2.1 m.2.2.1 := ⟨by rw [h.init, h.schema], DN h.first⟩
/-! the system of a text -/
end Sp
end Go.Proofs.YtkckoolfgnkpcaaDoor
namespace Go.Proofs.YtkckoolfgnkpcaaDoor
namespace Sp
theorem xP (l : List (List Int)) (v : List Int) (hl : l.length < 1000000000) (hs : ∀ w ∈ l, w.length < 1000000000) : ∀ (r pre : List (List Int)), l = pre ++ r → ∀ M, r.length < M → ao (eo l v) M (pre.length : Int) = some (plc v pre.length r)
 | [], pre, h, M, hM => by
  obtain ⟨k, rfl⟩ : ∃ k, M = k + 1 := ⟨M - 1, by simp at hM; omega⟩
  rw [an]
  simp only [eo, Sy.fO h, cond_false, plc]
 | x :: r, pre, h, M, hM => by
  obtain ⟨k, rfl⟩ : ∃ k, M = k + 1 := ⟨M - 1, by omega⟩
  rw [an]
  have hlen : pre.length + r.length + 1 = l.length := by rw [h]; simp; omega
  have ih := xP l v hl hs r (pre ++ [x]) (by rw [h]; simp) k (by simp at hM; omega)
  rw [show ((pre ++ [x]).length : Int) = ((pre.length + 1 : Nat) : Int) by simp, show (pre ++ [x]).length = pre.length + 1 by simp] at ih
  simp only [eo, Sy.eK h, cond_true, Sy.mid h, ai, Pa.bu (show pre.length < 4611686018427387904 by omega)]
  rw [Hp x v (hs x (by rw [h]; simp)), ai, plc]
  by_cases e : x = v
  ·rw [if_pos e, show (x == v) = true by simpa using e, cond_true]
  ·rw [if_neg e, show (x == v) = false by simpa using e, cond_false]; exact ih
theorem wM (l : List (List Int)) (v : List Int) (hl : l.length < 1000000000) (hs : ∀ w ∈ l, w.length < 1000000000) : cP l v = some (plc v 0 l) :=
 xP l v hl hs l [] rfl au (by show _ < 2 ^ 64; omega)
end Sp
end Go.Proofs.YtkckoolfgnkpcaaDoor
namespace Go.Proofs.YtkckoolfgnkpcaaDoor
theorem Jj (op n a' : Int) (l : List Ex) (v : List Int) (a b : Int) (hab : 15 ≤ op → (a = 0 ∨ a = 1) ∧ (b = 0 ∨ b = 1)) : fN (.mk op n a' l) v a b = some (evF op n v a b) := by
 have hc : (op = 1 ∨ op = 2 ∨ op = 3 ∨ op = 4 ∨ op = 5 ∨ op = 6 ∨ op = 7 ∨ op = 8 ∨ op = 9 ∨ op = 10 ∨ op = 11 ∨ op = 12 ∨ op = 13 ∨ op = 15 ∨ op = 16 ∨ op = 17 ∨ op = 18 ∨ op = 19) ∨ (op < 1 ∨ op = 14 ∨ 19 < op) := by omega
 rcases hc with hc | hc
 ·rcases hc with rfl | rfl | rfl | rfl | rfl | rfl | rfl | rfl | rfl | rfl | rfl | rfl | rfl | rfl | rfl | rfl | rfl | rfl
  ·rfl
  ·show (bif (decide (0 ≤ n) && decide (n < (List.length v : Int))) then (idx v n).bind (fun z => some z) else some 0) = some (bif decide (n < 0) || decide ((List.length v : Int) ≤ n) then 0 else v.getD n.toNat 0)
   by_cases h0 : 0 ≤ n
   ·by_cases h1 : n < (List.length v : Int)
    ·rw [decide_eq_true h0, decide_eq_true h1, decide_eq_false (by omega), decide_eq_false (by omega)]
     have : idx v n = some (v.getD n.toNat 0) := by
      unfold idx
      rw [if_pos h0, List.getElem?_eq_getElem (by omega)]
      simp [List.getD, List.getElem?_eq_getElem (show n.toNat < v.length by omega)]
     rw [this]; rfl
    ·rw [decide_eq_true h0, decide_eq_false h1, decide_eq_false (by omega), decide_eq_true (by omega)]; rfl
   ·rw [decide_eq_false h0, decide_eq_true (show n < 0 by omega)]; rfl
  ·rfl
  ·rfl
  ·rfl
  ·rfl
  ·show (az (a == b)).bind (fun z => some z) = some (tr ((a == b) != false))
   cases (a == b) <;> rfl
  ·show (az (!(a == b))).bind (fun z => some z) = some (tr ((a == b) != true))
   cases (a == b) <;> rfl
  ·show (az (decide (a < b))).bind (fun z => some z) = some (tr (decide (a < b) != false))
   cases decide (a < b) <;> rfl
  ·show (az (decide (a ≤ b))).bind (fun z => some z) = some (tr (decide (a ≤ b) != false))
   cases decide (a ≤ b) <;> rfl
  ·show (az (decide (b < a))).bind (fun z => some z) = some (tr (decide (a ≤ b) != true))
   by_cases h : a ≤ b
   ·rw [decide_eq_true h, decide_eq_false (by omega)]; rfl
   ·rw [decide_eq_false h, decide_eq_true (by omega)]; rfl
  ·show (az (decide (b ≤ a))).bind (fun z => some z) = some (tr (decide (a < b) != true))
   by_cases h : a < b
   ·rw [decide_eq_true h, decide_eq_false (by omega)]; rfl
   ·rw [decide_eq_false h, decide_eq_true (by omega)]; rfl
  ·rfl
  ·obtain ⟨ha, hb⟩ := hab (by omega)
   rcases ha with rfl | rfl <;> rfl
  ·obtain ⟨ha, hb⟩ := hab (by omega)
   rcases ha with rfl | rfl <;> rcases hb with rfl | rfl <;> rfl
  ·obtain ⟨ha, hb⟩ := hab (by omega)
   rcases ha with rfl | rfl <;> rcases hb with rfl | rfl <;> rfl
  ·obtain ⟨ha, hb⟩ := hab (by omega)
   rcases ha with rfl | rfl <;> rcases hb with rfl | rfl <;> rfl
  ·show (az (a == b)).bind (fun z => some z) = some (tr ((a == b) != false))
   cases (a == b) <;> rfl
 ·have b1 : (op == 1) = false := beq_eq_false_iff_ne.2 (by omega)
  have b2 : (op == 2) = false := beq_eq_false_iff_ne.2 (by omega)
  have b3 : (op == 3) = false := beq_eq_false_iff_ne.2 (by omega)
  have b4 : (op == 4) = false := beq_eq_false_iff_ne.2 (by omega)
  have b5 : (op == 5) = false := beq_eq_false_iff_ne.2 (by omega)
  have b6 : (op == 6) = false := beq_eq_false_iff_ne.2 (by omega)
  have b7 : (op == 7) = false := beq_eq_false_iff_ne.2 (by omega)
  have b8 : (op == 8) = false := beq_eq_false_iff_ne.2 (by omega)
  have b9 : (op == 9) = false := beq_eq_false_iff_ne.2 (by omega)
  have b10 : (op == 10) = false := beq_eq_false_iff_ne.2 (by omega)
  have b11 : (op == 11) = false := beq_eq_false_iff_ne.2 (by omega)
  have b12 : (op == 12) = false := beq_eq_false_iff_ne.2 (by omega)
  have b13 : (op == 13) = false := beq_eq_false_iff_ne.2 (by omega)
  have b15 : (op == 15) = false := beq_eq_false_iff_ne.2 (by omega)
  have b16 : (op == 16) = false := beq_eq_false_iff_ne.2 (by omega)
  have b17 : (op == 17) = false := beq_eq_false_iff_ne.2 (by omega)
  have b18 : (op == 18) = false := beq_eq_false_iff_ne.2 (by omega)
  have b19 : (op == 19) = false := beq_eq_false_iff_ne.2 (by omega)
  simp only [fN, Ex.op, evF, b1, b2, b3, b4, b5, b6, b7, b8, b9, b10, b11, b12, b13, b15, b16, b17, b18, b19, cond_false]
theorem Lt (k : Ex × List Int → Option Int) (e : Ex) (v : List Int) (hk : ∀ x ∈ e.l, k (x, v) = some (ev v x)) (hab : 15 ≤ e.op → (ev0 v e.l = 0 ∨ ev0 v e.l = 1) ∧ (ev1 v e.l = 0 ∨ ev1 v e.l = 1)) :
  gw k e v = some (ev v e) := by
 obtain ⟨op, n, a', l⟩ := e
 rw [yg]
 have key := Jj op n a' l v (ev0 v l) (ev1 v l) hab
 rw [show evF (Ex.mk op n a' l).op (Ex.mk op n a' l).n v (ev0 v (Ex.mk op n a' l).l) (ev1 v (Ex.mk op n a' l).l) = evF op n v (ev0 v l) (ev1 v l) from rfl, ← key]
 match l, hk with
 | [], _ => simp only [ev0, ev1]; rfl
 | [x], hk =>
  have hx := hk x (by simp [Ex.l])
  simp only [ev0, ev1]
  show (k (x, v)).bind _ = _
  rw [hx]; rfl
 | x :: y :: r, hk =>
  have hx := hk x (by simp [Ex.l])
  have hy := hk y (by simp [Ex.l])
  simp only [ev0, ev1]
  have d0 : decide ((0 : Int) < (List.length (x :: y :: r) : Int)) = true := decide_eq_true (by simp only [List.length_cons]; omega)
  have d1 : decide ((1 : Int) < (List.length (x :: y :: r) : Int)) = true := decide_eq_true (by simp only [List.length_cons]; omega)
  show (bif decide ((0 : Int) < (List.length (x :: y :: r) : Int)) then _ else _) = _
  rw [d0]
  show (k (x, v)).bind _ = _
  rw [hx]
  show (bif decide ((1 : Int) < (List.length (x :: y :: r) : Int)) then _ else _) = _
  rw [d1]
  show (k (y, v)).bind _ = _
  rw [hy]; rfl
theorem EW {vars : Int} (v : List Int) : ∀ (N : Nat) (e : Ex), e.sz ≤ N → fg vars e = true → ((rt e).1 = 1 ∨ (rt e).1 = 2) → ao (fun k (s : Ex × List Int) => gw k s.1 s.2) N (e, v) = some (ev v e) := by
 intro N
 induction N with
 | zero => intro e h; have := rD e; omega
 | succ N ih =>
  intro e h hm ht
  rw [an]
  refine Lt _ e v (fun x hx => ih x (by have := tg hx; omega) ((ue hm).2.2.2.2 x hx) (Dh hm ht x hx)) (fun h15 => M4 v (fun x hx => ?_))
  rw [rt_eq] at ht
  have h2 : (rtA e.op e.at_ (e.l.length : Int) e.l 0 0 0).1 = 2 := by
   rcases ht with h | h
   ·have := yv _ _ _ _ _ _ _ h; omega
   ·exact h
  exact Nl v x.sz x (Nat.le_refl _) (vo _ _ _ h15 (u5 _ _ _ _ _ _ _ h2).2 _ _ _ _ (by omega) h2 x hx).1
theorem Bx {vars : Int} (v : List Int) (e : Ex) (h : e.sz < 1152921504606846) (hm : fg vars e = true) (ht : (rt e).1 = 1 ∨ (rt e).1 = 2) : dX e v = some (ev v e) := EW v au e (by show e.sz ≤ 2 ^ 64; omega) hm ht
end Go.Proofs.YtkckoolfgnkpcaaDoor
namespace Go.Proofs.YtkckoolfgnkpcaaDoor
namespace Sp
/-! a fired command, as the document says it -/
theorem zX (m : Sy.Mdl) (w : List Int) (hn : w.length = m.2.1.length) (hw : w.length < 1000) : ∀ (r pre : List Int) (rs ps : List (Int × Int)), w = pre ++ r → m.2.1 = ps ++ rs → ps.length = pre.length → rs.length = r.length →
  ∀ M, r.length < M → ao (ea m w) M (pre.length : Int) = some (bif fits rs r then (w, 0) else ([], 6))
 | [], pre, rs, ps, h, hS, hl, hr, M, hM => by
  obtain ⟨m, rfl⟩ : ∃ m, M = m + 1 := ⟨M - 1, by simp at hM; omega⟩
  rw [an]
  simp only [ea, Sy.fO h, cond_false]
  have : rs = [] := List.eq_nil_of_length_eq_zero hr
  subst this; rfl
 | x :: r, pre, [], ps, h, hS, hl, hr, M, hM => by simp at hr
 | x :: r, pre, s :: rs, ps, h, hS, hl, hr, M, hM => by
  obtain ⟨k, rfl⟩ : ∃ k, M = k + 1 := ⟨M - 1, by omega⟩
  rw [an]
  have e1 : idx m.2.1 (pre.length : Int) = some s := by rw [← hl]; exact Sy.mid hS
  have hlen : pre.length + r.length + 1 = w.length := by rw [h]; simp; omega
  have ih := zX m w hn hw r (pre ++ [x]) rs (ps ++ [s]) (by rw [h]; simp) (by rw [hS]; simp) (by simp; omega) (by simpa using hr) k (by simp at hM; omega)
  rw [show ((pre ++ [x]).length : Int) = ((pre.length + 1 : Nat) : Int) by simp] at ih
  simp only [ea, Sy.eK h, cond_true, Sy.mid h, ai, e1, Pa.bu (show pre.length < 4611686018427387904 by omega), ih, fits, bl, MH]
  by_cases h1 : x < s.1
  ·rw [decide_eq_true h1, Bool.true_or, cond_true, decide_eq_false (show ¬ s.1 ≤ x by omega)]
   rfl
  ·rw [decide_eq_false h1, decide_eq_true (show s.1 ≤ x by omega)]
   simp only [Bool.not_false, cond_true, Bool.false_or, Bool.true_and]
   by_cases h2 : s.2 < x
   ·rw [decide_eq_true h2, decide_eq_false (show ¬ x ≤ s.2 by omega)]; rfl
   ·rw [decide_eq_false h2, decide_eq_true (show x ≤ s.2 by omega)]; rfl
theorem xI (m : Sy.Mdl) (v : List Int) (hm : ld m.2.1 m.2.2.2.2) (hn : v.length = m.2.1.length) (k : Int) (e : Sy.Cmd) (hk : idx m.2.2.2.2 k = some e) (he : e ∈ m.2.2.2.2) :
  ∀ (r pre : List (Int × Ex)), e.2.2 = pre ++ r → ∀ (w : List Int) (M : Nat), w.length = v.length → r.length < M →
   ao (fM m v k) M (w, (pre.length : Int)) = some (fin m.2.1 (r.foldl (uu v) w))
 | [], pre, h, w, M, hw, hM => by
  obtain ⟨n, rfl⟩ : ∃ n, M = n + 1 := ⟨M - 1, by simp at hM; omega⟩
  rw [an]
  have hv : v.length < 1000 := by have := hm.few; omega
  simp only [fM, hk, ai, Sy.fO h, cond_false, List.foldl_nil, fin]
  exact zX m w (by omega) (by omega) w [] m.2.1 [] rfl rfl rfl (by omega) au (by show _ < 2 ^ 64; omega)
 | s :: r, pre, h, w, M, hw, hM => by
  obtain ⟨n, rfl⟩ : ∃ n, M = n + 1 := ⟨M - 1, by omega⟩
  rw [an]
  have hs : s ∈ e.2.2 := by rw [h]; simp
  obtain ⟨h0, h1, h2⟩ := (hm.sets e he).2 s hs
  obtain ⟨h4, h5⟩ := hm.rsets e he s hs
  have h6 := (hm.sets e he).1
  have hlen : pre.length + r.length + 1 = e.2.2.length := by rw [h]; simp; omega
  obtain ⟨x, hx, _⟩ := ov w s.1 h0 (by omega)
  have ih := xI m v hm hn k e hk he r (pre ++ [s]) (by rw [h]; simp) (uu v w s) n (by rw [wu, hw]) (by simp at hM; omega)
  rw [show ((pre ++ [s]).length : Int) = ((pre.length + 1 : Nat) : Int) by simp] at ih
  simp only [fM, hk, ai, Sy.eK h, cond_true, Sy.mid h]
  rw [Bx v s.2 (by omega) h4 (.inl h5)]
  simp only [ai, hx, Pa.bu (show pre.length < 4611686018427387904 by omega)]
  exact ih
theorem JH {m : Sy.Mdl} {v : List Int} (hm : ld m.2.1 m.2.2.2.2) (hn : v.length = m.2.1.length) (k : Int) : il m v k = some (vc m.2.1 m.2.2.2.2 v k) := by
 have hv : v.length < 1000 := by have := hm.few; omega
 unfold il
 simp only [bl]
 unfold vc
 by_cases hk : k < 0 ∨ (m.2.2.2.2.length : Int) ≤ k
 ·rw [if_pos hk]
  rw [show (decide (k < 0) || decide ((List.length m.2.2.2.2 : Int) ≤ k)) = true by rw [Bool.or_eq_true, decide_eq_true_eq, decide_eq_true_eq]; exact hk, cond_true]
 ·rw [if_neg hk]
  rw [show (decide (k < 0) || decide ((List.length m.2.2.2.2 : Int) ≤ k)) = false by rw [Bool.eq_false_iff]; intro h; rw [Bool.or_eq_true, decide_eq_true_eq, decide_eq_true_eq] at h; exact hk h, cond_false]
  obtain ⟨c, hc, hc2⟩ := ov m.2.2.2.2 k (by omega) (by omega)
  rw [Sy.cb (Sy.bO (by simp; omega) (by simp; omega)), List.nil_append]
  have hmem : c ∈ m.2.2.2.2 := List.mem_of_getElem? hc2
  have := xI m v hm hn k c hc hmem c.2.2 [] rfl v au rfl (by have := (hm.sets c hmem).1; show _ < 2 ^ 64; omega)
  rw [show (0 : Int) = ((([] : List (Int × Ex)).length : Nat) : Int) from rfl, this]
  unfold cE
  rw [hc2]
  rfl
theorem AK (m : Sy.Mdl) (v : List Int) (hm : ld m.2.1 m.2.2.2.2) : ∀ (r pre : List Sy.Cmd), m.2.2.2.2 = pre ++ r → ∀ (out : List Int) (M : Nat), out.length ≤ pre.length → r.length < M →
  ao (eC m v) M (out, (pre.length : Int)) = some (out ++ enI v pre.length r)
 | [], pre, h, out, M, ho, hM => by
  obtain ⟨k, rfl⟩ : ∃ k, M = k + 1 := ⟨M - 1, by simp at hM; omega⟩
  rw [an]
  simp only [eC, Sy.fO h, cond_false, enI, List.append_nil]
 | c :: r, pre, h, out, M, ho, hM => by
  obtain ⟨k, rfl⟩ : ∃ k, M = k + 1 := ⟨M - 1, by omega⟩
  rw [an]
  have hlen : pre.length + r.length + 1 = m.2.2.2.2.length := by rw [h]; simp; omega
  have h3 := hm.cmds
  have hg := hm.guard c (by rw [h]; simp)
  obtain ⟨h4, h5⟩ := hm.rguard c (by rw [h]; simp)
  simp only [eC, Sy.eK h, cond_true, Sy.mid h, ai]
  rw [Bx v c.2.1 (by omega) h4 (.inr h5), ai]
  have ih := fun out ho => AK m v hm r (pre ++ [c]) (by rw [h]; simp) out k ho (by simp at hM; omega)
  rw [show ((pre ++ [c]).length : Int) = ((pre.length + 1 : Nat) : Int) by simp, show (pre ++ [c]).length = pre.length + 1 by simp] at ih
  simp only [Pa.bu (show pre.length < 4611686018427387904 by omega), enI]
  by_cases he : ev v c.2.1 = 1
  ·rw [if_pos he, show (ev v c.2.1 == 1) = true by simpa using he, cond_true, Sy.cb (Sy.bO (by simp; omega) (by simp; omega)), ih _ (by simp; omega), List.append_assoc]
   rfl
  ·rw [if_neg he, show (ev v c.2.1 == 1) = false by simpa using he, cond_false, ih _ (by omega)]
theorem NQ {m : Sy.Mdl} {v : List Int} (hm : ld m.2.1 m.2.2.2.2) : ja m v = some (enI v 0 m.2.2.2.2) :=
 AK m v hm m.2.2.2.2 [] rfl [] au (Nat.le_refl _) (by have := hm.cmds; show _ < 2 ^ 64; omega)
theorem uY {l : List (List Int)} {v : List Int} : (plc v 0 l < 0 → cB l v = l ++ [v]) ∧ (¬ plc v 0 l < 0 → cB l v = l) := by
 unfold cB
 constructor
 ·intro h
  rw [u6] at h
  rw [if_neg (by simpa using h)]
 ·intro h
  rw [u6] at h
  rw [if_pos (by simpa using h)]
theorem xi (m : Sy.Mdl) (v : List Int) (hm : ld m.2.1 m.2.2.2.2) (hn : v.length = m.2.1.length) (L : List Int) (hL : ∀ i ∈ L, 0 ≤ i ∧ i < m.2.2.2.2.length) (hLl : L.length ≤ 300) :
  ∀ (r pre : List Int), L = pre ++ r → ∀ (l : List (List Int)) (M : Nat), (∀ w ∈ l, InS m.2.1 w) → l.length ≤ pre.length → r.length < M →
   ao (fJ m v L) M (l, (pre.length : Int)) = some (bif (r.map (cE m.2.2.2.2 v)).all (fits m.2.1) then (bC l (r.map (cE m.2.2.2.2 v)), 0) else ([], 6))
 | [], pre, h, l, M, hs, hl, hM => by
  obtain ⟨k, rfl⟩ : ∃ k, M = k + 1 := ⟨M - 1, by simp at hM; omega⟩
  rw [an]
  simp only [fJ, Sy.fO h, cond_false]
  rfl
 | i :: r, pre, h, l, M, hs, hl, hM => by
  obtain ⟨k, rfl⟩ : ∃ k, M = k + 1 := ⟨M - 1, by omega⟩
  rw [an]
  have hlen : pre.length + r.length + 1 = L.length := by rw [h]; simp; omega
  obtain ⟨hi0, hi1⟩ := hL i (by rw [h]; simp)
  simp only [fJ, Sy.eK h, cond_true, Sy.mid h, ai]
  rw [JH hm hn i]
  unfold vc
  rw [if_neg (by omega), ai]
  unfold fin
  rw [List.map_cons, List.all_cons]
  obtain ⟨c, _, hc⟩ := ov m.2.2.2.2 i hi0 hi1
  have hfl : (cE m.2.2.2.2 v i).length = m.2.1.length := by unfold cE; rw [hc, ← hn]; exact tT v c
  cases hf : fits m.2.1 (cE m.2.2.2.2 v i)
  ·rfl
  ·have hin : InS m.2.1 (cE m.2.2.2.2 v i) := ⟨hfl, hf⟩
   simp only [cond_true, Bool.true_and]
   rw [show ((0 : Int) != 0) = false from rfl, cond_false, wM l _ (by omega) (fun w hw => (hs w hw).short hm.toSafeS), ai]
   have hl2 := j4 l (cE m.2.2.2.2 v i)
   have ih := xi m v hm hn L hL hLl r (pre ++ [i]) (by rw [h]; simp) (cB l (cE m.2.2.2.2 v i)) k (fun w hw => by
    rcases sL.1 hw with h | h
    ·exact hs w h
    ·rw [h]; exact hin) (by simp; omega) (by simp at hM; omega)
   rw [show ((pre ++ [i]).length : Int) = ((pre.length + 1 : Nat) : Int) by simp] at ih
   simp only [Pa.bu (show pre.length < 4611686018427387904 by omega), List.foldl_cons, bC] at ih ⊢
   by_cases hp : plc (cE m.2.2.2.2 v i) 0 l < 0
   ·rw [decide_eq_true hp, cond_true, Sy.cb (Sy.bO (by simp; omega) (by simp; omega)), ← uY.1 hp]
    exact ih
   ·rw [decide_eq_false hp, cond_false]
    rw [uY.2 hp] at ih ⊢
    exact ih
theorem I8 {m : Sy.Mdl} {v : List Int} (hm : ld m.2.1 m.2.2.2.2) (hv : InS m.2.1 v) : iA m v = some (bk m.2.1 m.2.2.2.2 v) := by
 have hll := rF v m.2.2.2.2 0
 have hlen : (enI v 0 m.2.2.2.2).length ≤ 300 := by
  rw [rF]
  have := List.length_filter_le (fun c : Sy.Cmd => decide (ev v c.2.1 = 1)) m.2.2.2.2
  have := hm.cmds
  unfold enC; omega
 have hmap : (enI v 0 m.2.2.2.2).map (cE m.2.2.2.2 v) = goes v m.2.2.2.2 := yU v m.2.2.2.2 m.2.2.2.2 [] rfl
 have hq := xi m v hm hv.len (enI v 0 m.2.2.2.2) (fun i hi => Hf hi) hlen (enI v 0 m.2.2.2.2) [] rfl [] au (fun w hw => by cases hw) (Nat.le_refl _) (by show _ < 2 ^ 64; omega)
 rw [hmap, show ((([] : List Int).length : Nat) : Int) = 0 from rfl] at hq
 unfold iA
 rw [NQ hm, ai, hq, List.nil_append, Sy.cb (Sy.bO (by have := hv.short hm.toSafeS; simp; omega) (by have := hv.short hm.toSafeS; simp; omega))]
 unfold bk xy
 by_cases hg : goes v m.2.2.2.2 = []
 ·have h0 : (enI v 0 m.2.2.2.2).length = 0 := by rw [hll]; unfold goes at hg; have := congrArg List.length hg; simpa using this
  rw [if_pos hg, show ((List.length (enI v 0 m.2.2.2.2) : Int) == 0) = true by rw [h0]; rfl, cond_true]
 ·have h0 : (enI v 0 m.2.2.2.2).length ≠ 0 := by
   rw [hll]
   intro e
   apply hg
   unfold goes
   rw [List.eq_nil_of_length_eq_zero e]; rfl
  rw [if_neg hg, show ((List.length (enI v 0 m.2.2.2.2) : Int) == 0) = false by simp; simpa using h0, cond_false]
/-! what is reached, as the document says it -/
end Sp
end Go.Proofs.YtkckoolfgnkpcaaDoor
namespace Go.Proofs.YtkckoolfgnkpcaaDoor
namespace Sp
noncomputable def cC (S : List (Int × Int)) (cmds : List Sy.Cmd) (most : Int) : Nat → List (List Int) → Nat → List (List Int) × Int × List Int
 | 0, l, _ => (l, 0, [])
 | f + 1, l, i =>
  if (l.length : Int) ≤ most then
   match l[i]? with
   | some v => if (bk S cmds v).2 = 0 then cC S cmds most f (bC l (bk S cmds v).1) (i + 1) else ([], (bk S cmds v).2, v)
   | none => (l, 0, [])
  else ([], 7, [])
end Sp
end Go.Proofs.YtkckoolfgnkpcaaDoor
namespace Go.Proofs.YtkckoolfgnkpcaaDoor
namespace Sp
theorem z6 {S : List (Int × Int)} {cmds : List Sy.Cmd} (hS : SafeS S cmds) (i : Int) (again : (List (List Int)) × Int → Option ((List (List Int)) × Int × (List Int))) (q : List (List Int) × Int) (hq : ∀ w ∈ q.1, InS S w) (hql : q.1.length < 1000) :
  ∀ (r pre : List (List Int)), q.1 = pre ++ r → ∀ (l : List (List Int)) (M : Nat), (∀ w ∈ l, InS S w) → l.length ≤ 100000 + pre.length → r.length < M →
   ao (fz i again q) M (l, (pre.length : Int)) = again (bC l r, IntKind.i64.wrap (i + 1))
 | [], pre, h, l, M, hs, hl, hM => by
  obtain ⟨k, rfl⟩ : ∃ k, M = k + 1 := ⟨M - 1, by simp at hM; omega⟩
  rw [an]
  simp only [fz, Sy.fO h, cond_false]
  rfl
 | w :: r, pre, h, l, M, hs, hl, hM => by
  obtain ⟨k, rfl⟩ : ∃ k, M = k + 1 := ⟨M - 1, by omega⟩
  rw [an]
  have hlen : pre.length + r.length + 1 = q.1.length := by rw [h]; simp; omega
  have hw := hq w (by rw [h]; simp)
  have hl2 := j4 l w
  have ih := z6 hS i again q hq hql r (pre ++ [w]) (by rw [h]; simp) (cB l w) k (fun u hu => by
    rcases sL.1 hu with h | h
    ·exact hs u h
    ·rw [h]; exact hw) (by simp; omega) (by simp at hM; omega)
  rw [show ((pre ++ [w]).length : Int) = ((pre.length + 1 : Nat) : Int) by simp] at ih
  simp only [fz, Sy.eK h, cond_true, Sy.mid h, ai, Pa.bu (show pre.length < 4611686018427387904 by omega)]
  rw [wM l _ (by omega) (fun w hw => (hs w hw).short hS), ai]
  simp only [List.foldl_cons, bC] at ih ⊢
  by_cases hp : plc w 0 l < 0
  ·rw [decide_eq_true hp, cond_true, Sy.cb (Sy.bO (by simp; omega) (by simp; omega)), ← uY.1 hp]
   exact ih
  ·rw [decide_eq_false hp, cond_false]
   rw [uY.2 hp] at ih ⊢
   exact ih
theorem vH (m : Sy.Mdl) (hm : ld m.2.1 m.2.2.2.2) (most : Int) (hmost : most ≤ 1000) : ∀ (k : Nat) (i : Nat) (l : List (List Int)) (F M : Nat),
  (∀ w ∈ l, InS m.2.1 w) → most.toNat + 1 - i ≤ k → i ≤ 1001 → l.length < 100000 → (i < l.length ∨ (l.length : Int) ≤ most) → k < F → k < M →
   ao (dM m most) M (l, (i : Int)) = some (cC m.2.1 m.2.2.2.2 most F l i)
 | 0, i, l, F, M, hl, hk, hi, hll, hor, hF, hM => by
  obtain ⟨n, rfl⟩ : ∃ n, M = n + 1 := ⟨M - 1, by omega⟩
  obtain ⟨f, rfl⟩ : ∃ f, F = f + 1 := ⟨F - 1, by omega⟩
  rw [an, cC]
  simp only [dM]
  by_cases hle : (l.length : Int) ≤ most
  ·have hn : ¬ ((i : Int) < (l.length : Int)) := by omega
   rw [if_pos hle, decide_eq_false hn, cond_false]
   rw [List.getElem?_eq_none (by omega)]
  ·rw [if_neg hle, decide_eq_true (show (i : Int) < (l.length : Int) by omega), cond_true, decide_eq_true (by omega), cond_true]
 | k + 1, i, l, F, M, hl, hk, hi, hll, hor, hF, hM => by
  obtain ⟨n, rfl⟩ : ∃ n, M = n + 1 := ⟨M - 1, by omega⟩
  obtain ⟨f, rfl⟩ : ∃ f, F = f + 1 := ⟨F - 1, by omega⟩
  rw [an, cC]
  simp only [dM]
  by_cases hle : (l.length : Int) ≤ most
  ·rw [if_pos hle]
   by_cases hlt : (i : Int) < (l.length : Int)
   ·obtain ⟨v, hv1, hv2⟩ := ov l (i : Int) (by omega) hlt
    rw [show ((i : Int)).toNat = i from rfl] at hv2
    have hin := hl v (List.mem_of_getElem? hv2)
    rw [decide_eq_true hlt, cond_true, decide_eq_false (show ¬ most < (l.length : Int) by omega), cond_false, hv1, ai, I8 hm hin, ai, hv2]
    simp only
    by_cases hz : (bk m.2.1 m.2.2.2.2 v).2 = 0
    ·rw [show ((bk m.2.1 m.2.2.2.2 v).2 != 0) = false by simpa using hz, cond_false, if_pos hz]
     have hfew := tN (S := m.2.1) (cmds := m.2.2.2.2) v
     have hc := hm.cmds
     have h1 := z6 hm.toSafeS (i : Int) (ao (dM m most) n) (bk m.2.1 m.2.2.2.2 v) (pL hin) (by omega) (bk m.2.1 m.2.2.2.2 v).1 [] rfl l au hl (by simp; omega) (by show _ < 2 ^ 64; omega)
     rw [show ((([] : List (List Int)).length : Nat) : Int) = 0 from rfl] at h1
     rw [h1, Pa.bu (show i < 4611686018427387904 by omega)]
     have hdl := nH (bk m.2.1 m.2.2.2.2 v).1 l
     exact vH m hm most hmost k (i + 1) _ f n (fun w hw => by
      rcases eB.1 hw with h | h
      ·exact hl w h
      ·exact pL hin w h) (by omega) (by omega) (by omega) (by omega) (by omega) (by omega)
    ·rw [show ((bk m.2.1 m.2.2.2.2 v).2 != 0) = true by simpa using hz, cond_true, if_neg hz, ai]
   ·rw [decide_eq_false hlt, cond_false]
    rw [List.getElem?_eq_none (by omega)]
  ·rw [if_neg hle, decide_eq_true (show (i : Int) < (l.length : Int) by omega), cond_true, decide_eq_true (by omega), cond_true]
theorem Hz {m : Sy.Mdl} (hm : ld m.2.1 m.2.2.2.2) (hi : InS m.2.1 m.2.2.1) (most : Int) (hmost : most ≤ 1000) : dK m most = some (cC m.2.1 m.2.2.2.2 most 2000 [m.2.2.1] 0) := by
 unfold dK
 have hsh := hi.short hm.toSafeS
 rw [Sy.cb (Sy.bO (by simp; omega) (by simp; omega)), List.nil_append]
 exact vH m hm most hmost 1001 0 [m.2.2.1] 2000 au (fun w hw => by rw [List.mem_singleton.1 hw]; exact hi) (by omega) (by omega) (by simp) (.inl (by simp)) (by omega) (by show _ < 2 ^ 64; omega)
end Sp
end Go.Proofs.YtkckoolfgnkpcaaDoor
namespace Go.Proofs.YtkckoolfgnkpcaaDoor
namespace Sp
/-! what is reached, and how -/
theorem tS (S : List (Int × Int)) (C : List Sy.Cmd) (most : Int) (hmost : most ≤ 1000) : ∀ (k i : Nat) (l : List (List Int)) (f : Nat), l.Nodup → (∀ w ∈ l, InS S w) → most.toNat + 1 - i ≤ k → i ≤ 1001 → k < f →
  ((cC S C most f l i).2.1 = 0 ∧ l <+: (cC S C most f l i).1 ∧ (cC S C most f l i).1.Nodup ∧ (∀ w ∈ (cC S C most f l i).1, InS S w) ∧ ((cC S C most f l i).1.length : Int) ≤ most ∧ (cC S C most f l i).2.2 = [] ∧
   (∀ j v, i ≤ j → (cC S C most f l i).1[j]? = some v → (bk S C v).2 = 0 ∧ ∀ w ∈ (bk S C v).1, w ∈ (cC S C most f l i).1) ∧
   (∀ j w, l.length ≤ j → (cC S C most f l i).1[j]? = some w → ∃ i' v, i' < j ∧ (cC S C most f l i).1[i']? = some v ∧ w ∈ (bk S C v).1)) ∨
  ((cC S C most f l i).2.1 ≠ 0 ∧ (cC S C most f l i).1 = [] ∧ ((cC S C most f l i).2.2 = [] ∨ InS S (cC S C most f l i).2.2))
 | k, i, l, 0, hn, hs, hk, hi, hf => by omega
 | k, i, l, f + 1, hn, hs, hk, hi, hf => by
  rw [cC]
  by_cases hle : (l.length : Int) ≤ most
  ·rw [if_pos hle]
   cases hv : l[i]? with
   | none =>
    have hil : l.length ≤ i := List.getElem?_eq_none_iff.1 hv
    refine .inl ⟨rfl, List.prefix_refl _, hn, hs, hle, rfl, fun j v hj h => ?_, fun j w hj h => ?_⟩
    ·have := (List.getElem?_eq_some_iff.1 h).1
     simp only at this; omega
    ·have := (List.getElem?_eq_some_iff.1 h).1
     simp only at this; omega
   | some v =>
    have hil := (List.getElem?_eq_some_iff.1 hv).1
    have hin := hs v (List.mem_of_getElem? hv)
    simp only
    by_cases hz : (bk S C v).2 = 0
    ·rw [if_pos hz]
     obtain ⟨k, rfl⟩ : ∃ k', k = k' + 1 := ⟨k - 1, by omega⟩
     have hn2 := sU (m := (bk S C v).1) hn
     have hp2 := wB (bk S C v).1 l
     rcases tS S C most hmost k (i + 1) (bC l (bk S C v).1) f hn2 (fun w hw => by
      rcases eB.1 hw with h | h
      ·exact hs w h
      ·exact pL hin w h) (by omega) (by omega) (by omega) with ⟨h1, h2, h3, h4, h5, h6, h7, h8⟩ | h
     ·refine .inl ⟨h1, hp2.trans h2, h3, h4, h5, h6, fun j u hj hu => ?_, fun j w hj hw => ?_⟩
      ·by_cases hij : j = i
       ·subst hij
        have : (cC S C most f (bC l (bk S C v).1) (j + 1)).1[j]? = some v := by
         rw [List.prefix_iff_getElem?.1 (hp2.trans h2) j hil, ← hv, List.getElem?_eq_getElem hil]
        rw [hu] at this
        cases this
        exact ⟨hz, fun w hw => h2.mem (eB.2 (.inr hw))⟩
       ·exact h7 j u (by omega) hu
      ·by_cases hjl : (bC l (bk S C v).1).length ≤ j
       ·exact h8 j w hjl hw
       ·have hjd : j < (bC l (bk S C v).1).length := by omega
        have hwj : (bC l (bk S C v).1)[j]? = some w := by
         rw [← hw, List.prefix_iff_getElem?.1 h2 j hjd, List.getElem?_eq_getElem hjd]
        refine ⟨i, v, by omega, ?_, ?_⟩
        ·rw [List.prefix_iff_getElem?.1 (hp2.trans h2) i hil, ← hv, List.getElem?_eq_getElem hil]
        ·rcases eB.1 (List.mem_of_getElem? hwj) with hwl | h
         ·exfalso
          obtain ⟨j', hj', hj2⟩ := List.getElem_of_mem hwl
          have e1 : (bC l (bk S C v).1)[j']? = some w := by rw [List.prefix_iff_getElem?.1 hp2 j' hj', hj2]
          obtain ⟨_, e2⟩ := List.getElem?_eq_some_iff.1 e1
          obtain ⟨_, e3⟩ := List.getElem?_eq_some_iff.1 hwj
          have := (List.getElem_inj hn2).1 (e2.trans e3.symm)
          omega
         ·exact h
     ·exact .inr h
    ·rw [if_neg hz]
     exact .inr ⟨hz, rfl, .inr hin⟩
  ·rw [if_neg hle]
   exact .inr ⟨by simp, rfl, .inl rfl⟩
end Sp
end Go.Proofs.YtkckoolfgnkpcaaDoor
namespace Go.Proofs.YtkckoolfgnkpcaaDoor
namespace Pd
open Sp
theorem xQ {α : Type} {l m : List α} (hl : l.Nodup) (h : ∀ x ∈ l, x ∈ m) : l.length ≤ m.length := by
 classical
 induction l generalizing m with
 | nil => simp
 | cons x l ih =>
  have hx := h x (by simp)
  have hn := List.nodup_cons.1 hl
  obtain ⟨s, t, rfl⟩ := List.append_of_mem hx
  have := ih (m := s ++ t) hn.2 fun y hy => by
   have := h y (by simp [hy])
   simp only [List.mem_append, List.mem_cons] at this ⊢
   rcases this with h | rfl | h
   ·exact .inl h
   ·exact absurd hy hn.1
   ·exact .inr h
  simp at this ⊢; omega
theorem MU {α : Type} {l m : List α} (hl : l.Nodup) (hm : m.Nodup) (h : ∀ x, x ∈ l ↔ x ∈ m) : l.length = m.length :=
 Nat.le_antisymm (xQ hl fun x hx => (h x).1 hx) (xQ hm fun x hx => (h x).2 hx)
noncomputable def ba (k : Nat) : List Int := (List.range k).map fun (q : Nat) => (q : Int)
theorem FY {k : Nat} : ba (k + 1) = ba k ++ [(k : Int)] := by simp [ba, List.range_succ]
theorem om {k : Nat} : (ba k).length = k := by simp [ba]
theorem ik {k : Nat} {q : Int} : q ∈ ba k ↔ 0 ≤ q ∧ q < k := by
 unfold ba
 rw [List.mem_map]
 constructor
 ·rintro ⟨j, hj, rfl⟩
  have := List.mem_range.1 hj
  omega
 ·intro h
  exact ⟨q.toNat, List.mem_range.2 (by omega), by omega⟩
theorem C6 {k : Nat} : (ba k).Nodup := by
 unfold ba
 exact (List.nodup_range (n := k)).map (fun (a : Nat) => (a : Int)) (fun a b hne h => hne (by omega))
noncomputable def v8 (k : Nat) : Au := (List.replicate k [Ex.mk 14 0 0 []], List.replicate k (ba k), ba k, [ba k])
noncomputable def nd (k : Nat) : Au := (List.replicate k [], List.replicate k [], ba k, [[]])
noncomputable def nA (k : Nat) : Au := (List.replicate k [Ex.mk 13 0 0 []], List.replicate k (ba k), ba k, [ba k])
theorem Em (op n a : Int) : (Ex.mk op n a []).sz < 1000000 := by rw [Ex.FL]; simp [Ex.l, szL]
theorem B0 {k : Nat} (hk : k ≤ 4) {a : Au} {x : List Ex} {y : List Int} (h1 : a.1 = List.replicate k x) (h2 : a.2.1 = List.replicate k y) (h3 : a.2.2.1 = ba k) (hx : x.length ≤ 10 ∧ ∀ e ∈ x, e.sz < 1000000) (hy : y.length ≤ 10 ∧ ∀ q ∈ y, 0 ≤ q ∧ q < k) : OkA a k :=
 ⟨by rw [h1]; simp, by rw [h2]; simp, by omega, fun l hl => by rw [h1] at hl; rw [List.eq_of_mem_replicate hl]; exact hx, by rw [h3, om]; exact ⟨by omega, fun q hq => ik.1 hq⟩, fun l hl => by rw [h2] at hl; rw [List.eq_of_mem_replicate hl]; exact hy⟩
theorem Du {k : Nat} (hk : k ≤ 4) : (ba k).length ≤ 10 ∧ ∀ q ∈ ba k, 0 ≤ q ∧ q < (k : Int) := ⟨by rw [om]; omega, fun q hq => ik.1 hq⟩
theorem Ni {k : Nat} (hk : k ≤ 4) : OkA (v8 k) k := B0 hk rfl rfl rfl ⟨by simp, fun e he => by rw [List.mem_singleton.1 he]; exact Em _ _ _⟩ (Du hk)
theorem Mz {k : Nat} (hk : k ≤ 4) : OkA (nd k) k := B0 hk rfl rfl rfl ⟨by simp, fun e he => by cases he⟩ ⟨by simp, fun q hq => by cases hq⟩
theorem HE {k : Nat} (hk : k ≤ 4) : OkA (nA k) k := B0 hk rfl rfl rfl ⟨by simp, fun e he => by rw [List.mem_singleton.1 he]; exact Em _ _ _⟩ (Du hk)
theorem wO {k : Nat} {x : List Ex} {a : Au} (h : a.1 = List.replicate k x) {q : Int} (hq : 0 ≤ q ∧ q < k) : x5 a q = x := by
 unfold x5
 rw [h, List.getElem?_replicate, if_pos (by omega)]
 rfl
theorem AP {k : Nat} {y : List Int} {a : Au} (h : a.2.1 = List.replicate k y) {q : Int} (hq : 0 ≤ q ∧ q < k) : kW a q = y := by
 unfold kW
 rw [h, List.getElem?_replicate, if_pos (by omega)]
 rfl
theorem Jn (v : List Int) : ev v (Ex.mk 14 0 0 []) = 0 := by rw [yg]; rfl
theorem K3 (v : List Int) : ev v (Ex.mk 13 0 0 []) = 1 := by rw [yg]; rfl
theorem Ko {k : Nat} {q : Int} (hq : 0 ≤ q ∧ q < k) (v : List Int) : fu (v8 k) q v = false := by
 unfold fu
 rw [wO (a := v8 k) rfl hq]
 simp [Jn]
theorem Gr {k : Nat} {q : Int} (hq : 0 ≤ q ∧ q < k) (v : List Int) : fu (nd k) q v = true := by
 unfold fu
 rw [wO (a := nd k) rfl hq]
 rfl
theorem A6 {k : Nat} {q : Int} (hq : 0 ≤ q ∧ q < k) (v : List Int) : fu (nA k) q v = true := by
 unfold fu
 rw [wO (a := nA k) rfl hq]
 simp [K3]
theorem HG {a : Au} {v : List Int} {qs : List Int} (h : ∀ q ∈ qs, fu a q v = false) : dH a v qs = [] := by
 unfold dH
 rw [List.filter_eq_nil_iff.2 (fun q hq => by rw [h q hq]; simp)]
 rfl
theorem wx {a : Au} {v : List Int} {qs : List Int} (h : ∀ q ∈ qs, fu a q v = true) : dH a v qs = qs.map fun q => v ++ [q] := by
 unfold dH
 rw [List.filter_eq_self.2 (fun q hq => h q hq)]
noncomputable def eb (k : Nat) (v : List Int) : List (List Int) := (ba k).map fun q => v ++ [q]
theorem kq {k : Nat} {v x : List Int} : x ∈ eb k v ↔ ∃ q, q ∈ ba k ∧ x = v ++ [q] := by
 unfold eb
 rw [List.mem_map]
 exact ⟨fun ⟨q, h, e⟩ => ⟨q, h, e.symm⟩, fun ⟨q, h, e⟩ => ⟨q, h, e.symm⟩⟩
theorem AL {a b : List Int} {p q : Int} (h : a ++ [p] = b ++ [q]) : a = b ∧ p = q := by
 have := List.append_inj' h rfl
 exact ⟨this.1, by simpa using this.2⟩
theorem gB {k : Nat} {v : List Int} : (eb k v).Nodup :=
 C6.map (fun q => v ++ [q]) (fun _ _ hne h => hne (AL h).2)
theorem n4 {k : Nat} {v : List Int} : (eb k v).length = k := by simp [eb, om]
noncomputable def ix (k : Nat) (r : List (List Int)) : List (List Int) := r.flatMap (eb k)
theorem jg {k : Nat} {r : List (List Int)} {x : List Int} : x ∈ ix k r ↔ ∃ w q, w ∈ r ∧ q ∈ ba k ∧ x = w ++ [q] := by
 unfold ix
 rw [List.mem_flatMap]
 constructor
 ·rintro ⟨w, hw, hx⟩
  obtain ⟨q, hq, e⟩ := kq.1 hx
  exact ⟨w, q, hw, hq, e⟩
 ·rintro ⟨w, q, hw, hq, e⟩
  exact ⟨w, hw, kq.2 ⟨q, hq, e⟩⟩
theorem vT {k : Nat} : ∀ {r : List (List Int)}, r.Nodup → (ix k r).Nodup
 | [], _ => List.nodup_nil
 | w :: r, h => by
  have hn := List.nodup_cons.1 h
  have e : ix k (w :: r) = eb k w ++ ix k r := by simp [ix]
  rw [e, List.nodup_append]
  refine ⟨gB, vT hn.2, fun a ha b hb hab => ?_⟩
  obtain ⟨q, _, e1⟩ := kq.1 ha
  obtain ⟨u, p, hu, _, e2⟩ := jg.1 hb
  rw [e1, e2] at hab
  exact hn.1 (by rw [(AL hab).1]; exact hu)
theorem Ac {k : Nat} : ∀ (r : List (List Int)), (ix k r).length = k * r.length
 | [] => by simp [ix]
 | w :: r => by
  have e : ix k (w :: r) = eb k w ++ ix k r := by simp [ix]
  rw [e, List.length_append, n4, Ac r, List.length_cons, Nat.mul_add, Nat.mul_one, Nat.add_comm]
theorem tH {m : Sy.Mdl} {a : Au} {most : Int} {Z : List (List Int)} (hZ : (Z.length : Int) ≤ most) (hcl : ∀ x ∈ Z, (fw m a x).2 = 0 ∧ ∀ y ∈ (fw m a x).1, y ∈ Z) : ∀ (k i : Nat) (l : List (List Int)) (f : Nat), l.Nodup → (∀ x ∈ l, x ∈ Z) → Z.length + 1 - i ≤ k → k < f →
  (gK m a most f l i).2 = 0 ∧ l <+: (gK m a most f l i).1 ∧ (gK m a most f l i).1.Nodup ∧ (∀ x ∈ (gK m a most f l i).1, x ∈ Z) ∧
   ∀ j x, i ≤ j → (gK m a most f l i).1[j]? = some x → ∀ y ∈ (fw m a x).1, y ∈ (gK m a most f l i).1
 | k, i, l, 0, _, _, _, h => by omega
 | k, i, l, f + 1, hn, hl, hk, hf => by
  have hlen := xQ hn hl
  rw [gK, if_pos (by omega)]
  cases hx : l[i]? with
  | none =>
   have := List.getElem?_eq_none_iff.1 hx
   refine ⟨rfl, List.prefix_refl _, hn, hl, fun j x hj h => ?_⟩
   have := (List.getElem?_eq_some_iff.1 h).1
   simp only at this; omega
  | some x =>
   have hil := (List.getElem?_eq_some_iff.1 hx).1
   have hxz := hcl x (hl x (List.mem_of_getElem? hx))
   simp only
   rw [if_pos hxz.1]
   obtain ⟨k, rfl⟩ : ∃ k', k = k' + 1 := ⟨k - 1, by omega⟩
   have hp2 := wB (fw m a x).1 l
   obtain ⟨h1, h2, h3, h4, h5⟩ := tH hZ hcl k (i + 1) (bC l (fw m a x).1) f (sU hn) (fun y hy => by
    rcases eB.1 hy with h | h
    ·exact hl y h
    ·exact hxz.2 y h) (by omega) (by omega)
   refine ⟨h1, hp2.trans h2, h3, h4, fun j u hj hu => ?_⟩
   by_cases hij : j = i
   ·subst hij
    have : (gK m a most f (bC l (fw m a x).1) (j + 1)).1[j]? = some x := by
     rw [List.prefix_iff_getElem?.1 (hp2.trans h2) j hil, ← hx, List.getElem?_eq_getElem hil]
    rw [hu] at this
    cases this
    exact fun y hy => h2.mem (eB.2 (.inr hy))
   ·exact h5 j u (by omega) hu
section
variable {m : Sy.Mdl} (hm : ld m.2.1 m.2.2.2.2) (hi : InS m.2.1 m.2.2.1) {k : Nat} (hk : k ≤ 4)
include hm hi hk
theorem Gv : cV m (v8 k) 1000 = some ([], 0) := by
 rw [uV hm.toSafeS hi (Ni hk) 1000 (by omega)]
 have e : dH (v8 k) m.2.2.1 (v8 k).2.2.1 = [] := HG (fun q hq => Ko (ik.1 hq) _)
 rw [e]
 rfl
omit hm hi hk in
theorem Gj : dH (nd k) m.2.2.1 (nd k).2.2.1 = eb k m.2.2.1 := wx (fun _ hq => Gr (ik.1 hq) _)
omit hm hi hk in
theorem A7 : dH (nA k) m.2.2.1 (nA k).2.2.1 = eb k m.2.2.1 := wx (fun _ hq => A6 (ik.1 hq) _)
theorem FC (hz : (bk m.2.1 m.2.2.2.2 m.2.2.1).2 = 0) : cV m (nd k) 1000 = some (eb k m.2.2.1, 0) := by
 rw [uV hm.toSafeS hi (Mz hk) 1000 (by omega), Gj, lN (l := eb k m.2.2.1) (acc := []) (by simpa using gB), List.nil_append, lN (l := eb k m.2.2.1) (acc := []) (by simpa using gB), List.nil_append]
 have hn : ∀ x ∈ eb k m.2.2.1, fw m (nd k) x = ([], 0) := fun x hx => by
  obtain ⟨q, hq, rfl⟩ := kq.1 hx
  rw [qc]
  unfold qS
  rw [if_pos hz, AP (a := nd k) rfl (ik.1 hq)]
  have : mD (nd k) [] (bk m.2.1 m.2.2.2.2 m.2.2.1).1 = [] := by
   unfold mD
   rw [List.flatMap_eq_nil_iff]
   exact fun w _ => rfl
  rw [this]
  rfl
 obtain ⟨h1, h2, h3, h4, _⟩ := tH (m := m) (a := nd k) (most := 1000) (Z := eb k m.2.2.1) (by rw [n4]; omega) (fun x hx => by rw [hn x hx]; exact ⟨rfl, fun y hy => by cases hy⟩) 5 0 (eb k m.2.2.1) 2000 gB (fun x h => h) (by rw [n4]; omega) (by omega)
 have h5 := xQ h3 h4
 have h6 := h2.eq_of_length_le h5
 exact congrArg some (Prod.ext h6.symm h1)
theorem G9 {r : List (List Int)} (hr : cC m.2.1 m.2.2.2.2 60 2000 [m.2.2.1] 0 = (r, 0, [])) : ∃ c, cV m (nA k) 1000 = some (c, 0) ∧ c.length = k * r.length ∧ (∀ w ∈ r, ∀ q ∈ ba k, w ++ [q] ∈ c) ∧ (∀ x ∈ c, x ∈ ix k r) := by
 have hreach := tS m.2.1 m.2.2.2.2 60 (by omega) 61 0 [m.2.2.1] 2000 (by simp) (fun w hw => by rw [List.mem_singleton.1 hw]; exact hi) (by omega) (by omega) (by omega)
 rw [hr] at hreach
 obtain ⟨_, r2, r3, r4, r5, _, r7, r8⟩ := hreach.resolve_right (fun h => h.1 rfl)
 simp only at r2 r3 r4 r5 r7 r8
 rw [uV hm.toSafeS hi (HE hk) 1000 (by omega), A7, lN (l := eb k m.2.2.1) (acc := []) (by simpa using gB), List.nil_append, lN (l := eb k m.2.2.1) (acc := []) (by simpa using gB), List.nil_append]
 have hnx : ∀ w ∈ r, ∀ q ∈ ba k, fw m (nA k) (w ++ [q]) = (bC [] (ix k (bk m.2.1 m.2.2.2.2 w).1), 0) := fun w hw q hq => by
  obtain ⟨j, hj⟩ := List.getElem?_of_mem hw
  obtain ⟨h1, h2⟩ := r7 j w (Nat.zero_le _) hj
  rw [qc]
  unfold qS
  rw [if_pos h1, AP (a := nA k) rfl (ik.1 hq)]
  have : mD (nA k) (ba k) (bk m.2.1 m.2.2.2.2 w).1 = ix k (bk m.2.1 m.2.2.2.2 w).1 := by
   unfold mD ix
   congr 1
   funext u
   exact wx (fun q hq => A6 (ik.1 hq) _)
  rw [this]
 have hlen : (ix k r).length = k * r.length := Ac r
 have hle : k * r.length ≤ 4 * 60 := Nat.mul_le_mul hk (by omega)
 have hi0 : m.2.2.1 ∈ r := r2.mem (by simp)
 obtain ⟨h1, h2, h3, h4, h5⟩ := tH (m := m) (a := nA k) (most := 1000) (Z := ix k r) (by omega) (fun x hx => by
  obtain ⟨w, q, hw, hq, rfl⟩ := jg.1 hx
  rw [hnx w hw q hq]
  refine ⟨rfl, fun y hy => ?_⟩
  rcases eB.1 hy with h | h
  ·cases h
  ·obtain ⟨u, p, hu, hp, rfl⟩ := jg.1 h
   obtain ⟨j, hj⟩ := List.getElem?_of_mem hw
   exact jg.2 ⟨u, p, (r7 j w (Nat.zero_le _) hj).2 u hu, hp, rfl⟩) 241 0 (eb k m.2.2.1) 2000 gB (fun x hx => by
  obtain ⟨q, hq, rfl⟩ := kq.1 hx
  exact jg.2 ⟨_, q, hi0, hq, rfl⟩) (by omega) (by omega)
 have hall : ∀ j, ∀ w, r[j]? = some w → ∀ q ∈ ba k, w ++ [q] ∈ (gK m (nA k) 1000 2000 (eb k m.2.2.1) 0).1 := fun j => by
  induction j using Nat.strongRecOn with
  | ind j ih =>
   intro w hw q hq
   cases j with
   | zero =>
    have : w = m.2.2.1 := by
     have := List.prefix_iff_getElem?.1 r2 0 (by simp)
     rw [hw] at this
     simpa using this
    subst this
    exact h2.mem (kq.2 ⟨q, hq, rfl⟩)
   | succ j =>
    obtain ⟨i', v, hi', hv, hwv⟩ := r8 (j + 1) w (by simp) hw
    have hvr := List.mem_of_getElem? hv
    have hx := ih i' (by omega) v hv q hq
    obtain ⟨p, hp⟩ := List.getElem?_of_mem hx
    have := h5 p (v ++ [q]) (Nat.zero_le _) hp (w ++ [q])
    rw [hnx v hvr q hq] at this
    exact this (eB.2 (.inr (jg.2 ⟨w, q, hwv, hq, rfl⟩)))
 refine ⟨_, congrArg some (Prod.ext rfl h1), ?_, fun w hw q hq => ?_, h4⟩
 ·rw [← hlen]
  exact MU h3 (vT r3) fun x => ⟨h4 x, fun hx => by
   obtain ⟨w, q, hw, hq, rfl⟩ := jg.1 hx
   obtain ⟨j, hj⟩ := List.getElem?_of_mem hw
   exact hall j w hj q hq⟩
 ·obtain ⟨j, hj⟩ := List.getElem?_of_mem hw
  exact hall j w hj q hq
end
/-! the law's loops -/
section
variable {n : Int} {k : Nat} (hn : IntKind.i64.wrap (1 + Int.tmod (IntKind.i64.wrap n) 4) = (k : Int)) (hk : k ≤ 4)
include hn hk
theorem EA (q : Sy.Mdl × Bool) (r22 : List (List Int) × Int × List Int) : ∀ (d j : Nat), j + d = k → ∀ M, d < M → ao (dB n true q r22) M (ba j, (j : Int)) = ao (ck n true q r22 (ba k)) au ([], [], [], [], [], [], 0)
 | 0, j, hj, M, hM => by
  obtain ⟨p, rfl⟩ : ∃ p, M = p + 1 := ⟨M - 1, by omega⟩
  rw [an]
  obtain rfl : j = k := by omega
  simp only [dB, hn, Int.lt_irrefl, decide_false, cond_false]
 | d + 1, j, hj, M, hM => by
  obtain ⟨p, rfl⟩ : ∃ p, M = p + 1 := ⟨M - 1, by omega⟩
  rw [an]
  simp only [dB, hn]
  rw [decide_eq_true (by omega), cond_true, Sy.cb (Sy.bO (by simp [om]; omega) (by simp [om]; omega)), Pa.bu (show j < 4611686018427387904 by omega), ← FY]
  exact EA q r22 d (j + 1) (by omega) p (by omega)
theorem Dx {r22 : List (List Int) × Int × List Int} {r144 : List (List Int) × Int} {i : Nat} {w : List Int} (hw : idx r22.1 (i : Int) = some w) (hwl : w.length < 1000000) (hc : r144.1.length < 1000000000) (hs : ∀ v ∈ r144.1, v.length < 1000000000) (hall : ∀ q ∈ ba k, w ++ [q] ∈ r144.1) (again : Int → Option Bool) :
  ∀ (d j : Nat), j + d = k → ∀ M, d < M → ao (dz n r22 r144 (i : Int) again) M (j : Int) = again (IntKind.i64.wrap ((i : Int) + 1))
 | 0, j, hj, M, hM => by
  obtain ⟨p, rfl⟩ : ∃ p, M = p + 1 := ⟨M - 1, by omega⟩
  rw [an]
  obtain rfl : j = k := by omega
  simp only [dz, hn, Int.lt_irrefl, decide_false, cond_false]
 | d + 1, j, hj, M, hM => by
  obtain ⟨p, rfl⟩ : ∃ p, M = p + 1 := ⟨M - 1, by omega⟩
  rw [an]
  have hmem := hall (j : Int) (ik.2 ⟨by omega, by omega⟩)
  simp only [dz, hn]
  rw [decide_eq_true (by omega), cond_true, hw, ai, Sy.cb (Sy.bO (by simp; omega) (by simp; omega)), Sy.cb (Sy.bO (by simp; omega) (by simp; omega)), List.nil_append, wM _ _ hc hs, ai,
   decide_eq_false (fun h => u6.1 h hmem), cond_false, Pa.bu (show j < 4611686018427387904 by omega)]
  exact Dx hw hwl hc hs hall again d (j + 1) (by omega) p (by omega)
theorem D9 {q : Sy.Mdl × Bool} (hm : ld q.1.2.1 q.1.2.2.2.2) (hi : InS q.1.2.1 q.1.2.2.1) {r22 : List (List Int) × Int × List Int} {r144 : List (List Int) × Int} (hr : ∀ w ∈ r22.1, w.length < 1000000) (hrl : r22.1.length ≤ 60) (hc : r144.1.length < 1000000000) (hs : ∀ v ∈ r144.1, v.length < 1000000000) (hall : ∀ w ∈ r22.1, ∀ q ∈ ba k, w ++ [q] ∈ r144.1) :
  ∀ (r pre : List (List Int)), r22.1 = pre ++ r → ∀ M, r.length < M → ao (cj n true q r22 (ba k) (List.replicate k [Ex.mk 13 0 0 []]) (List.replicate k (ba k)) (eb k q.1.2.2.1, 0) r144) M (pre.length : Int) = some true
 | [], pre, h, M, hM => by
  obtain ⟨p, rfl⟩ : ∃ p, M = p + 1 := ⟨M - 1, by simp at hM; omega⟩
  rw [an]
  have hle := hi.len
  have hf := hm.few
  simp only [cj, Sy.fO h, cond_false, fP, bl]
  rw [show (List.replicate k [Ex.mk 13 0 0 []], List.replicate k (ba k), ba k, [ba k]) = nA k from rfl, DF hm.toSafeS hi (HE hk), ai, A7, lN (l := eb k q.1.2.2.1) (acc := []) (by simpa using gB), List.nil_append,
   Mj _ _ (by rw [n4]; omega) (fun v hv => by
    obtain ⟨p, _, rfl⟩ := kq.1 hv
    simp; omega), ai]
  simp
 | w :: r, pre, h, M, hM => by
  obtain ⟨p, rfl⟩ : ∃ p, M = p + 1 := ⟨M - 1, by omega⟩
  rw [an]
  have hlen : pre.length + r.length + 1 = r22.1.length := by rw [h]; simp; omega
  have hw := hr w (by rw [h]; simp)
  simp only [cj, Sy.eK h, cond_true]
  have h4 := Dx hn hk (r22 := r22) (r144 := r144) (i := pre.length) (Sy.mid h) hw hc hs (hall w (by rw [h]; simp)) (ao (cj n true q r22 (ba k) (List.replicate k [Ex.mk 13 0 0 []]) (List.replicate k (ba k)) (eb k q.1.2.2.1, 0) r144) p) k 0 (by omega) au (by show k < 2 ^ 64; omega)
  rw [show ((0 : Nat) : Int) = 0 from rfl] at h4
  rw [h4, Pa.bu (show pre.length < 4611686018427387904 by omega)]
  have ih := D9 hm hi hr hrl hc hs hall r (pre ++ [w]) (by rw [h]; simp) p (by simp at hM; omega)
  rw [show ((pre ++ [w]).length : Int) = ((pre.length + 1 : Nat) : Int) by simp] at ih
  exact ih
theorem DM {q : Sy.Mdl × Bool} (hm : ld q.1.2.1 q.1.2.2.2.2) (hi : InS q.1.2.1 q.1.2.2.1) {r22 : List (List Int) × Int × List Int} (hr : cC q.1.2.1 q.1.2.2.2.2 60 2000 [q.1.2.2.1] 0 = r22) (hz : r22.2.1 = 0) :
  ∀ (d j : Nat), j + d = k → ∀ M, d < M → ao (ck n true q r22 (ba k)) M (List.replicate j [Ex.mk 14 0 0 []], List.replicate j (ba k), List.replicate j [], List.replicate j [], List.replicate j [Ex.mk 13 0 0 []], List.replicate j (ba k), (j : Int)) = some true
 | 0, j, hj, M, hM => by
  obtain ⟨p, rfl⟩ : ∃ p, M = p + 1 := ⟨M - 1, by omega⟩
  rw [an]
  obtain rfl : j = k := by omega
  have hreach := tS q.1.2.1 q.1.2.2.2.2 60 (by omega) 61 0 [q.1.2.2.1] 2000 (by simp) (fun w hw => by rw [List.mem_singleton.1 hw]; exact hi) (by omega) (by omega) (by omega)
  rw [hr] at hreach
  obtain ⟨_, r2, r3, r4, r5, r6, r7, r8⟩ := hreach.resolve_right (fun h => h.1 hz)
  have hr2 : cC q.1.2.1 q.1.2.2.2.2 60 2000 [q.1.2.2.1] 0 = (r22.1, 0, []) := by rw [hr, ← hz, ← r6]
  have hz0 : (bk q.1.2.1 q.1.2.2.2.2 q.1.2.2.1).2 = 0 := by
   have := List.prefix_iff_getElem?.1 r2 0 (by simp)
   exact (r7 0 q.1.2.2.1 (Nat.zero_le _) (by rw [this]; rfl)).1
  obtain ⟨c, c1, c2, c3, c4⟩ := G9 hm hi hk hr2
  have hle := hi.len
  have hf := hm.few
  have hkr : j * r22.1.length ≤ 4 * 60 := Nat.mul_le_mul hk (by omega)
  have hrw : ∀ w ∈ r22.1, w.length < 1000000 := fun w hw => by have := (r4 w hw).len; omega
  simp only [ck, hn, Int.lt_irrefl, decide_false, cond_false, bl]
  rw [show (List.replicate j [Ex.mk 14 0 0 []], List.replicate j (ba j), ba j, [ba j]) = v8 j from rfl, Gv hm hi hk, ai,
   show (List.replicate j ([] : List Ex), List.replicate j ([] : List Int), ba j, ([[]] : List (List Int))) = nd j from rfl, FC hm hi hk hz0, ai,
   show (List.replicate j [Ex.mk 13 0 0 []], List.replicate j (ba j), ba j, [ba j]) = nA j from rfl, c1, ai]
  simp only
  rw [show IntKind.i64.wrap ((j : Int) * (r22.1.length : Int)) = (c.length : Int) by
   rw [c2]
   have : ((j * r22.1.length : Nat) : Int) = (j : Int) * (r22.1.length : Int) := by simp
   rw [← this, w64 (by omega)]]
  rw [show ((List.length (eb j q.1.2.2.1) : Int) != (j : Int)) = false by rw [n4]; simp, show ((List.length c : Int) != (List.length c : Int)) = false by simp]
  simp only [List.length_nil, bne_self_eq_false, Bool.or_self]
  rw [show (((0 : Nat) : Int) != 0) = false from rfl]
  simp only [Bool.false_or, cond_false]
  exact D9 hn hk hm hi (r22 := r22) (r144 := (c, 0)) hrw (by omega) (show c.length < 1000000000 by omega) (fun v hv => by
   obtain ⟨w, p, hw, _, rfl⟩ := jg.1 (c4 v hv)
   have := hrw w hw
   simp; omega) c3 r22.1 [] rfl au (by show _ < 2 ^ 64; omega)
 | d + 1, j, hj, M, hM => by
  obtain ⟨p, rfl⟩ : ∃ p, M = p + 1 := ⟨M - 1, by omega⟩
  rw [an]
  simp only [ck, hn]
  rw [decide_eq_true (by omega), cond_true]
  have room : ∀ {α : Type} (x y : α), aw (List.length (List.replicate j x) + List.length [y]) 24 = true := fun x y => Sy.bO (by simp; omega) (by simp; omega)
  rw [Sy.cb (room _ _), Sy.cb (room _ _), Sy.cb (room _ _), Sy.cb (room _ _), Sy.cb (room _ _), Sy.cb (room _ _), Pa.bu (show j < 4611686018427387904 by omega)]
  rw [← List.replicate_succ', ← List.replicate_succ', ← List.replicate_succ', ← List.replicate_succ', ← List.replicate_succ']
  exact DM hm hi hr hz d (j + 1) (by omega) p (by omega)
end
theorem G3 (text : Str) : ∃ q, fk text = some q ∧ ((q.2 = true ∧ Sy.Wf q.1) ∨ (q.2 = false ∧ q.1 = ([], [], [], [], []))) := by
 unfold fk
 by_cases h : (600 : Int) < (text.length : Int)
 ·rw [decide_eq_true h, cond_true]
  exact ⟨_, rfl, .inr ⟨rfl, rfl⟩⟩
 ·rw [decide_eq_false h, cond_false, Sy.Jl, ai]
  refine ⟨_, rfl, ?_⟩
  cases hs : Sy.w6 text with
  | ok m => exact .inl ⟨rfl, Sy.Gm hs⟩
  | error e =>
   refine .inr ⟨?_, rfl⟩
   have := Sy.Kw hs
   simpa [Sy.wI] using this
theorem BD (text : Str) (n : Int) (h0 : 0 ≤ n) (h1 : n ≤ 255) : ec text n = some true := by
 unfold ec
 obtain ⟨q, hq, hw⟩ := G3 text
 rw [Fu, ai, hq, ai]
 rcases hw with ⟨h2, hwf⟩ | ⟨h2, he⟩
 ·have hm := Le hwf
  have hi := Mr hwf
  rw [Hz hm hi 60 (by omega), ai, h2]
  generalize hr : cC q.1.2.1 q.1.2.2.2.2 60 2000 [q.1.2.2.1] 0 = r22
  simp only [bl, Bool.not_true, Bool.false_or]
  by_cases hz : r22.2.1 = 0
  ·rw [show (r22.2.1 != 0) = false by simpa using hz, cond_false]
   have hn : IntKind.i64.wrap (1 + Int.tmod (IntKind.i64.wrap n) 4) = ((n.toNat % 4 + 1 : Nat) : Int) := by
    obtain ⟨b, rfl⟩ : ∃ b : Nat, n = b := ⟨n.toNat, by omega⟩
    rw [w64 (x := (b : Int)) (by omega), Int.tmod_eq_emod_of_nonneg h0, w64 (by omega), Int.toNat_natCast]
    omega
   have hk : n.toNat % 4 + 1 ≤ 4 := by omega
   have h3 := EA hn hk q r22 (n.toNat % 4 + 1) 0 (by omega) au (by show _ < 2 ^ 64; omega)
   rw [show ba 0 = [] from rfl, show ((0 : Nat) : Int) = 0 from rfl] at h3
   rw [h3]
   exact DM hn hk hm hi hr hz (n.toNat % 4 + 1) 0 (by omega) au (by show _ < 2 ^ 64; omega)
  ·rw [show (r22.2.1 != 0) = true by simpa using hz, cond_true]
 ·rw [he, show dK ([], [], [], [], []) 60 = some ([[]], 0, []) by kernel_rfl, ai, h2]
  rfl
end Pd
end Go.Proofs.YtkckoolfgnkpcaaDoor
namespace Go.Proofs.YtkckoolfgnkpcaaDoor
open Go.Lib Go.ChangeAt Go.ChangeShapes Go.WideShapes Go.RowKit
theorem yD {P : Program} {w : World} : ∀ (l : List (String × DataW Unit)) (ps : List MemPlace), DataW.LaidVars P w l ps → ∀ (i : Nat) (n : String) (d : DataW Unit), l[i]? = some (n, d) →
  ∃ g t cs fuel p, P.globalNamed n = some g ∧ (P.globals[g]?).map (·.type) = some t ∧ w.var? P n = some cs ∧ DataW.trod (fun _ => ()) P w 0 (fun _ => true) false fuel t cs.toList = some (d, p)
 | [], _, _, i, n, d, h => by simp at h
 | (n0, d0) :: l, ps, h, i, n, d, hi => by
  obtain ⟨g, t, cs, fuel, p, q, h1, h2, h3, h4, h5, _⟩ := h
  cases i with
  | zero =>
   simp only [List.getElem?_cons_zero, Option.some.injEq, Prod.mk.injEq] at hi
   obtain ⟨rfl, rfl⟩ := hi
   exact ⟨g, t, cs, fuel, p, h1, h2, h3, h4⟩
  | succ i => exact yD l q h5 i n d (by simpa using hi)
theorem Ai {H : Type} {enc : TypeId × Value → H} {P : Program} {w : World} {base : Nat} {sp : Nat → Bool} {held : Bool} {fuel : Nat} {t e : TypeId} {n : Nat} {cs : List Value} {zs : List Str} {p : List MemPlace}
  (ht : P.underlying t = some (.array n e)) (he : P.underlying e = some .string) (hce : P.cellsOf e = 1) (hct : P.cellsOf t = n)
  (h : DataW.trod enc P w base sp held fuel t cs = some (.agg (zs.map fun z => .lit (.string z)), p)) : cs = zs.map S := by
 cases fuel with
 | zero => simp [DataW.trod] at h
 | succ fuel =>
  simp only [DataW.trod, ht, hce, hct, Nat.mul_one] at h
  split at h
  ·rename_i hl
   obtain ⟨xs, hm, hx⟩ := Option.map_eq_some_iff.1 h
   have hxs : xs.map (·.1) = zs.map fun z => (DataW.lit (.string z) : DataW H) := by
    have := congrArg Prod.fst hx
    simpa using this
   have hxl : xs.length = n := by simpa using mapM_length hm
   have hzl : zs.length = n := by
    have := congrArg List.length hxs
    simp at this
    omega
   apply List.ext_getElem?
   intro i
   by_cases hi : i < n
   ·obtain ⟨b, hb, hf⟩ := mapM_at hm i i (by simp [hi])
    obtain ⟨z, hc, rfl, _⟩ := DataW.trod_string he hf
    have h1 : cs[i]? = some (.string z) := by
     have := congrArg (·[0]?) hc
     simpa [List.getElem?_take, List.getElem?_drop] using this
    have h2 : (xs.map (·.1))[i]? = some (DataW.lit (.string z.data.toList) : DataW H) := by simp [hb]
    rw [hxs] at h2
    simp only [List.getElem?_map, Option.map_eq_some_iff, DataW.lit.injEq, Lit.string.injEq] at h2
    obtain ⟨z', hz', hz2⟩ := h2
    subst hz2
    simp [h1, hz', S]
   ·rw [List.getElem?_eq_none (by omega), List.getElem?_eq_none (by simp; omega)]
  ·cases h
theorem FB {P : Program} {laid : List (String × DataW Unit)} {w : World} (hf : (laid.filter fun x => x.2.handleName?.isSome) = []) (h : laidMetH P laid w) : laidMet P laid w := by
 unfold laidMetH at h
 rw [hf] at h
 exact h
theorem gl_strs {P : Program} {laid : List (String × DataW Unit)} {w : World} {Γ : Ctx} (h : laidMet P laid w) (i : Nat) {n : String} {zs : List Str} {g : Nat} {t e : TypeId} {k : Nat}
  (hi : laid[i]? = some (n, .agg (zs.map fun z => .lit (.string z)))) (hg : P.globalNamed n = some g) (hty : (P.globals[g]?).map (·.type) = some t)
  (ht : P.underlying t = some (.array k e)) (he : P.underlying e = some .string) (hce : P.cellsOf e = 1) (hct : P.cellsOf t = k) (hM : ¬ Γ.M g) : (gl g (zs.map S)).P Γ.M w := by
 obtain ⟨ps, hl, _⟩ := h
 obtain ⟨g', t', cs, fuel, p, hg', ht', hv, hd⟩ := yD _ _ hl i n _ hi
 obtain rfl := Option.some.inj (hg.symm.trans hg')
 obtain rfl := Option.some.inj (hty.symm.trans ht')
 have e1 := Ai ht he hce hct hd
 refine ⟨hM, ?_⟩
 unfold World.var? at hv
 rw [hg] at hv
 simp only [Option.bind_some] at hv
 split at hv
 ·rename_i c ty fr hb
  obtain rfl := Option.some.inj hv
  exact ⟨ty, fr, by rw [hb, ← e1]⟩
 ·cases hv
theorem LN {P : Program} {laid : List (String × DataW Unit)} {w : World} {Γ : Ctx} (h : laidMet P laid w) (i : Nat) {n : String} {kd : IntKind} {zs : List Int} {g : Nat} {t e : TypeId} {k : Nat}
  (hi : laid[i]? = some (n, tabData kd zs)) (hg : P.globalNamed n = some g) (hty : (P.globals[g]?).map (·.type) = some t)
  (ht : P.underlying t = some (.array k e)) (he : P.underlying e = some (.int kd)) (hce : P.cellsOf e = 1) (hct : P.cellsOf t = k) (hM : ¬ Γ.M g) : (gl g (zs.map (Value.int kd))).P Γ.M w := by
 obtain ⟨ps, hl, _⟩ := h
 obtain ⟨g', t', cs, fuel, p, hg', ht', hv, hd⟩ := yD _ _ hl i n _ hi
 obtain rfl := Option.some.inj (hg.symm.trans hg')
 obtain rfl := Option.some.inj (hty.symm.trans ht')
 have e1 := cells_of_tab ht he hce hct hd
 refine ⟨hM, ?_⟩
 unfold World.var? at hv
 rw [hg] at hv
 simp only [Option.bind_some] at hv
 split at hv
 ·rename_i c ty fr hb
  obtain rfl := Option.some.inj hv
  exact ⟨ty, fr, by rw [hb, ← e1]⟩
 ·cases hv
/-! the row at the start: nothing is owned -/
def NoM (Γ : Ctx) : Prop := ∀ b, ¬ Γ.M b
theorem DS : NoM [] := fun b h => by obtain ⟨it, h, _⟩ := h; cases h
theorem CJ {it : Item} {Γ : Ctx} (hp : it.own = []) (h : NoM Γ) : NoM (it :: Γ) := fun b hb => by
 rcases Ctx.qa.1 hb with h1 | h1
 ·rw [hp] at h1; cases h1
 ·exact h b h1
theorem GN (w : World) : Sat [kept w (fun _ => False)] w := Sat.nil.add rfl ⟨dx.refl w, Nat.le_refl _, fun b _ _ => ⟨DS b, rfl⟩⟩
theorem HC (w : World) : NoM [kept w (fun _ => False)] := CJ rfl DS
theorem JL {w : World} {Γ : Ctx} (h : NoM Γ) : Mv (fun _ => False) w Γ.M w := ⟨Nat.le_refl _, fun b _ _ => ⟨h b, rfl⟩⟩
theorem HM {w w' : World} {Γ : Ctx} {i : Nat} (h : Sat Γ w') (hi : Γ[i]? = some (kept w (fun _ => False))) : Below w.heap.size w w' := by
 obtain ⟨h1, h2, h3⟩ := h.kept hi
 exact ⟨h1.os, h1.tape, h1.output, h2, fun k hk => (h3 k hk (fun h => h)).2⟩
end Go.Proofs.YtkckoolfgnkpcaaDoor
namespace Go.Proofs.YtkckoolfgnkpcaaDoor
open Go.Lib Go.ChangeAt Go.ChangeShapes Go.WideShapes Go.RowKit
theorem xh {Y : Type} (R : Nat → Y → Ex → Prop) : ∀ (ys : List Y), (∀ i y, ys[i]? = some y → ∃ e, R i y e) → ∃ l : List Ex, l.length = ys.length ∧ ∀ i y e, ys[i]? = some y → l[i]? = some e → R i y e
 | [], _ => ⟨[], rfl, fun i y e h => by simp at h⟩
 | y :: ys, h => by
  obtain ⟨e, he⟩ := h 0 y rfl
  obtain ⟨l, hl, hr⟩ := xh (fun i => R (i + 1)) ys (fun i y hy => h (i + 1) y (by simpa using hy))
  refine ⟨e :: l, by simp [hl], fun i y' e' hy hx => ?_⟩
  cases i with
  | zero =>
   simp only [List.getElem?_cons_zero, Option.some.injEq] at hy hx
   subst hy; subst hx; exact he
  | succ i => exact hr i y' e' (by simpa using hy) (by simpa using hx)
theorem Hn {H : Type} : ∀ (l : List Ex) (ds : List (DataW H)), l.length = ds.length → (∀ (i : Nat) (e : Ex) (d : DataW H), l[i]? = some e → ds[i]? = some d → e.sz ≤ Rows.uptoBulk d) → szL l ≤ Rows.uptoBulkAll ds
 | [], [], _, _ => Nat.le_refl _
 | e :: l, d :: ds, hl, h => by
  have h1 := h 0 e d rfl rfl
  have h2 := Hn l ds (by simpa using hl) (fun i e d he hd => h (i + 1) e d (by simpa using he) (by simpa using hd))
  simp only [szL, Rows.uptoBulkAll]
  omega
 | [], _ :: _, h, _ => by simp at h
 | _ :: _, [], h, _ => by simp at h
theorem w9 {H : Type} (d : DataW H) : 1 ≤ Rows.uptoBulk d := by
 cases d with
 | lit l => cases l <;> simp [Rows.uptoBulk]
 | nil => simp [Rows.uptoBulk]
 | ptr d => simp [Rows.uptoBulk]
 | slice elems spare => simp [Rows.uptoBulk]
 | agg parts => simp [Rows.uptoBulk]
 | iface t d => simp [Rows.uptoBulk]
 | map entries => simp [Rows.uptoBulk]
 | held h => simp [Rows.uptoBulk]
theorem qL {H : Type} {d : DataW H} : ∀ {l : List (DataW H)}, d ∈ l → Rows.uptoBulk d ≤ Rows.uptoBulkAll l
 | x :: r, h => by
  simp only [Rows.uptoBulkAll]
  rcases List.mem_cons.1 h with rfl | h
  ·omega
  ·have := qL h; omega
structure G4 (P : Program) (t : TypeId) : Prop where
 fields : ∃ (fs : Array Field) (f0 f1 f2 f3 : Field), P.underlying t = some (.struct fs) ∧ fs.size = 4 ∧ fs[0]? = some f0 ∧ fs[1]? = some f1 ∧ fs[2]? = some f2 ∧ fs[3]? = some f3 ∧
  (f0.offset = 0 ∧ P.underlying f0.type = some (.int .i64) ∧ P.cellsOf f0.type = 1) ∧ (f1.offset = 1 ∧ P.underlying f1.type = some (.int .i64) ∧ P.cellsOf f1.type = 1) ∧
  (f2.offset = 2 ∧ P.underlying f2.type = some (.int .i64) ∧ P.cellsOf f2.type = 1) ∧ (f3.offset = 3 ∧ P.underlying f3.type = some (.slice t) ∧ P.cellsOf f3.type = 1)
 cells : P.cellsOf t = 4
theorem MS {P : Program} {w : World} {base : Nat} {t : TypeId} {v : Value} {fs : Array Field} (ht : P.underlying t = some (.struct fs)) (h : Value.okWide P w .any base t v) :
  ∃ cs, v = .agg cs ∧ cs.size = P.cellsOf t ∧ Row.okWide P w .any base t cs := by
 unfold Value.okWide at h
 rw [ht] at h
 exact h
theorem EX {w : World} {a : Addr} {v : Value} (h : w.cell? a = some v) : a.spot = none ∧ ∃ cs e fr, w.heap[a.block]? = some (.cells cs e fr) ∧ cs[a.off]? = some v := by
 unfold World.cell? at h
 split at h
 ·rename_i cs e fr hb
  split at h
  ·cases h
  ·rename_i hs
   exact ⟨by simpa using hs, cs, e, fr, hb, h⟩
 ·cases h
theorem Gd {H : Type} {enc : TypeId × Value → H} {P : Program} {W : World} {t : TypeId} (L : G4 P t) : ∀ (fuel : Nat) (cs : List Value) (x : DataW H × List MemPlace),
  DataW.trod enc P W 0 (fun _ => true) true fuel t cs = some x → ∃ e, mn (fun _ => False) W cs e ∧ e.sz ≤ Rows.uptoBulk x.1 := by
 intro fuel
 induction fuel using Nat.strongRecOn with
 | ind fuel ih =>
 intro cs x h
 obtain ⟨⟨fs, f0, f1, f2, f3, hT, hsz, g0, g1, g2, g3, ⟨o0, u0, c0⟩, ⟨o1, u1, c1⟩, ⟨o2, u2, c2⟩, ⟨o3, u3, c3⟩⟩, hc⟩ := L
 obtain ⟨xs, n, rfl, rfl, hl, hxs, hf⟩ := DataW.trod_struct hT h
 rw [hc] at hl
 rw [hsz] at hxs
 obtain ⟨a0, a1, a2, a3, rfl⟩ : ∃ a0 a1 a2 a3, cs = [a0, a1, a2, a3] := by
  match cs, hl with
  | [a, b, c, d], _ => exact ⟨a, b, c, d, rfl⟩
 obtain ⟨x0, x1, x2, x3, rfl⟩ : ∃ a0 a1 a2 a3, xs = [a0, a1, a2, a3] := by
  match xs, hxs with
  | [a, b, c, d], _ => exact ⟨a, b, c, d, rfl⟩
 have t0 := hf 0 f0 g0
 have t1 := hf 1 f1 g1
 have t2 := hf 2 f2 g2
 have t3 := hf 3 f3 g3
 rw [o0, c0] at t0; rw [o1, c1] at t1; rw [o2, c2] at t2; rw [o3, c3] at t3
 simp only [List.drop_zero, List.take_succ_cons, List.take_zero, List.drop_succ_cons, List.getElem?_cons_zero, List.getElem?_cons_succ] at t0 t1 t2 t3
 obtain ⟨z0, e0, _, _⟩ := DataW.trod_int u0 t0
 obtain ⟨z1, e1, _, _⟩ := DataW.trod_int u1 t1
 obtain ⟨z2, e2, _, _⟩ := DataW.trod_int u2 t2
 obtain rfl : a0 = .int .i64 z0 := by simpa using e0
 obtain rfl : a1 = .int .i64 z1 := by simpa using e1
 obtain rfl : a2 = .int .i64 z2 := by simpa using e2
 have hb : ∀ d, x3.1 = d → Rows.uptoBulk d + 1 ≤ Rows.uptoBulk (DataW.agg ([x0, x1, x2, x3].map (·.1))) := fun d hd => by
  subst hd
  have := qL (d := x3.1) (l := [x0, x1, x2, x3].map (·.1)) (by simp)
  simp only [Rows.uptoBulk]
  omega
 rcases DataW.trod_slice u3 t3 with ⟨h3, hx3⟩ | ⟨a, len, cap, elems, rest, m, rfl, h3, hx3, _, hlc, _, hlen, hel, hsp, _⟩
 ·obtain rfl : a3 = .slice none 0 0 := by simpa using h3
  refine ⟨.mk z0 z1 z2 [], .nil z0 z1 z2 none, ?_⟩
  have := hb _ rfl
  have := w9 x3.1
  simp only [Ex.sz, szL]
  omega
 ·obtain rfl : a3 = .slice (some a) len cap := by simpa using h3
  obtain ⟨hrl, hre⟩ := hsp rfl
  rw [hc] at hel hre
  -- all of it is there
  have cell : ∀ i, i < cap → ∃ us y, W.cells? 0 (a.add (i * 4)) 4 = some us ∧ us.length = 4 ∧ (∀ j, j < 4 → W.cell? ((a.add (i * 4)).add j) = us[j]?) ∧ DataW.trod enc P W 0 (fun _ => true) true m t us = some y ∧ (i < len → elems[i]? = some y) := fun i hi => by
   by_cases hil : i < len
   ·obtain ⟨y, hy⟩ : ∃ y, elems[i]? = some y := ⟨elems[i]'(by omega), List.getElem?_eq_getElem _⟩
    have := hel i hil
    rw [hy, Option.bind_eq_some_iff] at this
    obtain ⟨us, h1, h2⟩ := this
    obtain ⟨_, h3, h4⟩ := World.cells?_some h1
    exact ⟨us, y, h1, h3, h4, h2, fun _ => hy⟩
   ·obtain ⟨y, hy⟩ : ∃ y, rest[i - len]? = some y := ⟨rest[i - len]'(by omega), List.getElem?_eq_getElem _⟩
    have := hre (i - len) (by omega)
    rw [hy, Option.bind_eq_some_iff] at this
    obtain ⟨us, h1, h2⟩ := this
    have e : len + (i - len) = i := by omega
    rw [e] at h1
    obtain ⟨_, h3, h4⟩ := World.cells?_some h1
    exact ⟨us, y, h1, h3, h4, h2, fun h => absurd h hil⟩
  by_cases hcap : cap = 0
  ·subst hcap
   obtain rfl : len = 0 := by omega
   refine ⟨.mk z0 z1 z2 [], .nil z0 z1 z2 (some a), ?_⟩
   have := hb _ rfl
   have := w9 x3.1
   simp only [Ex.sz, szL]
   omega
  ·obtain ⟨us0, _, _, hl0, hc0, _⟩ := cell 0 (by omega)
   have h00 := hc0 0 (by omega)
   rw [List.getElem?_eq_getElem (by omega)] at h00
   obtain ⟨hs, cs', e', fr, hblk, _⟩ := EX h00
   have hs' : a.spot = none := by simpa [Addr.add] using hs
   have hblk' : W.heap[a.block]? = some (.cells cs' e' fr) := by simpa [Addr.add] using hblk
   obtain ⟨b, off, sp⟩ := a
   simp only at hs' hblk'
   subst hs'
   have at_ : ∀ i j, ((⟨b, off, none⟩ : Addr).add (i * 4)).add j = ⟨b, off + i * 4 + j, none⟩ := fun i j => by
    unfold Addr.add
    split <;> split <;> simp_all
   have cellx : ∀ i, i < cap → ∃ us y, us.length = 4 ∧ (∀ j, j < 4 → cs'[off + i * 4 + j]? = us[j]?) ∧ DataW.trod enc P W 0 (fun _ => true) true m t us = some y ∧ (i < len → elems[i]? = some y) := fun i hi => by
    obtain ⟨us, y, _, h3, h4, h5, h6⟩ := cell i hi
    refine ⟨us, y, h3, fun j hj => ?_, h5, h6⟩
    have := h4 j hj
    rw [at_] at this
    simpa [World.cell?, hblk'] using this
   have hsize : off + cap * 4 ≤ cs'.size := by
    obtain ⟨us, _, h3, h4, _⟩ := cellx (cap - 1) (by omega)
    have := h4 3 (by omega)
    rw [List.getElem?_eq_getElem (by omega)] at this
    have := (Array.getElem?_eq_some_iff.1 this).1
    omega
   have hel' : ∀ i y, elems[i]? = some y → ∃ e, (mn (fun _ => False) W (((cs'.toList.drop off).drop (i * 4)).take 4) e ∧ e.sz ≤ Rows.uptoBulk y.1) := fun i y hy => by
    have hi : i < len := by rw [← hlen]; exact (List.getElem?_eq_some_iff.1 hy).1
    obtain ⟨us, y', h3, h4, h5, h6⟩ := cellx i (by omega)
    obtain rfl : y' = y := by have := h6 hi; rw [hy] at this; exact (Option.some.inj this).symm
    have hus : ((cs'.toList.drop off).drop (i * 4)).take 4 = us := by
     apply List.ext_getElem?
     intro j
     by_cases hj : j < 4
     ·rw [List.getElem?_take, if_pos hj, List.getElem?_drop, List.getElem?_drop, ← h4 j hj]
      simp [Nat.add_assoc]
     ·rw [List.getElem?_take, if_neg hj, List.getElem?_eq_none (by omega)]
    rw [hus]
    exact ih m (by omega) us y' h5
   obtain ⟨l, hll, hR⟩ := xh (fun i y e => mn (fun _ => False) W (((cs'.toList.drop off).drop (i * 4)).take 4) e ∧ e.sz ≤ Rows.uptoBulk y.1) elems hel'
   have hll' : l.length = len := by omega
   refine ⟨.mk z0 z1 z2 l, ?_, ?_⟩
   ·rw [← hll']
    refine .some z0 z1 z2 l b off cap cs' e' fr (fun h => h) hblk' (by omega) (by omega) ?_ (fun i hi => ?_)
    ·simp only [List.length_take, List.length_drop, Array.length_toList]
     omega
    ·obtain ⟨y, hy⟩ : ∃ y, elems[i]? = some y := ⟨elems[i]'(by omega), List.getElem?_eq_getElem _⟩
     have := (hR i y l[i] hy (List.getElem?_eq_getElem _)).1
     rw [List.drop_take, List.take_take]
     have e4 : min 4 (l.length * 4 - i * 4) = 4 := by omega
     rw [e4]
     exact this
   ·have h1 := Hn l (elems.map (·.1)) (by simp [hll]) (fun i e d he hd => by
     rw [List.getElem?_map, Option.map_eq_some_iff] at hd
     obtain ⟨y, hy, rfl⟩ := hd
     exact (hR i y e hy he).2)
    have h2 : x3.1 = .slice (elems.map (·.1)) (rest.map (·.1)) := by rw [hx3]
    have h3 := hb _ h2
    simp only [Ex.sz]
    have h4 : Rows.uptoBulk (DataW.slice (elems.map (·.1)) (rest.map (·.1))) = Rows.uptoBulkAll (elems.map (·.1)) + Rows.uptoBulkAll (rest.map (·.1)) + 1 := by simp only [Rows.uptoBulk]
    omega
end Go.Proofs.YtkckoolfgnkpcaaDoor
namespace Go.Proofs.YtkckoolfgnkpcaaDoor
open Go.Lib Go.ChangeAt Go.ChangeShapes Go.WideShapes Go.RowKit
open Go.ChangeMaps (open_string)
def kU : Ty → List (Option TypeId)
 | .p a b => kU a ++ kU b
 | .l _ | .ex => [none]
 | _ => []
def Nt : Ty → Pt
 | .i k => .int k
 | .bo => .bool
 | .s => .str
 | .l t => .sli t
 | t => .dat t (kU t)
def Dom (Q : Nat → Prop) : (t : Ty) → t.T → Prop
 | .i k, x => (Lit.int k x).wf = true
 | .s, x => x.length ≤ 9223372036854775807
 | .p a b, x => Dom Q a x.1 ∧ Dom Q b x.2
 | .l t, x => (List.length (α := t.T) x ≤ 9223372036854775807 ∧ Q (List.length (α := t.T) x)) ∧ ∀ y : t.T, List.Mem y x → Dom Q t y
 | .ex, x => Q x.sz
 | _, _ => True
/-! the program's types and codes -/
def tC (P : Program) (t : TypeId) : Bool := (match P.underlying t with
 | some (.int .i64) => true
 | _ => false) && P.cellsOf t == 1
def exB (P : Program) (t : TypeId) : Bool := (match P.underlying t with
 | some (.struct fs) => (match fs.toList with
  | [f0, f1, f2, f3] => f0.offset == 0 && tC P f0.type && (f1.offset == 1 && tC P f1.type) && (f2.offset == 2 && tC P f2.type) && (f3.offset == 3 && P.cellsOf f3.type == 1 && (match P.underlying f3.type with
   | some (.slice e) => e == t
   | _ => false))
  | _ => false)
 | _ => false) && P.cellsOf t == 4
def vg (P : Program) (fit : TypeId → Ty → Bool) (tot : Nat) : List Field → Nat → Ty → Bool
 | [], _, _ => false
 | [f], off, t => f.offset == off && off + P.cellsOf f.type == tot && P.cellsOf f.type == t.rep.n && fit f.type t
 | f :: g :: fs, off, t => match t with
  | .p a b => f.offset == off && P.cellsOf f.type == a.rep.n && fit f.type a && vg P fit tot (g :: fs) (off + P.cellsOf f.type) b
  | _ => false
def fits (P : Program) : Nat → TypeId → Ty → Bool
 | 0, _, _ => false
 | n + 1, i, t => match P.underlying i with
  | some (.int k) => (match t with
   | .i k' => decide (k = k')
   | _ => false)
  | some .bool => (match t with
   | .bo => true
   | _ => false)
  | some .string => (match t with
   | .s => true
   | _ => false)
  | some (.slice e) => (match t with
   | .l u => P.cellsOf e == u.rep.n && Nat.blt 0 u.rep.n && fits P n e u
   | _ => false)
  | some (.struct fs) => (match t with
   | .ex => exB P i
   | .p a b => vg P (fits P n) (P.cellsOf i) fs.toList 0 (.p a b)
   | _ => false)
  | _ => false
theorem lP {P : Program} {t : TypeId} (h : tC P t = true) : P.underlying t = some (.int .i64) ∧ P.cellsOf t = 1 := by
 unfold tC at h
 simp only [Bool.and_eq_true, beq_iff_eq] at h
 refine ⟨?_, h.2⟩
 revert h
 split
 ·rename_i h; intro _; exact h
 ·intro h; cases h.1
theorem MP {P : Program} {t : TypeId} (h : exB P t = true) : G4 P t := by
 unfold exB at h
 simp only [Bool.and_eq_true, beq_iff_eq] at h
 obtain ⟨h1, h2⟩ := h
 split at h1
 ·rename_i fs hfs
  split at h1
  ·rename_i f0 f1 f2 f3 hl
   simp only [Bool.and_eq_true, beq_iff_eq] at h1
   obtain ⟨⟨⟨⟨a0, b0⟩, a1, b1⟩, a2, b2⟩, ⟨a3, c3⟩, b3⟩ := h1
   have g : ∀ i : Nat, fs[i]? = [f0, f1, f2, f3][i]? := fun i => by rw [← hl, Array.getElem?_toList]
   have u3 : P.underlying f3.type = some (.slice t) := by
    revert b3
    split
    ·rename_i e he
     intro hb
     rw [he, (by simpa using hb : e = t)]
    ·intro hb; cases hb
   refine ⟨⟨fs, f0, f1, f2, f3, hfs, ?_, g 0, g 1, g 2, g 3, ⟨a0, (lP b0).1, (lP b0).2⟩, ⟨a1, (lP b1).1, (lP b1).2⟩, ⟨a2, (lP b2).1, (lP b2).2⟩, ⟨a3, u3, c3⟩⟩, h2⟩
   rw [← Array.length_toList, hl]; rfl
  ·cases h1
 ·cases h1
theorem Kv {w : World} {a : Addr} {v : Value} (h : w.cell? a = some v) : a.spot = none ∧ ∃ cs e fr, w.heap[a.block]? = some (.cells cs e fr) ∧ cs[a.off]? = some v := by
 unfold World.cell? at h
 split at h
 ·rename_i cs e fr hb
  split at h
  ·cases h
  ·rename_i hs
   exact ⟨by simpa using hs, cs, e, fr, hb, h⟩
 ·cases h
theorem vR {Y α : Type} (R : Nat → Y → α → Prop) : ∀ (ys : List Y), (∀ i y, ys[i]? = some y → ∃ e, R i y e) → ∃ l : List α, l.length = ys.length ∧ ∀ i y e, ys[i]? = some y → l[i]? = some e → R i y e
 | [], _ => ⟨[], rfl, fun i y e h => by simp at h⟩
 | y :: ys, h => by
  obtain ⟨e, he⟩ := h 0 y rfl
  obtain ⟨l, hl, hr⟩ := vR (fun i => R (i + 1)) ys (fun i y hy => h (i + 1) y (by simpa using hy))
  refine ⟨e :: l, by simp [hl], fun i y' e' hy hx => ?_⟩
  cases i with
  | zero =>
   simp only [List.getElem?_cons_zero, Option.some.injEq] at hy hx
   subst hy; subst hx; exact he
  | succ i => exact hr i y' e' (by simpa using hy) (by simpa using hx)
theorem vL {H : Type} : ∀ (l : List (DataW H)), l.length ≤ Rows.uptoBulkAll l
 | [] => Nat.zero_le _
 | d :: l => by
  have := vL l
  have := w9 d
  simp only [List.length_cons, Rows.uptoBulkAll]
  omega
theorem Gz {H α : Type} {enc : TypeId × Value → H} {P : Program} {W : World} {t e : TypeId} {A : Rep α} {Q : Nat → Prop} {D : α → Prop} (ht : P.underlying t = some (.slice e)) (hA : P.cellsOf e = A.n) (hn : 0 < A.n)
  (fuel : Nat) (cs : List Value) (x : DataW H × List MemPlace) (hQ : ∀ n, n ≤ Rows.uptoBulk x.1 → Q n)
  (he : ∀ (fuel : Nat) (us : List Value) (y : DataW H × List MemPlace), (∀ n, n ≤ Rows.uptoBulk y.1 → Q n) → DataW.trod enc P W 0 (fun _ => true) true fuel e us = some y → ∃ z, A.rd (fun _ => False) W us z ∧ D z)
  (h : DataW.trod enc P W 0 (fun _ => true) true fuel t cs = some x) :
  ∃ (u : SLV) (zs : List α), cs = [sl u] ∧ SRd A (fun _ => False) W (sl u) zs ∧ (zs.length ≤ 9223372036854775807 ∧ Q zs.length) ∧ ∀ z ∈ zs, D z := by
 rcases DataW.trod_slice ht h with ⟨h3, _⟩ | ⟨a, len, cap, elems, rest, m, rfl, h3, hx, _, hlc, hmx, hlen, hel, hsp, _⟩
 ·exact ⟨(none, 0, 0), [], h3, SRd.nil, ⟨by simp, hQ _ (Nat.zero_le _)⟩, by simp⟩
 ·obtain ⟨hrl, hre⟩ := hsp rfl
  rw [hA] at hel hre
  have hmx : cap ≤ 9223372036854775807 := hmx
  have hb : Rows.uptoBulk x.1 = Rows.uptoBulkAll (elems.map (·.1)) + Rows.uptoBulkAll (rest.map (·.1)) + 1 := by rw [hx]; simp only [Rows.uptoBulk]
  have hlb : len ≤ Rows.uptoBulk x.1 := by
   have := vL (elems.map (·.1))
   simp only [List.length_map] at this
   omega
  have hQe : ∀ y ∈ elems, ∀ n, n ≤ Rows.uptoBulk y.1 → Q n := fun y hy n hn => hQ n (by
   have := qL (d := y.1) (l := elems.map (·.1)) (List.mem_map.2 ⟨y, hy, rfl⟩)
   omega)
  have cell : ∀ i, i < cap → ∃ us y, us.length = A.n ∧ (∀ j, j < A.n → W.cell? ((a.add (i * A.n)).add j) = us[j]?) ∧ DataW.trod enc P W 0 (fun _ => true) true m e us = some y ∧ (i < len → elems[i]? = some y) := fun i hi => by
   by_cases hil : i < len
   ·obtain ⟨y, hy⟩ : ∃ y, elems[i]? = some y := ⟨elems[i]'(by omega), List.getElem?_eq_getElem _⟩
    have := hel i hil
    rw [hy, Option.bind_eq_some_iff] at this
    obtain ⟨us, h1, h2⟩ := this
    obtain ⟨_, h3, h4⟩ := World.cells?_some h1
    exact ⟨us, y, h3, h4, h2, fun _ => hy⟩
   ·obtain ⟨y, hy⟩ : ∃ y, rest[i - len]? = some y := ⟨rest[i - len]'(by omega), List.getElem?_eq_getElem _⟩
    have := hre (i - len) (by omega)
    rw [hy, Option.bind_eq_some_iff, show len + (i - len) = i by omega] at this
    obtain ⟨us, h1, h2⟩ := this
    obtain ⟨_, h3, h4⟩ := World.cells?_some h1
    exact ⟨us, y, h3, h4, h2, fun h => absurd h hil⟩
  by_cases hcap : cap = 0
  ·subst hcap
   obtain rfl : len = 0 := by omega
   exact ⟨(some a, 0, 0), [], h3, SRd.emp, ⟨by simp, hQ _ (Nat.zero_le _)⟩, by simp⟩
  ·obtain ⟨us0, _, hl0, hc0, _⟩ := cell 0 (by omega)
   have h00 := hc0 0 hn
   rw [List.getElem?_eq_getElem (by omega)] at h00
   obtain ⟨hs, cs', e', fr, hblk, _⟩ := Kv h00
   have hs' : a.spot = none := by simpa [Addr.add] using hs
   have hblk' : W.heap[a.block]? = some (.cells cs' e' fr) := by simpa [Addr.add] using hblk
   obtain ⟨b, off, sp⟩ := a
   simp only at hs' hblk'
   subst hs'
   have at_ : ∀ i j, ((⟨b, off, none⟩ : Addr).add (i * A.n)).add j = ⟨b, off + i * A.n + j, none⟩ := fun i j => by
    unfold Addr.add
    split <;> split <;> simp_all
   have cellx : ∀ i, i < cap → ∃ us y, us.length = A.n ∧ (∀ j, j < A.n → cs'[off + i * A.n + j]? = us[j]?) ∧ DataW.trod enc P W 0 (fun _ => true) true m e us = some y ∧ (i < len → elems[i]? = some y) := fun i hi => by
    obtain ⟨us, y, h3, h4, h5, h6⟩ := cell i hi
    refine ⟨us, y, h3, fun j hj => ?_, h5, h6⟩
    have := h4 j hj
    rw [at_] at this
    simpa [World.cell?, hblk'] using this
   have hsize : off + cap * A.n ≤ cs'.size := by
    obtain ⟨us, _, h3, h4, _⟩ := cellx (cap - 1) (by omega)
    have := h4 (A.n - 1) (by omega)
    rw [List.getElem?_eq_getElem (by omega)] at this
    have := (Array.getElem?_eq_some_iff.1 this).1
    have e1 : cap * A.n = (cap - 1) * A.n + A.n := by
     have : cap = (cap - 1) + 1 := by omega
     conv => lhs; rw [this]
     rw [Nat.add_mul, Nat.one_mul]
    omega
   have hel' : ∀ i y, elems[i]? = some y → ∃ z, (A.rd (fun _ => False) W (((cs'.toList.drop off).drop (i * A.n)).take A.n) z ∧ D z) := fun i y hy => by
    have hi : i < len := by rw [← hlen]; exact (List.getElem?_eq_some_iff.1 hy).1
    obtain ⟨us, y', h3, h4, h5, h6⟩ := cellx i (by omega)
    obtain rfl : y' = y := by have := h6 hi; rw [hy] at this; exact (Option.some.inj this).symm
    have hus : ((cs'.toList.drop off).drop (i * A.n)).take A.n = us := by
     apply List.ext_getElem?
     intro j
     by_cases hj : j < A.n
     ·rw [List.getElem?_take, if_pos hj, List.getElem?_drop, List.getElem?_drop, ← h4 j hj]
      simp [Nat.add_assoc]
     ·rw [List.getElem?_take, if_neg hj, List.getElem?_eq_none (by omega)]
    rw [hus]
    exact he m us y' (hQe y' (List.mem_of_getElem? hy)) h5
   obtain ⟨l, hll, hR⟩ := vR (fun i y z => A.rd (fun _ => False) W (((cs'.toList.drop off).drop (i * A.n)).take A.n) z ∧ D z) elems hel'
   have hll' : l.length = len := by omega
   have get : ∀ i (hi : i < l.length), A.rd (fun _ => False) W (((cs'.toList.drop off).drop (i * A.n)).take A.n) l[i] ∧ D l[i] := fun i hi => by
    obtain ⟨y, hy⟩ : ∃ y, elems[i]? = some y := ⟨elems[i]'(by omega), List.getElem?_eq_getElem _⟩
    exact hR i y l[i] hy (List.getElem?_eq_getElem _)
   refine ⟨(some ⟨b, off, none⟩, len, cap), l, h3, .inr ⟨b, off, cap, cs', e', fr, by rw [hll']; rfl, (fun h => h), hblk', by omega, hsize, ?_⟩, ⟨by omega, hQ _ (by omega)⟩, fun z hz => ?_⟩
   ·have hle : l.length * A.n ≤ cap * A.n := Nat.mul_le_mul_right _ (by omega)
    refine ⟨?_, fun i hi => ?_⟩
    ·simp only [List.length_take, List.length_drop, Array.length_toList]
     omega
    ·have h1 : i * A.n + A.n ≤ l.length * A.n := by rw [← Nat.succ_mul]; exact Nat.mul_le_mul_right _ hi
     rw [List.drop_take, List.take_take, Nat.min_eq_left (by omega)]
     exact (get i hi).1
   ·obtain ⟨i, hi, rfl⟩ := List.getElem_of_mem hz
    exact (get i hi).2
theorem C5 {H : Type} {enc : TypeId × Value → H} {P : Program} {W : World} {Q : Nat → Prop} : ∀ (n : Nat) (i : TypeId) (t : Ty), fits P n i t = true → ∀ (fuel : Nat) (cs : List Value) (x : DataW H × List MemPlace),
  (∀ n, n ≤ Rows.uptoBulk x.1 → Q n) → DataW.trod enc P W 0 (fun _ => true) true fuel i cs = some x → ∃ z : t.T, t.rep.rd (fun _ => False) W cs z ∧ Dom Q t z := by
 intro n
 induction n with
 | zero => intro i t h; cases h
 | succ n ih =>
 intro i t hf fuel cs x hQ h
 unfold fits at hf
 split at hf
 ·rename_i k hu
  split at hf
  ·obtain ⟨z, h1, _, h3⟩ := DataW.trod_int hu h
   have e := of_decide_eq_true hf
   subst e
   exact ⟨z, h1, h3⟩
  ·cases hf
 ·rename_i hu
  split at hf
  ·obtain ⟨z, h1, _⟩ := DataW.trod_bool hu h
   exact ⟨z, h1, trivial⟩
  ·cases hf
 ·rename_i hu
  split at hf
  ·obtain ⟨⟨⟨z⟩⟩, h1, _, h3⟩ := DataW.trod_string hu h
   exact ⟨z, h1, h3⟩
  ·cases hf
 ·rename_i e hu
  split at hf
  ·rename_i u
   simp only [Bool.and_eq_true, beq_iff_eq, Nat.blt_eq] at hf
   obtain ⟨⟨h1, h2⟩, h3⟩ := hf
   obtain ⟨p, zs, a1, a2, a3, a4⟩ := Gz (A := u.rep) (Q := Q) (D := Dom Q u) hu h1 h2 fuel cs x hQ (fun fuel us y hy h => ih e u h3 fuel us y hy h) h
   exact ⟨zs, ⟨p, a1, a2⟩, a3, a4⟩
  ·cases hf
 ·rename_i fs hu
  have key : ∀ t : Ty, vg P (fits P n) (P.cellsOf i) fs.toList 0 t = true → ∃ z : t.T, t.rep.rd (fun _ => False) W cs z ∧ Dom Q t z := fun t hf => by
   obtain ⟨xs, m, _, hx, hl, hxs, hfl⟩ := DataW.trod_struct hu h
   have hb : Rows.uptoBulk x.1 = Rows.uptoBulkAll (xs.map (·.1)) + 1 := by rw [hx]; simp only [Rows.uptoBulk]
   have hQe : ∀ y ∈ xs, ∀ n, n ≤ Rows.uptoBulk y.1 → Q n := fun y hy n hn => hQ n (by
    have := qL (d := y.1) (l := xs.map (·.1)) (List.mem_map.2 ⟨y, hy, rfl⟩)
    omega)
   have one : ∀ (j : Nat) (f : Field) (t : Ty), fs.toList[j]? = some f → fits P n f.type t = true → ∃ z : t.T, t.rep.rd (fun _ => False) W ((cs.drop f.offset).take (P.cellsOf f.type)) z ∧ Dom Q t z := fun j f t hj ht => by
    have hj' : fs[j]? = some f := by simpa using hj
    have h1 := hfl j f hj'
    have hjl : j < xs.length := by rw [hxs]; exact (Array.getElem?_eq_some_iff.1 hj').1
    rw [List.getElem?_eq_getElem hjl] at h1
    exact ih f.type t ht m _ _ (hQe _ (List.getElem_mem _)) h1
   have go : ∀ (r : List Field) (j off : Nat) (t : Ty), fs.toList.drop j = r → vg P (fits P n) (P.cellsOf i) r off t = true → ∃ z : t.T, t.rep.rd (fun _ => False) W (cs.drop off) z ∧ Dom Q t z := fun r => by
    induction r with
    | nil => intro j off t _ h; cases h
    | cons f r ihr =>
     intro j off t hr hf
     have hj : fs.toList[j]? = some f := by
      have := congrArg (·[0]?) hr
      simpa [List.getElem?_drop] using this
     have hr' : fs.toList.drop (j + 1) = r := by
      rw [← List.drop_drop, hr]; rfl
     cases r with
     | nil =>
      simp only [vg, Bool.and_eq_true, beq_iff_eq] at hf
      obtain ⟨⟨⟨h1, h2⟩, h3⟩, h4⟩ := hf
      obtain ⟨z, z1, z2⟩ := one j f t hj h4
      rw [h1, List.take_of_length_le (by simp; omega)] at z1
      exact ⟨z, z1, z2⟩
     | cons g r =>
      unfold vg at hf
      split at hf
      ·rename_i a b
       simp only [Bool.and_eq_true, beq_iff_eq] at hf
       obtain ⟨⟨⟨h1, h2⟩, h3⟩, h4⟩ := hf
       obtain ⟨z, z1, z2⟩ := one j f a hj h3
       obtain ⟨y, y1, y2⟩ := ihr (j + 1) _ b hr' h4
       rw [h1] at z1
       refine ⟨(z, y), ⟨_, _, ?_, z1, y1⟩, z2, y2⟩
       rw [← List.drop_drop]; exact (List.take_append_drop ..).symm
      ·cases hf
   obtain ⟨z, z1, z2⟩ := go fs.toList 0 0 t rfl hf
   exact ⟨z, by simpa using z1, z2⟩
  split at hf
  ·obtain ⟨e, h1, h2⟩ := Gd (MP hf) fuel cs x h
   exact ⟨e, h1, hQ _ h2⟩
  ·exact key _ hf
  ·cases hf
 ·cases hf
def gZ (W : World) (I : Its) : Prop := ∀ it ∈ I, it.1 = false ∧ it.2.bW = true ∧ ∀ M, Mv (fun _ => False) W M W → it.2.P M W
theorem gZ.nil {W : World} : gZ W [] := fun it h => by cases h
theorem gZ.app {W : World} {I J : Its} (h : gZ W I) (k : gZ W J) : gZ W (I ++ J) := fun it hit => by
 rcases List.mem_append.1 hit with h1 | h1
 ·exact h it h1
 ·exact k it h1
theorem gZ.one {W : World} {α : Type} {A : Rep α} {p : SLV} {l : List α} (h : SRd A (fun _ => False) W (sl p) l) : gZ W [(false, uU true A p l false)] := fun it hit => by
 rcases List.mem_singleton.1 hit with rfl
 exact ⟨rfl, rfl, fun M hm _ => ⟨h.mv hm, fun h => by cases h⟩⟩
theorem se {W : World} : ∀ (t : Ty) (cs : List Value) (x : t.T), t.rep.rd (fun _ => False) W cs x → ∀ (o : List (Option TypeId)) (N : List Nm), ∃ I N', wo t x cs (kU t ++ o) N I N' o ∧ gZ W I
 | .i k, cs, x, h, o, N => ⟨[], N, ⟨h, rfl, rfl, rfl⟩, .nil⟩
 | .bo, cs, x, h, o, N => ⟨[], N, ⟨h, rfl, rfl, rfl⟩, .nil⟩
 | .s, cs, x, h, o, N => ⟨[], N, ⟨h, rfl, rfl, rfl⟩, .nil⟩
 | .un, cs, x, h, o, N => ⟨[], N, ⟨h, rfl, rfl, rfl⟩, .nil⟩
 | .n, cs, x, h, o, N => absurd h id
 | .mp _ _, cs, x, h, o, N => absurd h id
 | .p a b, cs, x, h, o, N => by
  obtain ⟨c1, c2, h1, h2, h3⟩ := h
  obtain ⟨I1, N1, s1, g1⟩ := se a c1 x.1 h2 (kU b ++ o) N
  obtain ⟨I2, N2, s2, g2⟩ := se b c2 x.2 h3 o N1
  refine ⟨I1 ++ I2, N2, ⟨c1, c2, N1, I1, I2, kU b ++ o, ?_, s2, h1, rfl⟩, g1.app g2⟩
  rw [show kU (.p a b) ++ o = kU a ++ (kU b ++ o) by simp [kU]]
  exact s1
 | .l t, cs, x, h, o, N => by
  obtain ⟨p, h1, h2⟩ := h
  exact ⟨_, _, ⟨⟨0, p, ⟨0, 0, none⟩, none, .bool false, ⟨.un, ()⟩⟩, h1, rfl, .inl ⟨rfl, rfl⟩⟩, .one h2⟩
 | .ex, cs, x, h, o, N => by
  obtain ⟨p, h1, h2⟩ := sy h
  exact ⟨_, _, ⟨⟨0, p, ⟨0, 0, none⟩, none, .bool false, ⟨.un, ()⟩⟩, h1, rfl, .inl ⟨rfl, rfl⟩⟩, .one h2⟩
def Arg (W : World) (t : Ty) (v : Value) (z : t.T) : Prop := ∀ N : List Nm, ∃ I N', Sem (Nt t) v none none N [⟨t, z⟩] I [] N' ∧ gZ W I
theorem vQ {H : Type} {enc : TypeId × Value → H} {P : Program} {W : World} {Q : Nat → Prop} {base : Nat} {n : Nat} {i : TypeId} (t : Ty) (hf : fits P n i t = true) {v : Value} {d : DataW H} {ps : List MemPlace}
  (hw : Value.okWide P W .any base i v) (hQ : ∀ n, n ≤ Rows.uptoBulk d → Q n) (h : DataW.Trod enc P W 0 (fun _ => true) true i v d ps) : ∃ z : t.T, Arg W t v z ∧ Dom Q t z := by
 have hk := h
 obtain ⟨fuel, hx⟩ := h
 obtain ⟨z, h1, h2⟩ := C5 n i t hf fuel _ _ hQ hx
 refine ⟨z, ?_, h2⟩
 cases n with
 | zero => cases hf
 | succ n =>
 unfold fits at hf
 split at hf
 ·rename_i k hu
  split at hf
  ·have e := of_decide_eq_true hf
   subst e
   obtain ⟨y, rfl, _⟩ := open_int hu hw hk
   have : y = z := by
    have h1 : ([.int k y] : List Value) = [.int k z] := h1
    injection h1 with h1 _
    injection h1
   subst this
   exact fun N => ⟨[], N, ⟨y, rfl, rfl, rfl, rfl, rfl⟩, .nil⟩
  ·cases hf
 ·rename_i hu
  split at hf
  ·obtain ⟨y, rfl, _⟩ := open_bool hu hw hk
   have : y = z := by
    have h1 : ([.bool y] : List Value) = [.bool z] := h1
    injection h1 with h1 _
    injection h1
   subst this
   exact fun N => ⟨[], N, ⟨y, rfl, rfl, rfl, rfl, rfl⟩, .nil⟩
  ·cases hf
 ·rename_i hu
  split at hf
  ·obtain ⟨⟨⟨y⟩⟩, rfl, _⟩ := open_string hu hw hk
   have : y = z := by
    have h1 : ([S y] : List Value) = [S z] := h1
    injection h1 with h1 _
    injection h1 with h1
    injection h1 with h1
    injection h1
   subst this
   exact fun N => ⟨[], N, ⟨y, rfl, rfl, rfl, rfl, rfl⟩, .nil⟩
  ·cases hf
 ·rename_i e hu
  split at hf
  ·rename_i u
   obtain ⟨a, len, cap, rfl⟩ := okWide_slice hu hw
   obtain ⟨p, e1, h3⟩ := h1
   have e2 : Value.slice a len cap = sl p := by simpa [Value.cells] using e1
   rw [e2]
   exact fun N => ⟨_, _, ⟨⟨0, p, ⟨0, 0, none⟩, none, .bool false, ⟨.un, ()⟩⟩, z, rfl, rfl, rfl, rfl, rfl⟩, .one h3⟩
  ·cases hf
 ·rename_i fs hu
  obtain ⟨cs, rfl, _, _⟩ := MS hu hw
  split at hf
  ·obtain ⟨p, e1, h3⟩ := sy h1
   exact fun N => ⟨_, _, ⟨cs.toList, z, [], by simp, rfl, ⟨⟨0, p, ⟨0, 0, none⟩, none, .bool false, ⟨.un, ()⟩⟩, e1, rfl, .inl ⟨rfl, rfl⟩⟩, rfl⟩, .one h3⟩
  ·rename_i a b
   exact fun N => by
    obtain ⟨I, N', s, g⟩ := se (.p a b) _ z h1 [] N
    exact ⟨I, N', ⟨cs.toList, z, [], by simp, rfl, by simpa [Value.cells] using s, rfl⟩, g⟩
  ·cases hf
 ·cases hf
def Kq (W : World) (ps : List Pt) (vs : List Value) (D : List Dyn) : Prop := ∀ N : List Nm, ∃ I N', mL ps vs [] N D I [] N' ∧ gZ W I
theorem Ie {W : World} : Kq W [] [] [] := fun N => ⟨[], N, ⟨rfl, rfl, rfl, rfl, rfl⟩, .nil⟩
theorem zM {W : World} {t : Ty} {v : Value} {z : t.T} {ps : List Pt} {vs : List Value} {D : List Dyn} (h : Arg W t v z) (k : Kq W ps vs D) : Kq W (Nt t :: ps) (v :: vs) (⟨t, z⟩ :: D) := fun N => by
 obtain ⟨I1, N1, s1, g1⟩ := h N
 obtain ⟨I2, N2, s2, g2⟩ := k N1
 exact ⟨I1 ++ I2, N2, ⟨v, vs, [⟨t, z⟩], D, I1, I2, [], [], N1, rfl, s1, s2, rfl, rfl, rfl⟩, g1.app g2⟩
theorem Im {W : World} {I : Its} {Γ : Ctx} (g : gZ W I) (hn : NoM Γ) (h : Sat Γ W) : Sat (cm I ++ Γ) W := qb h _ (fun it hit => by
 obtain ⟨x, hx, rfl⟩ := List.mem_map.1 hit
 exact ⟨(g x hx).2.1, (g x hx).2.2 _ (JL hn)⟩)
end Go.Proofs.YtkckoolfgnkpcaaDoor
namespace Go.Proofs.YtkckoolfgnkpcaaDoor
namespace Pd
theorem GD {Q : Nat → Prop} (text : Str) (n : Int) (_ : Dom Q .s text) (h : Dom Q (.i .u8) n) : ec text n = some true := by
 simp only [Dom, Lit.wf, Bool.and_eq_true, decide_eq_true_eq] at h
 exact BD text n h.1 h.2
end Pd
end Go.Proofs.YtkckoolfgnkpcaaDoor
