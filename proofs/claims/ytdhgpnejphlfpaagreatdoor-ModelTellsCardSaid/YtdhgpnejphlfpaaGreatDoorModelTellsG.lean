/-
  Own texts for the statement ModelTells, cut down to what it needs: TrRRead, TrRLine, TrRType, TrRSys, TrRSys2, TrRSys3, TrRSys4, TrToks, MoTellsP, KFr. (cut and joined by a program)
-/
import Derived.Test.YtdhgpnejphlfpaaGreatDoorModelTellsA
import Derived.Test.YtdhgpnejphlfpaaGreatDoorModelTellsB
import Derived.Test.YtdhgpnejphlfpaaGreatDoorModelTellsC
import Derived.Test.YtdhgpnejphlfpaaGreatDoorModelTellsD
import Derived.Test.YtdhgpnejphlfpaaGreatDoorModelTellsE
import Derived.Test.YtdhgpnejphlfpaaGreatDoorModelTellsF
import Derived.Lib.LaidTab
import Derived.Below
import Derived.WalkKit
import Derived.ProofKit
namespace Go.Proofs.YtdhgpnejphlfpaaGreatDoor
namespace Pa
open Job
noncomputable def vC (w : Bool) (x : Str) : Bool := match x with
 | [] => false
 | c :: _ => isLet c == w && gn.contains x == w
theorem EC {t : Tok} (h : eQ t) {x : Str} (hx : vC true x = true) : (sgn t && (x == t.2.1)) = ((t.1 == 1) && (t.2.1 == x)) := by
 obtain ⟨k, y, n, p⟩ := t
 simp only [eQ] at h
 simp only [sgn, key]
 by_cases he : y = x
 ·subst he
  rcases h with ⟨rfl, c, s, hy, hc⟩ | rfl | ⟨rfl, h3⟩ | rfl
  ·subst hy
   simp only [vC, Bool.and_eq_true, beq_iff_eq] at hx
   rw [hx.2]; simp
  ·simp
  ·cases y with
   | nil => cases hx
   | cons c s =>
    simp only [vC, Bool.and_eq_true, beq_iff_eq] at hx
    rw [h3 c s rfl] at hx; cases hx.1
  ·simp
 ·have e1 : (x == y) = false := beq_eq_false_iff_ne.2 (fun e => he e.symm)
  have e2 : (y == x) = false := beq_eq_false_iff_ne.2 he
  rw [e1, e2]; simp
theorem NY {t : Tok} (h : eQ t) {x : Str} (hx : vC false x = true) : (sgn t && (x == t.2.1)) = ((t.1 == 3) && (t.2.1 == x)) := by
 obtain ⟨k, y, n, p⟩ := t
 simp only [eQ] at h
 simp only [sgn, key]
 by_cases he : y = x
 ·subst he
  rcases h with ⟨rfl, c, s, hy, hc⟩ | rfl | ⟨rfl, h3⟩ | rfl
  ·subst hy
   simp only [vC, Bool.and_eq_true, beq_iff_eq] at hx
   rw [hx.1] at hc; cases hc
  ·simp
  ·simp
  ·simp
 ·have e1 : (x == y) = false := beq_eq_false_iff_ne.2 (fun e => he e.symm)
  have e2 : (y == x) = false := beq_eq_false_iff_ne.2 he
  rw [e1, e2]; simp
noncomputable def fQ (t : Tok) : Bool := (t.1 != 2) && (t.1 != 4)
theorem hit {t : Tok} (h : eQ t) {x : Str} {w : Bool} (hx : vC w x = true) : (sgn t && (x == t.2.1)) = (fQ t && (t.2.1 == x)) := by
 by_cases he : t.2.1 = x
 ·rcases h with ⟨h1, c, s, hy, hc⟩ | h2 | ⟨h3, h4⟩ | h4
  ·rw [he] at hy
   have hk : gn.contains x = true := by
    subst hy
    simp only [vC, Bool.and_eq_true, beq_iff_eq] at hx
    rw [hx.2, ← hx.1]; exact hc
   have hm : x ∈ gn := by simpa using hk
   simp [sgn, key, fQ, h1, he, hm]
  ·simp [sgn, fQ, h2]
  ·simp [sgn, fQ, h3, he]
  ·simp [sgn, fQ, h4]
 ·have e1 : (x == t.2.1) = false := beq_eq_false_iff_ne.2 (fun e => he e.symm)
  have e2 : (t.2.1 == x) = false := beq_eq_false_iff_ne.2 he
  rw [e1, e2]; simp
theorem kq (t : Tok) : fnd [] t = none := by unfold fnd; cases sgn t <;> rfl
theorem iD (o : Int) (l : List Int) (t : Tok) : fnd (o :: l) t = bif (sgn t && (aN o == t.2.1)) then some o else fnd l t := by
 unfold fnd
 cases sgn t
 ·rfl
 ·simp only [cond_true, List.find?_cons, Bool.true_and]
  cases aN o == t.2.1 <;> rfl
noncomputable def opt (o : Option Int) : Int := o.getD 0
theorem OX {t : Tok} (h : eQ t) : bO t 1 = some (opt (bA 1 t)) := by
 have e := hit h (x := aN 19) (w := false) rfl
 simp only [bA, ops, iD, kq, e]
 show (bif fQ t then (bif (t.2.1 == aN 19) then some 19 else some 0) else some 0) = _
 cases fQ t <;> cases (t.2.1 == aN 19) <;> rfl
theorem O3 {t : Tok} (h : eQ t) : bO t 2 = some (opt (bA 2 t)) := by
 have e := hit h (x := aN 18) (w := false) rfl
 simp only [bA, ops, iD, kq, e]
 show (bif fQ t then (bif (t.2.1 == aN 18) then some 18 else some 0) else some 0) = _
 cases fQ t <;> cases (t.2.1 == aN 18) <;> rfl
theorem O6 {t : Tok} (h : eQ t) : bO t 3 = some (opt (bA 3 t)) := by
 have e := hit h (x := aN 17) (w := false) rfl
 simp only [bA, ops, iD, kq, e]
 show (bif fQ t then (bif (t.2.1 == aN 17) then some 17 else some 0) else some 0) = _
 cases fQ t <;> cases (t.2.1 == aN 17) <;> rfl
theorem OY {t : Tok} (h : eQ t) : bO t 4 = some (opt (bA 4 t)) := by
 have e := hit h (x := aN 16) (w := false) rfl
 simp only [bA, ops, iD, kq, e]
 show (bif fQ t then (bif (t.2.1 == aN 16) then some 16 else some 0) else some 0) = _
 cases fQ t <;> cases (t.2.1 == aN 16) <;> rfl
theorem OS {t : Tok} (h : eQ t) : bO t 5 = some (opt (bA 5 t)) := by
 have e := hit h (x := aN 23) (w := true) rfl
 have e2 := hit h (x := aN 24) (w := true) rfl
 simp only [bA, ops, iD, kq, e, e2]
 show (bif fQ t then (bif (t.2.1 == aN 23) then some 23 else (bif (t.2.1 == aN 24) then some 24 else some 0)) else some 0) = _
 cases fQ t <;> cases (t.2.1 == aN 23) <;> cases (t.2.1 == aN 24) <;> rfl
theorem O7 {t : Tok} (h : eQ t) : bO t 8 = some (opt (bA 8 t)) := by
 have e := hit h (x := aN 3) (w := false) rfl
 have e2 := hit h (x := aN 4) (w := false) rfl
 simp only [bA, ops, iD, kq, e, e2]
 show (bif fQ t then (bif (t.2.1 == aN 3) then some 3 else (bif (t.2.1 == aN 4) then some 4 else some 0)) else some 0) = _
 cases fQ t <;> cases (t.2.1 == aN 3) <;> cases (t.2.1 == aN 4) <;> rfl
theorem Pb {t : Tok} (h : eQ t) : bO t 9 = some (opt (bA 9 t)) := by
 have e := hit h (x := aN 5) (w := false) rfl
 simp only [bA, ops, iD, kq, e]
 show (bif fQ t then (bif (t.2.1 == aN 5) then some 5 else some 0) else some 0) = _
 cases fQ t <;> cases (t.2.1 == aN 5) <;> rfl
theorem O2 {t : Tok} (h : eQ t) : bO t 7 = some (opt (bA 7 t)) := by
 have e1 := hit h (x := aN 7) (w := false) rfl
 have e2 := hit h (x := aN 8) (w := false) rfl
 have e3 := hit h (x := aN 9) (w := false) rfl
 have e4 := hit h (x := aN 10) (w := false) rfl
 have e5 := hit h (x := aN 11) (w := false) rfl
 have e6 := hit h (x := aN 12) (w := false) rfl
 simp only [bA, ops, iD, kq, e1, e2, e3, e4, e5, e6]
 obtain ⟨m, hm⟩ : ∃ m, al = m + 7 := ⟨18446744073709551609, rfl⟩
 unfold bO
 rw [hm]
 clear hm
 have hq : (ab (t.1 != 2) fun b5 => ab (t.1 != 4) fun b7 => ab (b5 && b7) fun b9 => bif b9 then aj (aG t) (m + 7) 0 else some 0) = (bif fQ t then aj (aG t) (m + 7) 0 else some 0) := rfl
 refine Eq.trans (b := bif fQ t then aj (aG t) (m + 7) 0 else some 0) rfl ?_
 clear hq
 have s0 : aj (aG t) (m + 7) 0 = bif (t.2.1 == aN 7) then some 7 else aj (aG t) (m + 6) 1 := rfl
 have s1 : aj (aG t) (m + 6) 1 = bif (t.2.1 == aN 8) then some 8 else aj (aG t) (m + 5) 2 := rfl
 have s2 : aj (aG t) (m + 5) 2 = bif (t.2.1 == aN 9) then some 9 else aj (aG t) (m + 4) 3 := rfl
 have s3 : aj (aG t) (m + 4) 3 = bif (t.2.1 == aN 10) then some 10 else aj (aG t) (m + 3) 4 := rfl
 have s4 : aj (aG t) (m + 3) 4 = bif (t.2.1 == aN 11) then some 11 else aj (aG t) (m + 2) 5 := rfl
 have s5 : aj (aG t) (m + 2) 5 = bif (t.2.1 == aN 12) then some 12 else aj (aG t) (m + 1) 6 := rfl
 have s6 : aj (aG t) (m + 1) 6 = some 0 := rfl
 rw [s0, s1, s2, s3, s4, s5, s6]
 cases fQ t
 ·rfl
 cases (t.2.1 == aN 7)
 case true => rfl
 cases (t.2.1 == aN 8)
 case true => rfl
 cases (t.2.1 == aN 9)
 case true => rfl
 cases (t.2.1 == aN 10)
 case true => rfl
 cases (t.2.1 == aN 11)
 case true => rfl
 cases (t.2.1 == aN 12) <;> rfl
theorem LC {t : Tok} (h : eQ t) {s : Nat} (h1 : 1 ≤ s) (h9 : s ≤ 9) (h6 : s ≠ 6) : bO t (s : Int) = some (opt (bA s t)) := by
 have : s = 1 ∨ s = 2 ∨ s = 3 ∨ s = 4 ∨ s = 5 ∨ s = 7 ∨ s = 8 ∨ s = 9 := by omega
 rcases this with rfl | rfl | rfl | rfl | rfl | rfl | rfl | rfl
 ·exact OX h
 ·exact O3 h
 ·exact O6 h
 ·exact OY h
 ·exact OS h
 ·exact O2 h
 ·exact O7 h
 ·exact Pb h
theorem zD {s : Nat} {t : Tok} {k : Int} (h : bA s t = some k) : (k == 0) = false := by
 have key : ∀ l : List Int, (l.all fun o => o != 0) = true → fnd l t = some k → (k == 0) = false := fun l hl h => by
  unfold fnd at h
  cases hs : sgn t
  ·rw [hs] at h; cases h
  ·rw [hs] at h
   have := List.mem_of_find?_eq_some h
   have := List.all_eq_true.1 hl k this
   simpa using this
 refine key (ops s) ?_ h
 match s with
 | 0 => rfl
 | 1 => rfl
 | 2 => rfl
 | 3 => rfl
 | 4 => rfl
 | 5 => rfl
 | 6 => rfl
 | 7 => rfl
 | 8 => rfl
 | 9 => rfl
 | 10 => rfl
 | 11 => rfl
 | n + 12 => rfl
/-! what the parser hands back -/
abbrev R4 := Ex × Int × Int × Int
abbrev LF := (Int × Int × List Tok × Int × List Str × Int × Int) → Option R4
noncomputable def RR (l : List Tok) (r : Out) (m : Option R4) : Prop := match r with
 | .ok (x, ts) => ∃ a : Nat, l.drop a = ts ∧ m = some (x, (a : Int), 0, 0)
 | .error (b, p) => ∃ x a, m = some (x, a, b, p)
theorem uF {names : List Str} {j : Job} {d : Int} {ts : List Tok} {b p : Int} (h : P names j d ts (.error (b, p))) : (b != 0) = true := by
 rcases h.err _ rfl with h | h | h <;> (simp only at h; subst h; rfl)
theorem yf {l : List Tok} {a : Nat} {t : Tok} (h : idx l (a : Int) = some t) (b : Int) (names : List Str) (p : Int) : aO b l (a : Int) names 0 p = some (.mk 0 0 0 [], b, t.2.2.2) := by
 unfold aO
 rw [h]; rfl
noncomputable def fV (names : List Str) (v : Str) (i : Nat) : Option Nat := ((names.drop i).findIdx? (fun x => v == x)).map (· + i)
theorem y7 (names : List Str) (v : Str) : fV names v 0 = at_ names v := by
 unfold fV at_
 simp
theorem Jz {l : List Tok} {a : Nat} {t : Tok} {names : List Str} (hn : names.length < 4611686018427387904) (ha : a < 4611686018427387904) (ht : idx l (a : Int) = some t) :
  ∀ (m i M : Nat), names.length - i ≤ m → i ≤ names.length → m < M →
   aj (da l (a : Int) names 0 0 t) M (i : Int) =
    match fV names t.2.1 i with
    | some j => some (.mk 2 (j : Int) t.2.2.2 [], ((a + 1 : Nat) : Int), 0, 0)
    | none => some (.mk 0 0 0 [], (a : Int), 3, t.2.2.2) := by
 intro m
 induction m with
 | zero =>
  intro i M h1 h2 h3
  obtain ⟨M, rfl⟩ : ∃ k, M = k + 1 := ⟨M - 1, by omega⟩
  have hi : i = names.length := by omega
  subst hi
  rw [ar]
  have e : fV names t.2.1 names.length = none := by unfold fV; simp
  rw [e]
  simp only [da, decide_eq_false (show ¬ ((names.length : Int) < (List.length names : Int)) by omega), cond_false, yf ht, ai]
 | succ m ih =>
  intro i M h1 h2 h3
  obtain ⟨M, rfl⟩ : ∃ k, M = k + 1 := ⟨M - 1, by omega⟩
  rw [ar]
  by_cases hi : i < names.length
  ·have hd : names.drop i = names[i] :: names.drop (i + 1) := List.drop_eq_getElem_cons hi
   have hx : idx names (i : Int) = some names[i] := by simp [idx, List.getElem?_eq_getElem hi]
   simp only [da, decide_eq_true (show ((i : Nat) : Int) < (List.length names : Int) by omega), cond_true, hx, ai, cI ha, cI (show i < 4611686018427387904 by omega)]
   have e : fV names t.2.1 i = bif (names[i] == t.2.1) then some i else fV names t.2.1 (i + 1) := by
    unfold fV
    rw [hd, List.findIdx?_cons]
    have : (t.2.1 == names[i]) = (names[i] == t.2.1) := by
     by_cases h : t.2.1 = names[i]
     ·rw [h]
     ·rw [beq_eq_false_iff_ne.2 h, beq_eq_false_iff_ne.2 (fun e => h e.symm)]
    rw [this]
    cases (names[i] == t.2.1)
    ·simp only [cond_false, Bool.false_eq_true, if_false, Option.map_map]
     congr 1
     funext x
     simp only [Function.comp]; omega
    ·simp
   rw [e]
   cases (names[i] == t.2.1)
   ·simp only [cond_false]
    exact ih (i + 1) M (by omega) (by omega) (by omega)
   ·rfl
  ·have hi : i = names.length := by omega
   subst hi
   have e : fV names t.2.1 names.length = none := by unfold fV; simp
   rw [e]
   simp only [da, decide_eq_false (show ¬ ((names.length : Int) < (List.length names : Int)) by omega), cond_false, yf ht, ai]
noncomputable def SR (names : List Str) (l : List Tok) (k : LF) (s : Nat) (d : Int) (a : Nat) : Prop := ∃ r, P names (line s) d (l.drop a) r ∧ RR l r (k ((s : Int), d, l, (a : Int), names, 0, 0))
theorem NC {names : List Str} (hn : names.length < 4611686018427387904) {l : List Tok} (hl : l.length < 4611686018427387904) (htok : ∀ t ∈ l, eQ t) {k : LF} {d : Int} {a : Nat} (he : Ends (l.drop a))
  (hk : Ends (l.drop (a + 1)) → SR names l k 1 d (a + 1)) : ∃ r, P names (line 11) d (l.drop a) r ∧ RR l r (cO k d l (a : Int) names 0 0) := by
 obtain ⟨t, ts, hts⟩ := he.ne
 obtain ⟨hx, hd1, hlt, hmem⟩ := dm hts
 have hok := htok t hmem
 have ha : a < 4611686018427387904 := by omega
 have eT := EC hok (x := aN 13) rfl
 have eF := EC hok (x := aN 14) rfl
 have h11 : bA 11 t = bif ((t.1 == 1) && (t.2.1 == aN 13)) then some 13 else bif ((t.1 == 1) && (t.2.1 == aN 14)) then some 14 else none := by
  simp only [bA, ops, iD, kq, eT, eF]
 rw [hts]
 unfold cO
 simp only [hx, ai, aH, FI, cI ha]
 cases h2 : (t.1 == 2)
 case true =>
  have h1 : (t.1 == 1) = false := by have := beq_iff_eq.1 h2; rw [this]; rfl
  exact ⟨_, .oNum rfl (by rw [h11, h1]; rfl) h2, a + 1, hd1, rfl⟩
 simp only [cond_false]
 cases hT : ((t.1 == 1) && (t.2.1 == aN 13))
 case true =>
  rw [show ((t.1 == 1) && (t.2.1 == [116, 114, 117, 101])) = true from hT]
  exact ⟨_, .oWord rfl (by rw [h11, hT]; rfl), a + 1, hd1, rfl⟩
 rw [show ((t.1 == 1) && (t.2.1 == [116, 114, 117, 101])) = false from hT]
 simp only [cond_false]
 cases hF : ((t.1 == 1) && (t.2.1 == aN 14))
 case true =>
  rw [show ((t.1 == 1) && (t.2.1 == [102, 97, 108, 115, 101])) = true from hF]
  exact ⟨_, .oWord rfl (by rw [h11, hT, hF]; rfl), a + 1, hd1, rfl⟩
 rw [show ((t.1 == 1) && (t.2.1 == [102, 97, 108, 115, 101])) = false from hF]
 simp only [cond_false]
 have hno : bA 11 t = none := by rw [h11, hT, hF]; rfl
 cases hN : ((t.1 == 1) && !(gn.contains t.2.1))
 case true =>
  have hname : iR t = true := hN
  simp only [cond_true]
  have := Jz hn ha hx names.length 0 al (by omega) (by omega) (by show names.length < 2 ^ 64; omega)
  rw [show ((0 : Nat) : Int) = 0 from rfl, y7] at this
  rw [this]
  cases hat : at_ names t.2.1 with
  | some j => exact ⟨_, .oVar rfl hno h2 hname hat, a + 1, hd1, rfl⟩
  | none => exact ⟨_, .oName rfl hno h2 hname hat, _, _, rfl⟩
 have hname : iR t = false := hN
 simp only [cond_false]
 cases hO : (((t.1 != 3) || (t.2.1 != [40])) : Bool)
 case true =>
  have hop : open_ t = false := by
   unfold open_
   simp only [Bool.or_eq_true, bne_iff_ne] at hO
   rcases hO with h | h
   ·rw [beq_eq_false_iff_ne.2 h]; rfl
   ·rw [beq_eq_false_iff_ne.2 h, Bool.and_false]
  simp only [cond_true, yf hx, ai]
  exact ⟨_, .oForm rfl hno h2 hname hop, _, _, rfl⟩
 have h3 : t.1 = 3 ∧ t.2.1 = [40] := by
  simp only [Bool.or_eq_false_iff, bne_eq_false_iff_eq] at hO
  exact hO
 have hop : open_ t = true := by unfold open_; rw [h3.1, h3.2]; rfl
 have he1 : Ends ts := by rw [hts] at he; exact he.tail (by rw [h3.1]; decide)
 obtain ⟨r, hr, hm⟩ := hk (by rw [hd1]; exact he1)
 rw [hd1] at hr
 simp only [cond_false]
 match r, hr, hm with
 | .error (b, p), hr, ⟨x, a', hm⟩ =>
  have hb := uF hr
  rw [show ((1 : Nat) : Int) = 1 from rfl] at hm
  rw [hm, ai]
  simp only [hb, cond_true]
  exact ⟨_, .oErr rfl hno h2 hname hop hr, _, _, rfl⟩
 | .ok (x, ts'), hr, ⟨a', ha', hm⟩ =>
  rw [show ((1 : Nat) : Int) = 1 from rfl] at hm
  obtain ⟨he', hsh⟩ := hr.ends he1 _ rfl
  obtain ⟨c, ts2, hc⟩ := he'.ne
  simp only at hc
  subst hc
  obtain ⟨hxc, hdc, hltc, hmemc⟩ := dm ha'
  rw [hm, ai]
  simp only [bne_self_eq_false, cond_false, hxc, ai, cI (show a' < 4611686018427387904 by omega)]
  by_cases hc3 : c.1 = 3
  ·have e3 : (c.1 != 3) = false := by rw [hc3]; rfl
   simp only [e3, Bool.not_false, bZ, ai, Bool.false_or]
   cases hcl : (c.2.1 != [41])
   ·have : close_ c = true := by
     unfold close_
     rw [hc3, bne_eq_false_iff_eq.1 hcl]; rfl
    exact ⟨_, .oOpen rfl hno h2 hname hop hr this, a' + 1, hdc, rfl⟩
   ·have : close_ c = false := by
     unfold close_
     rw [beq_eq_false_iff_ne.2 (bne_iff_ne.1 hcl), Bool.and_false]
    simp only [cond_true, yf hxc, ai]
    exact ⟨_, .oClose rfl hno h2 hname hop hr this, _, _, rfl⟩
  ·have e3 : (c.1 != 3) = true := bne_iff_ne.2 hc3
   have : close_ c = false := by
    unfold close_
    rw [beq_eq_false_iff_ne.2 hc3]; rfl
   simp only [e3, Bool.not_true, kT, Bool.true_or, cond_true, yf hxc, ai]
   exact ⟨_, .oClose rfl hno h2 hname hop hr this, _, _, rfl⟩
end Pa
end Go.Proofs.YtdhgpnejphlfpaaGreatDoor
namespace Go.Proofs.YtdhgpnejphlfpaaGreatDoor
namespace Pa
open Job
theorem Ar (e : Ex) : Ex.mk e.op e.n e.at_ e.l = e := by cases e; rfl
theorem F8 (m : Option R4) : (m.bind fun r => some (r.1, r.2.1, r.2.2.1, r.2.2.2)) = m := by cases m <;> rfl
theorem RR.one {l : List Tok} {r : Out} {m : Option R4} (h : RR l r m) (ko pl : Int) : RR l (CR ko pl r) (m.bind fun r => some (.mk ko 0 pl [r.1], r.2.1, r.2.2.1, r.2.2.2)) := by
 match r, h with
 | .ok (x, ts), ⟨a, h1, h2⟩ => subst h2; exact ⟨a, h1, rfl⟩
 | .error (b, p), ⟨x, a, h2⟩ => subst h2; exact ⟨_, _, rfl⟩
theorem RR.two {l : List Tok} {r : Out} {m : Option R4} (h : RR l r m) (ko pl : Int) (y : Ex) : RR l (D4 ko pl y r) (m.bind fun r => some (.mk ko 0 pl [y, r.1], r.2.1, r.2.2.1, r.2.2.2)) := by
 match r, h with
 | .ok (x, ts), ⟨a, h1, h2⟩ => subst h2; exact ⟨a, h1, rfl⟩
 | .error (b, p), ⟨x, a, h2⟩ => subst h2; exact ⟨_, _, rfl⟩
theorem HS {s : Nat} (h1 : 1 ≤ s) (h : s ≤ 10) : ij (s : Int) = some (lf s) := by
 have : s = 1 ∨ s = 2 ∨ s = 3 ∨ s = 4 ∨ s = 5 ∨ s = 6 ∨ s = 7 ∨ s = 8 ∨ s = 9 ∨ s = 10 := by omega
 rcases this with rfl | rfl | rfl | rfl | rfl | rfl | rfl | rfl | rfl | rfl <;> rfl
theorem OL {k : LF} {s : Nat} (h1 : 1 ≤ s) (h : s ≤ 10) {d : Int} (h0 : 0 ≤ d) (h3 : d ≤ 320) (l : List Tok) (a : Int) (names : List Str) :
  cz k (s : Int) d l a names 0 0 = fM k (s : Int) l a names 0 0 (lf s) (dn s d) := by
 unfold cz
 simp only [bne_self_eq_false, cond_false, HS h1 h, ai]
 have hw : IntKind.i64.wrap (d + 1) = d + 1 := w64 (by omega)
 unfold dn
 rw [hw]
 cases lf s <;> rfl
theorem Mn (s : Nat) (d : Int) : (lf s && decide (320 < dn s d)) = iA s d := by
 unfold iA dn
 cases lf s
 ·rfl
 ·simp only [cond_true, Bool.true_and]
  by_cases h : 320 ≤ d
  ·rw [decide_eq_true h, decide_eq_true (by omega)]
  ·rw [decide_eq_false h, decide_eq_false (by omega)]
theorem Ox {s : Nat} {d : Int} (h0 : 0 ≤ d) (h3 : d ≤ 320) (hd : iA s d = false) : 0 ≤ dn s d ∧ dn s d ≤ 320 := by
 unfold iA at hd
 unfold dn
 cases hc : lf s
 ·simpa using ⟨h0, h3⟩
 ·rw [hc] at hd
  simp only [Bool.true_and, decide_eq_false_iff_not] at hd
  simp only [cond_true]; omega
section
variable {names : List Str} {l : List Tok} {k : LF} {N : Nat}
variable (hn : names.length < 4611686018427387904) (hl : l.length < 4611686018427387904) (htok : ∀ t ∈ l, eQ t)
variable (hk : ∀ (s : Nat) (d : Int) (a : Nat), 1 ≤ s → s ≤ 10 → 0 ≤ d → d ≤ 320 → Ends (l.drop a) → 12 * (l.drop a).length + (11 - s) < N → SR names l k s d a)
include hn hl htok hk
theorem pre6 {d : Int} {a : Nat} {t : Tok} {ts : List Tok} (hts : l.drop a = t :: ts) (he : Ends (t :: ts)) (h0 : 0 ≤ dn 6 d) (h3 : dn 6 d ≤ 320) (hd : iA 6 d = false) (hN : 12 * (l.drop a).length + 5 < N + 1) :
  ∃ r, P names (line 6) d (t :: ts) r ∧ RR l r (ck k l (a : Int) names 0 0 (dn 6 d) t (bif ((t.1 == 3) && (t.2.1 == [33])) then 15 else 0)) := by
 have _ := hn
 obtain ⟨hx, hd1, hlt, hmem⟩ := dm hts
 have hok := htok t hmem
 have e15 := NY hok (x := aN 15) rfl
 have e20 := EC hok (x := aN 20) rfl
 have e21 := EC hok (x := aN 21) rfl
 have e22 := EC hok (x := aN 22) rfl
 have hop : bA 6 t = bif ((t.1 == 3) && (t.2.1 == aN 15)) then some 15 else bif ((t.1 == 1) && (t.2.1 == aN 20)) then some 20 else bif ((t.1 == 1) && (t.2.1 == aN 21)) then some 21 else bif ((t.1 == 1) && (t.2.1 == aN 22)) then some 22 else none := by
  simp only [bA, ops, iD, kq, e15, e20, e21, e22]
 have hK : ck k l (a : Int) names 0 0 (dn 6 d) t (bif ((t.1 == 3) && (t.2.1 == [33])) then 15 else 0) = fN k l (a : Int) names 0 0 (dn 6 d) t (opt (bA 6 t)) := by
  rw [hop]
  unfold ck jP jQ
  simp only [aH]
  rw [show aN 15 = [33] from rfl, show aN 20 = [88] from rfl, show aN 21 = [70] from rfl, show aN 22 = [71] from rfl]
  by_cases q1 : t.1 = 1
  ·rw [q1]
   by_cases q : t.2.1 = [88]
   ·rw [q]; rfl
   ·by_cases q2 : t.2.1 = [70]
    ·rw [q2]; rfl
    ·by_cases q3 : t.2.1 = [71]
     ·rw [q3]; rfl
     ·rw [beq_eq_false_iff_ne.2 q, beq_eq_false_iff_ne.2 q2, beq_eq_false_iff_ne.2 q3]; rfl
  ·rw [beq_eq_false_iff_ne.2 q1]
   cases ((t.1 == 3) && (t.2.1 == [33])) <;> rfl
 rw [hK]
 unfold fN
 have hlen : (l.drop a).length = ts.length + 1 := by rw [hts]; rfl
 cases ho : bA 6 t with
 | none =>
  obtain ⟨r, hr, hm⟩ := hk 7 (dn 6 d) a (by omega) (by omega) h0 h3 (by rw [hts]; exact he) (by omega)
  rw [hts] at hr
  refine ⟨r, .other rfl hd ho hr, ?_⟩
  show RR l r ((k (7, dn 6 d, l, (a : Int), names, 0, 0)).bind fun r45 => some (r45.1, r45.2.1, r45.2.2.1, r45.2.2.2))
  rw [F8]
  exact hm
 | some ko =>
  have hke := zD ho
  have he1 : Ends ts := he.tail (na ho)
  obtain ⟨r, hr, hm⟩ := hk 6 (dn 6 d) (a + 1) (by omega) (by omega) h0 h3 (by rw [hd1]; exact he1) (by rw [hd1]; omega)
  rw [hd1] at hr
  refine ⟨_, .pre rfl hd ho hr, ?_⟩
  simp only [opt, Option.getD_some, hke, cond_false, cI (show a < 4611686018427387904 by omega)]
  exact hm.one ko t.2.2.2
theorem Ou {d : Int} {a : Nat} {t : Tok} {ts : List Tok} (hts : l.drop a = t :: ts) (he : Ends (t :: ts)) (h0 : 0 ≤ dn 10 d) (h3 : dn 10 d ≤ 320) (hd : iA 10 d = false) (hN : 12 * (l.drop a).length + 1 < N + 1) :
  ∃ r, P names (line 10) d (t :: ts) r ∧ RR l r (bif ((t.1 != 3) || (t.2.1 != [45])) then ((cO k (dn 10 d) l (a : Int) names 0 0).bind fun r99 => some (r99.1, r99.2.1, r99.2.2.1, r99.2.2.2))
   else ((k (10, dn 10 d, l, (IntKind.i64.wrap ((a : Int) + 1)), names, 0, 0)).bind fun r106 => some ((Ex.mk 6 0 t.2.2.2 ([r106.1] : List Ex)), r106.2.1, r106.2.2.1, r106.2.2.2))) := by
 obtain ⟨hx, hd1, hlt, hmem⟩ := dm hts
 have hok := htok t hmem
 have e6 := NY hok (x := aN 6) rfl
 have hop : bA 10 t = bif ((t.1 == 3) && (t.2.1 == aN 6)) then some 6 else none := by
  simp only [bA, ops, iD, kq, e6]
 have hlen : (l.drop a).length = ts.length + 1 := by rw [hts]; rfl
 have hb : ((t.1 != 3) || (t.2.1 != [45])) = !((t.1 == 3) && (t.2.1 == aN 6)) := by
  show ((!(t.1 == 3)) || (!(t.2.1 == [45]))) = _
  rw [show aN 6 = [45] from rfl, Bool.not_and]
 rw [hb]
 cases ho : ((t.1 == 3) && (t.2.1 == aN 6))
 ·rw [ho] at hop
  simp only [Bool.not_false, cond_true, F8]
  obtain ⟨r, hr, hm⟩ := NC hn hl htok (k := k) (d := dn 10 d) (a := a) (by rw [hts]; exact he) (fun he1 => hk 1 (dn 10 d) (a + 1) (by omega) (by omega) h0 h3 he1 (by rw [hd1]; omega))
  rw [hts] at hr
  exact ⟨r, .other rfl hd hop hr, hm⟩
 ·rw [ho] at hop
  have hop : bA 10 t = some 6 := hop
  have he1 : Ends ts := he.tail (na hop)
  simp only [Bool.not_true, cond_false, cI (show a < 4611686018427387904 by omega)]
  obtain ⟨r, hr, hm⟩ := hk 10 (dn 10 d) (a + 1) (by omega) (by omega) h0 h3 (by rw [hd1]; exact he1) (by rw [hd1]; omega)
  rw [hd1] at hr
  exact ⟨_, .pre rfl hd hop hr, hm.one 6 t.2.2.2⟩
theorem HQ {s : Nat} (h1 : 1 ≤ s) (h9 : s ≤ 9) (h6 : s ≠ 6) (_hkd : kd s = 2) {D : Int} (h0 : 0 ≤ D) (h3 : D ≤ 320) (hq : ((((s : Int) == 1) || ((s : Int) == 2)) || ((s : Int) == 5)) = false) (hq7 : ((s : Int) == 7) = false) :
  ∀ (n a M : Nat) (x : Ex), (l.drop a).length ≤ n → n < M → Ends (l.drop a) → 12 * (l.drop a).length ≤ N →
   ∃ r, P names (loop s x) D (l.drop a) r ∧ RR l r (aj (cn k (s : Int) l names D) M ((a : Int), 0, 0, x.op, x.n, x.at_, x.l)) := by
 have _ := hn
 intro n
 induction n with
 | zero =>
  intro a M x h1 h2 he _
  obtain ⟨t, ts, hts⟩ := he.ne
  rw [hts] at h1; simp at h1
 | succ n ih =>
  intro a M x hln hM he hN
  obtain ⟨M, rfl⟩ : ∃ m, M = m + 1 := ⟨M - 1, by omega⟩
  obtain ⟨t, ts, hts⟩ := he.ne
  obtain ⟨hx, hd1, hlt, hmem⟩ := dm hts
  have hok := htok t hmem
  have hlen : (l.drop a).length = ts.length + 1 := by rw [hts]; rfl
  rw [ar]
  simp only [cn, beq_self_eq_true, cond_true, hx, ai, LC hok h1 h9 h6, aH, hq, cond_false, hq7]
  cases ho : bA s t with
  | none =>
   refine ⟨.ok (x, l.drop a), by rw [hts]; exact .lpEnd ho, a, rfl, ?_⟩
   simp only [opt, Option.getD_none, beq_self_eq_true, cond_true, Ar]
  | some ko =>
   have hke := zD ho
   have he1 : Ends ts := by rw [hts] at he; exact he.tail (na ho)
   have hs1 : IntKind.i64.wrap ((s : Int) + 1) = ((s + 1 : Nat) : Int) := by rw [w64 (by omega)]; omega
   simp only [opt, Option.getD_some, hke, cond_false, cI (show a < 4611686018427387904 by omega), hs1]
   obtain ⟨r, hr, hm⟩ := hk (s + 1) D (a + 1) (by omega) (by omega) h0 h3 (by rw [hd1]; exact he1) (by rw [hd1]; omega)
   rw [hd1] at hr
   match r, hr, hm with
   | .error (b, p), hr, ⟨y, a', hm⟩ =>
    have hb := uF hr
    have hb0 : (b == 0) = false := by simpa using hb
    rw [hm, ai]
    have hpos : 0 < M := by
     have := hN
     have : 1 ≤ (l.drop a).length := by omega
     omega
    obtain ⟨M, rfl⟩ : ∃ m, M = m + 1 := ⟨M - 1, by omega⟩
    rw [ar]
    simp only [cn, hb0, cond_false]
    rw [hts]
    exact ⟨_, .lpErr ho hr, _, _, rfl⟩
   | .ok (y, ts'), hr, ⟨a', ha', hm⟩ =>
    obtain ⟨he', hsh⟩ := hr.ends he1 _ rfl
    simp only [shorter] at hsh he'
    rw [hm, ai]
    obtain ⟨r2, hr2, hm2⟩ := ih a' M (.mk ko 0 t.2.2.2 [x, y]) (by rw [ha']; omega) (by omega) (by rw [ha']; exact he') (by rw [ha']; omega)
    rw [ha'] at hr2
    refine ⟨r2, by rw [hts]; exact .lpGo ho hr hr2, ?_⟩
    simp only [Ar]
    exact hm2
theorem Iw {s : Nat} (h1 : 1 ≤ s) (h10 : s ≤ 10) {d : Int} (h0 : 0 ≤ d) (h3 : d ≤ 320) {a : Nat} (he : Ends (l.drop a)) (hN : 12 * (l.drop a).length + (11 - s) < N + 1) :
  ∃ r, P names (line s) d (l.drop a) r ∧ RR l r (cz k (s : Int) d l (a : Int) names 0 0) := by
 obtain ⟨t, ts, hts⟩ := he.ne
 obtain ⟨hx, hd1, hlt, hmem⟩ := dm hts
 rw [OL h1 h10 h0 h3]
 unfold fM
 simp only [aH, Mn]
 cases hd : iA s d
 case true =>
  rw [hts]
  simp only [cond_true, yf hx, ai]
  exact ⟨_, .big hd, _, _, rfl⟩
 obtain ⟨hD0, hD3⟩ := Ox h0 h3 hd
 simp only [cond_false, hx, ai]
 rw [hts] at he
 by_cases h6 : s = 6
 ·subst h6
  have := pre6 hn hl htok hk hts he hD0 hD3 hd (by omega)
  rw [hts]
  obtain ⟨r, hr, hm⟩ := this
  refine ⟨r, hr, ?_⟩
  show RR l r (bif ((t.1 == 3) && (t.2.1 == [33])) then ck k l (a : Int) names 0 0 (dn 6 d) t 15 else ck k l (a : Int) names 0 0 (dn 6 d) t 0)
  cases hb : ((t.1 == 3) && (t.2.1 == [33])) <;> rw [hb] at hm <;> exact hm
 by_cases hs10 : s = 10
 ·subst hs10
  obtain ⟨r, hr, hm⟩ := Ou hn hl htok hk hts he hD0 hD3 hd (by omega)
  rw [hts]
  exact ⟨r, hr, hm⟩
 have b6 : ((s : Int) == 6) = false := beq_eq_false_iff_ne.2 (by omega)
 have b10 : ((s : Int) == 10) = false := beq_eq_false_iff_ne.2 (by omega)
 have hs1 : IntKind.i64.wrap ((s : Int) + 1) = ((s + 1 : Nat) : Int) := by rw [w64 (by omega)]; omega
 simp only [b6, b10, cond_false, hs1]
 obtain ⟨r, hr, hm⟩ := hk (s + 1) (dn s d) a (by omega) (by omega) hD0 hD3 (by rw [hts]; exact he) (by omega)
 have hlen : (l.drop a).length = ts.length + 1 := by rw [hts]; rfl
 have hkd : kd s = 1 ∨ kd s = 2 := by
  have : s = 1 ∨ s = 2 ∨ s = 3 ∨ s = 4 ∨ s = 5 ∨ s = 7 ∨ s = 8 ∨ s = 9 := by omega
  rcases this with rfl | rfl | rfl | rfl | rfl | rfl | rfl | rfl <;> simp [kd]
 match r, hr, hm with
 | .error (b, p), hr, ⟨y, a', hm⟩ =>
  have hb := uF hr
  have hb0 : (b == 0) = false := by simpa using hb
  rw [hm, ai]
  obtain ⟨m, hF⟩ : ∃ m, al = m + 1 := ⟨18446744073709551615, rfl⟩
  rw [hF, ar]
  simp only [cn, hb0, cond_false]
  rcases hkd with h | h
  ·exact ⟨_, .rErr h hd hr, _, _, rfl⟩
  ·refine ⟨.error (b, p), .lErr h (d := d) ?_, _, _, rfl⟩
   have : dn s d = d := by
    have : s = 3 ∨ s = 4 ∨ s = 8 ∨ s = 9 := by
     have : s = 1 ∨ s = 2 ∨ s = 3 ∨ s = 4 ∨ s = 5 ∨ s = 7 ∨ s = 8 ∨ s = 9 := by omega
     rcases this with rfl | rfl | rfl | rfl | rfl | rfl | rfl | rfl <;> simp [kd] at h <;> simp
    rcases this with rfl | rfl | rfl | rfl <;> rfl
   rw [this] at hr; exact hr
 | .ok (x, ts'), hr, ⟨a', ha', hm⟩ =>
  rw [hts] at hr
  obtain ⟨he', hsh⟩ := hr.ends he _ rfl
  simp only [shorter, List.length_cons] at hsh he'
  rw [hm, ai]
  rcases hkd with h | h
  ·-- once
   obtain ⟨t2, ts2, ht2⟩ := he'.ne
   subst ht2
   obtain ⟨hx2, hd2, hlt2, hmem2⟩ := dm ha'
   have hok2 := htok t2 hmem2
   obtain ⟨m, hF⟩ : ∃ m, al = m + 1 := ⟨18446744073709551615, rfl⟩
   rw [hF, ar, hts]
   simp only [cn, beq_self_eq_true, cond_true, hx2, ai, LC hok2 h1 (by omega) h6, aH]
   cases ho : bA s t2 with
   | none =>
    refine ⟨_, .rOne h hd hr ho, a', ha', ?_⟩
    simp only [opt, Option.getD_none, beq_self_eq_true, cond_true, Ar]
   | some ko =>
    have hke := zD ho
    have he2 : Ends ts2 := he'.tail (na ho)
    simp only [opt, Option.getD_some, hke, cond_false, cI (show a' < 4611686018427387904 by omega), hs1, Ar]
    simp only [List.length_cons] at hsh
    have hc : s = 1 ∨ s = 2 ∨ s = 5 ∨ s = 7 := by
     have : s = 1 ∨ s = 2 ∨ s = 3 ∨ s = 4 ∨ s = 5 ∨ s = 7 ∨ s = 8 ∨ s = 9 := by omega
     rcases this with rfl | rfl | rfl | rfl | rfl | rfl | rfl | rfl <;> simp [kd] at h <;> simp
    by_cases h7 : s = 7
    ·subst h7
     obtain ⟨r2, hr2, hm2⟩ := hk 8 (dn 7 d) (a' + 1) (by omega) (by omega) hD0 hD3 (by rw [hd2]; exact he2) (by rw [hd2]; omega)
     rw [hd2] at hr2
     exact ⟨_, .rTwo h hd hr ho hr2, hm2.two ko t2.2.2.2 x⟩
    ·obtain ⟨r2, hr2, hm2⟩ := hk s (dn s d) (a' + 1) (by omega) (by omega) hD0 hD3 (by rw [hd2]; exact he2) (by rw [hd2]; omega)
     rw [hd2] at hr2
     have hnx : nx s = s := by unfold nx; rw [beq_eq_false_iff_ne.2 h7]; rfl
     refine ⟨_, .rTwo h hd hr ho (by rw [hnx]; exact hr2), ?_⟩
     have hb : ((((s : Int) == 1) || ((s : Int) == 2)) || ((s : Int) == 5)) = true := by
      rcases hc with rfl | rfl | rfl | rfl
      ·rfl
      ·rfl
      ·rfl
      ·exact absurd rfl h7
     rw [hb]
     exact hm2.two ko t2.2.2.2 x
  ·-- from the left
   have hc : s = 3 ∨ s = 4 ∨ s = 8 ∨ s = 9 := by
    have : s = 1 ∨ s = 2 ∨ s = 3 ∨ s = 4 ∨ s = 5 ∨ s = 7 ∨ s = 8 ∨ s = 9 := by omega
    rcases this with rfl | rfl | rfl | rfl | rfl | rfl | rfl | rfl <;> simp [kd] at h <;> simp
   have hdn : dn s d = d := by rcases hc with rfl | rfl | rfl | rfl <;> rfl
   have hq : ((((s : Int) == 1) || ((s : Int) == 2)) || ((s : Int) == 5)) = false := by rcases hc with rfl | rfl | rfl | rfl <;> rfl
   have hq7 : ((s : Int) == 7) = false := by rcases hc with rfl | rfl | rfl | rfl <;> rfl
   have hle : (l.drop a').length ≤ l.length := by simp
   obtain ⟨r2, hr2, hm2⟩ := HQ hn hl htok hk h1 (by omega) h6 h (D := dn s d) hD0 hD3 hq hq7 l.length a' al x hle (by show l.length < 2 ^ 64; omega) (by rw [ha']; exact he') (by rw [ha']; omega)
   rw [ha'] at hr2
   rw [hts]
   rw [hdn] at hr hr2
   exact ⟨r2, .lGo h hr hr2, hm2⟩
end
theorem Kf {names : List Str} {l : List Tok} (hn : names.length < 4611686018427387904) (hl : l.length < 4611686018427387904) (htok : ∀ t ∈ l, eQ t) :
  ∀ (N : Nat) (s : Nat) (d : Int) (a : Nat), 1 ≤ s → s ≤ 10 → 0 ≤ d → d ≤ 320 → Ends (l.drop a) → 12 * (l.drop a).length + (11 - s) < N →
   SR names l (aj (fun k (s : (Int × Int × (List (Int × Str × Int × Int)) × Int × (List Str) × Int × Int)) => cz k s.1 s.2.1 s.2.2.1 s.2.2.2.1 s.2.2.2.2.1 s.2.2.2.2.2.1 s.2.2.2.2.2.2) N) s d a := by
 intro N
 induction N with
 | zero => intro s d a _ _ _ _ _ h; omega
 | succ N ih =>
  intro s d a h1 h10 h0 h3 he hN
  unfold SR
  rw [ar]
  exact Iw hn hl htok ih h1 h10 h0 h3 he hN
theorem H9 {names : List Str} {l : List Tok} (hn : names.length < 4611686018427387904) (hl : l.length < 1152921504606846976) (htok : ∀ t ∈ l, eQ t) {a : Nat} (he : Ends (l.drop a)) :
  ∃ r, P names (line 1) 0 (l.drop a) r ∧ match r with
   | .ok (x, ts) => ∃ a' : Nat, l.drop a' = ts ∧ dE l (a : Int) names = some (x, (a' : Int), 0, 0)
   | .error (b, p) => dE l (a : Int) names = some (.mk 0 0 0 [], 0, b, p) := by
 have hle : (l.drop a).length ≤ l.length := by simp
 obtain ⟨r, hr, hm⟩ := Kf hn (by omega) htok al 1 0 a (by omega) (by omega) (by omega) (by omega) he (by show _ < 2 ^ 64; omega)
 refine ⟨r, hr, ?_⟩
 unfold dE eN
 match r, hr, hm with
 | .ok (x, ts), hr, ⟨a', ha', hm⟩ =>
  refine ⟨a', ha', ?_⟩
  rw [show ((1 : Nat) : Int) = 1 from rfl] at hm
  rw [hm]; rfl
 | .error (b, p), hr, ⟨x, a', hm⟩ =>
  have hb := uF hr
  rw [show ((1 : Nat) : Int) = 1 from rfl] at hm
  rw [hm, ai]
  simp only [hb, cond_true]
end Pa
end Go.Proofs.YtdhgpnejphlfpaaGreatDoor
namespace Go.Proofs.YtdhgpnejphlfpaaGreatDoor
theorem vF (k : Ex → Option (Int × Int × Int)) (e : Ex) (hk : ∀ x ∈ e.l, k x = some (rt x)) (hl : e.l.length < 1152921504606846976) :
  ∀ (r pre : List Ex), e.l = pre ++ r → ∀ (M : Nat) (i b t : Int), 0 ≤ i ∧ i ≤ pre.length → 0 ≤ b ∧ b ≤ pre.length → 0 ≤ t ∧ t ≤ pre.length → r.length < M →
   aj (dO k e) M (i, b, t, (pre.length : Int)) = some (rtA e.op e.at_ (e.l.length : Int) r i b t)
 | [], pre, h, M, i, b, t, hi, hb, ht, hM => by
  obtain ⟨m, rfl⟩ : ∃ m, M = m + 1 := ⟨M - 1, by simp at hM; omega⟩
  rw [ar]
  have hlen : pre.length < 1152921504606846976 := by rw [h] at hl; simp at hl; omega
  have hw : IntKind.i64.wrap (b + t) = b + t := w64 (by omega)
  simp only [dO, Jw h, cond_false, aH, rtA, CC, hw]
  generalize (decide (e.op ≤ 6) && (i == (e.l.length : Int))) = c1
  generalize (decide (7 ≤ e.op) && decide (e.op ≤ 12) && (i == (e.l.length : Int)) || e.op == 13 || e.op == 14) = c2
  generalize (decide (15 ≤ e.op) && decide (e.op ≤ 19) && (b == (e.l.length : Int))) = c3
  generalize (decide (15 ≤ e.op) && (b + t == (e.l.length : Int))) = c4
  cases c1 <;> cases c2 <;> cases c3 <;> cases c4 <;> rfl
 | x :: r, pre, h, M, i, b, t, hi, hb, ht, hM => by
  obtain ⟨m, rfl⟩ : ∃ m, M = m + 1 := ⟨M - 1, by omega⟩
  rw [ar]
  have hx : k x = some (rt x) := hk x (by rw [h]; simp)
  have hlen : pre.length < 1152921504606846976 := by rw [h] at hl; simp at hl; omega
  have ih := fun i b t hi hb ht => vF k e hk hl r (pre ++ [x]) (by rw [h]; simp) m i b t hi hb ht (by simp at hM; omega)
  have hp : ((pre ++ [x]).length : Int) = ((pre.length + 1 : Nat) : Int) := by simp
  rw [hp] at ih
  have wi : IntKind.i64.wrap (i + 1) = i + 1 := w64 (by omega)
  have wb : IntKind.i64.wrap (b + 1) = b + 1 := w64 (by omega)
  have wt : IntKind.i64.wrap (t + 1) = t + 1 := w64 (by omega)
  simp only [dO, j7, nP, K0 h, cond_true, yt h, ai, hx, aH, g8 (show pre.length < 4611686018427387904 by omega), rtA, wi, wb, wt]
  cases (rt x).2.1 != 0
  ·simp only [cond_false]
   cases (rt x).1 == 1 <;> cases (rt x).1 == 2 <;> cases (rt x).1 == 3 <;> simp only [cond_false, cond_true] <;> exact ih _ _ _ (by omega) (by omega) (by omega)
  ·rfl
theorem Gw : ∀ (N : Nat) (e : Ex), e.sz ≤ N → e.sz < 1152921504606846976 → aj (fun k s => fu k s) N e = some (rt e) := by
 intro N
 induction N with
 | zero => intro e h; have := qg e; omega
 | succ N ih =>
  intro e h hb
  rw [ar]
  show aj (dO _ e) al (0, 0, 0, 0) = _
  have hl := rX e
  rw [rt_eq]
  exact vF (aj (fun k s => fu k s) N) e (fun x hx => ih x (by have := nb hx; omega) (by have := nb hx; omega)) (by omega) e.l [] rfl al 0 0 0 (by simp) (by simp) (by simp) (by show e.l.length < 2 ^ 64; omega)
theorem K7 (e : Ex) (h : e.sz < 1152921504606846976) : fe e = some (rt e) := Gw al e (by show e.sz ≤ 2 ^ 64; omega) h
end Go.Proofs.YtdhgpnejphlfpaaGreatDoor
namespace Go.Proofs.YtdhgpnejphlfpaaGreatDoor
namespace Sy
open Pa
/-! types -/
theorem AZ (e : Ex) : fc e = fu fe e := rfl
theorem vY (e : Ex) (h : e.sz < 1152921504606846976) : fc e = some (rt e) := by
 rw [AZ]
 have hl := rX e
 show aj (dO _ e) al (0, 0, 0, 0) = _
 rw [rt_eq]
 exact vF fe e (fun x hx => K7 x (by have := nb hx; omega)) (by omega) e.l [] rfl al 0 0 0 (by simp) (by simp) (by simp) (by show e.l.length < 2 ^ 64; omega)
/-! names -/
theorem qT {names : List Str} {v : Str} (hn : names.length < 4611686018427387904) : ∀ (m i M : Nat), names.length - i ≤ m → i ≤ names.length → m < M →
  aj (dI names v) M (i : Int) = some (match fV names v i with | some j => (j : Int) | none => -1) := by
 intro m
 induction m with
 | zero =>
  intro i M h1 h2 h3
  obtain ⟨M, rfl⟩ : ∃ k, M = k + 1 := ⟨M - 1, by omega⟩
  have hi : i = names.length := by omega
  subst hi
  rw [ar]
  have e : fV names v names.length = none := by unfold fV; simp
  rw [e]
  simp only [dI, decide_eq_false (show ¬ ((names.length : Int) < (List.length names : Int)) by omega), cond_false]
 | succ m ih =>
  intro i M h1 h2 h3
  obtain ⟨M, rfl⟩ : ∃ k, M = k + 1 := ⟨M - 1, by omega⟩
  rw [ar]
  by_cases hi : i < names.length
  ·have hd : names.drop i = names[i] :: names.drop (i + 1) := List.drop_eq_getElem_cons hi
   have hx : idx names (i : Int) = some names[i] := by simp [idx, List.getElem?_eq_getElem hi]
   simp only [dI, decide_eq_true (show ((i : Nat) : Int) < (List.length names : Int) by omega), cond_true, hx, ai, cI (show i < 4611686018427387904 by omega)]
   have e : fV names v i = bif (names[i] == v) then some i else fV names v (i + 1) := by
    unfold fV
    rw [hd, List.findIdx?_cons]
    have : (v == names[i]) = (names[i] == v) := by
     by_cases h : v = names[i]
     ·rw [h]
     ·rw [beq_eq_false_iff_ne.2 h, beq_eq_false_iff_ne.2 (fun e => h e.symm)]
    rw [this]
    cases (names[i] == v)
    ·simp only [cond_false, Bool.false_eq_true, if_false, Option.map_map]
     congr 1
     funext x
     simp only [Function.comp]; omega
    ·simp
   rw [e]
   cases (names[i] == v)
   ·simp only [cond_false]
    exact ih (i + 1) M (by omega) (by omega) (by omega)
   ·rfl
  ·have hi : i = names.length := by omega
   subst hi
   have e : fV names v names.length = none := by unfold fV; simp
   rw [e]
   simp only [dI, decide_eq_false (show ¬ ((names.length : Int) < (List.length names : Int)) by omega), cond_false]
theorem nq {names : List Str} (hn : names.length < 4611686018427387904) (v : Str) : bR names v = some (bD names v) := by
 have := qT (v := v) hn names.length 0 al (by omega) (by omega) (by show names.length < 2 ^ 64; omega)
 rw [show ((0 : Nat) : Int) = 0 from rfl, y7] at this
 unfold bR bD
 refine this.trans ?_
 cases at_ names v <;> rfl
theorem uJ {names : List Str} {v : Str} : at_ names v = none ↔ names.contains v = false := by
 unfold at_
 rw [List.findIdx?_eq_none_iff]
 constructor
 ·intro h
  cases hc : names.contains v
  ·rfl
  ·have := List.contains_iff_mem.1 hc
   have := h v this
   simp at this
 ·intro h x hx
  cases hv : (v == x)
  ·rfl
  ·have : v = x := by simpa using hv
   subst this
   have : names.contains v = true := List.contains_iff_mem.2 hx
   rw [this] at h; cases h
theorem wM (names : List Str) (v : Str) : decide (0 ≤ bD names v) = names.contains v := by
 unfold bD
 cases h : at_ names v with
 | some i =>
  simp only
  have : names.contains v = true := by
   cases hc : names.contains v
   ·rw [uJ.2 hc] at h; cases h
   ·rfl
  rw [this]; simp
 | none => rw [uJ.1 h]; rfl
/-! the state of the reader -/
noncomputable def aP (st : Except Err (List Tok)) (f : List Tok → Except Err (List Tok)) : Except Err (List Tok) := match st with
 | .ok ts => f ts
 | .error e => .error e
noncomputable def rest {α : Type} : Except Err (α × List Tok) → Except Err (List Tok)
 | .ok p => .ok p.2
 | .error e => .error e
noncomputable def aI {α : Type} (st : Except Err (List Tok)) (f : List Tok → Except Err (α × List Tok)) : Except Err (List Tok) := aP st fun ts => rest (f ts)
noncomputable def St (l : List Tok) (st : Except Err (List Tok)) (a b p : Int) : Prop := match st with
 | .ok ts => ∃ k : Nat, a = (k : Int) ∧ l.drop k = ts ∧ Pa.Ends ts ∧ b = 0 ∧ p = 0
 | .error e => (∃ t, idx l a = some t) ∧ (e.1 == 0) = false ∧ b = e.1 ∧ p = e.2
noncomputable def isS (k : Int) (x : Str) : Except Err (List Tok) → Bool
 | .ok ts => isH k x ts
 | .error _ => false
noncomputable def Val {α : Type} (st : Except Err (List Tok)) (f : List Tok → Except Err (α × List Tok)) (x : α) : Prop := ∀ ts y r, st = .ok ts → f ts = .ok (y, r) → x = y
section
variable {l : List Tok} (hl : l.length < 1099511627776) (htok : ∀ t ∈ l, eQ t) (hnum : ∀ t ∈ l, rz t)
variable {st : Except Err (List Tok)} {a b p : Int} (N : List Str) (S_ : List (Int × Int)) (I : List Int) (Q : List Str) (C : List Cmd)
theorem St.at {st : Except Err (List Tok)} {a b p : Int} (h : St l st a b p) : ∃ t, idx l a = some t := by
 cases st with
 | ok ts =>
  obtain ⟨k, rfl, hd, he, _⟩ := h
  obtain ⟨t, r, rfl⟩ := he.ne
  exact ⟨t, (dm hd).1⟩
 | error e => exact h.1
theorem St.ok {ts : List Tok} (h : St l (.ok ts) a b p) : ∃ (k : Nat) (t : Tok) (r : List Tok), a = (k : Int) ∧ ts = t :: r ∧ l.drop k = t :: r ∧ Pa.Ends (t :: r) ∧ b = 0 ∧ p = 0 ∧ idx l a = some t ∧ t ∈ l ∧ l.drop (k + 1) = r ∧ k < l.length := by
 obtain ⟨k, rfl, hd, he, hb, hp⟩ := h
 obtain ⟨t, r, rfl⟩ := he.ne
 obtain ⟨h1, h2, h3, h4⟩ := dm hd
 exact ⟨k, t, r, rfl, rfl, hd, he, hb, hp, h1, h4, h2, h3⟩
theorem lY (c q x : Int) : ao c q l x N S_ I Q C 0 0 = some (c, q) := rfl
theorem sg {b : Int} (hb : (b == 0) = false) (c q x p : Int) : ao c q l x N S_ I Q C b p = some (b, p) := by
 unfold ao; rw [hb]; rfl
theorem v9 (h : St l st a b p) (k : Int) (x : Str) : bd k x l a N S_ I Q C b p = some (isS k x st) := by
 cases st with
 | ok ts =>
  obtain ⟨k', t, r, rfl, rfl, hd, he, rfl, rfl, hx, _⟩ := h.ok
  unfold bd
  simp only [aH, beq_self_eq_true, bZ, hx, ai, Bool.true_and, isS, isH, isT]
  cases (t.1 == k)
  ·rfl
  ·simp only [bZ, ai, Bool.true_and]
 | error e =>
  obtain ⟨_, he, rfl, rfl⟩ := h
  unfold bd
  simp only [aH, he, kT, Bool.false_and, isS]
theorem FX (h : St l st a b p) : ∃ q, aF l a N S_ I Q C b p = some q ∧ ∀ ts, st = .ok ts → q = vA ts := by
 obtain ⟨t, ht⟩ := h.at
 refine ⟨t.2.2.2, by unfold aF; rw [ht]; rfl, fun ts hts => ?_⟩
 subst hts
 obtain ⟨k', t', r, rfl, rfl, hd, he, rfl, rfl, hx, _⟩ := h.ok
 rw [hx] at ht; cases ht; rfl
include hl in
theorem rK (h : St l st a b p) (x : Str) : ∃ a' b' p', aR x l a N S_ I Q C b p = some (a', b', p') ∧ St l (aP st (aA x)) a' b' p' := by
 have hi := v9 N S_ I Q C h 3 x
 unfold aR
 rw [hi, ai]
 cases st with
 | ok ts =>
  obtain ⟨k, t, r, rfl, rfl, hd, he, rfl, rfl, hx, hm, hd1, hk⟩ := h.ok
  simp only [isS, isH, aP, aA]
  cases hc : isT 3 x t
  ·simp only [Bool.not_false, cond_true, aF, hx, ai, lY]
   exact ⟨_, _, _, rfl, ⟨t, hx⟩, rfl, rfl, rfl⟩
  ·simp only [Bool.not_true, cond_false, cond_true, cI (show k < 4611686018427387904 by omega)]
   exact ⟨_, _, _, rfl, k + 1, rfl, hd1, he.tail (xQ hc (by decide)), rfl, rfl⟩
 | error e =>
  obtain ⟨⟨t, hx⟩, he, rfl, rfl⟩ := h
  simp only [isS, Bool.not_false, cond_true, aF, hx, ai, sg N S_ I Q C he, aP]
  exact ⟨_, _, _, rfl, ⟨t, hx⟩, he, rfl, rfl⟩
include hl in
theorem Gf (h : St l st a b p) (hN : N.length < 1099511627776) (hQ : Q.length < 1099511627776) (full : Bool) : ∃ s a' b' p', ez full l a N S_ I Q C b p = some (s, a', b', p') ∧ St l (aI st (cW full N Q)) a' b' p' ∧ Val st (cW full N Q) s := by
 obtain ⟨t, ht⟩ := h.at
 have iN := nq (names := N) (by omega) t.2.1
 have iQ := nq (names := Q) (by omega) t.2.1
 unfold ez
 simp only [ht, ai, FI, aH]
 cases st with
 | ok ts =>
  obtain ⟨k, t', r, rfl, rfl, hd, he, rfl, rfl, hx, hm, hd1, hk⟩ := h.ok
  rw [hx] at ht; cases ht
  simp only [aI, aP]
  have hs : cW full N Q (t :: r) = (bif t.1 != 1 then .error (2, t.2.2.2) else bif key t.2.1 || N.contains t.2.1 || Q.contains t.2.1 then .error (3, t.2.2.2) else bif full then .error (9, t.2.2.2) else .ok (t.2.1, r)) := rfl
  cases h1 : (t.1 != 1)
  case true =>
   rw [h1] at hs
   simp only [cond_true] at hs
   simp only [cond_true, lY, ai, hs, rest]
   exact ⟨_, _, _, _, rfl, ⟨⟨t, hx⟩, rfl, rfl, rfl⟩, fun ts y r' h2 h3 => by cases h2; rw [hs] at h3; cases h3⟩
  rw [h1] at hs
  simp only [cond_false] at hs ⊢
  have hc : (key t.2.1 || N.contains t.2.1 || Q.contains t.2.1) = (gn.contains t.2.1 || decide (0 ≤ bD N t.2.1) || decide (0 ≤ bD Q t.2.1)) := by rw [wM, wM]; rfl
  rw [hc] at hs
  have fin : ∀ c : Bool, (gn.contains t.2.1 || decide (0 ≤ bD N t.2.1) || decide (0 ≤ bD Q t.2.1)) = c →
    ∃ s a' b' p', (bif c then ((ao 3 t.2.2.2 l (k : Int) N S_ I Q C 0 0).bind fun r43 => some (t.2.1, (k : Int), r43.1, r43.2)) else (bif full then ((ao 9 t.2.2.2 l (k : Int) N S_ I Q C 0 0).bind fun r47 => some (t.2.1, (k : Int), r47.1, r47.2)) else (bif ((0 : Int) == 0) then some (t.2.1, (IntKind.i64.wrap ((k : Int) + 1)), 0, 0) else some (t.2.1, (k : Int), 0, 0)))) = some (s, a', b', p') ∧
     St l (rest (cW full N Q (t :: r))) a' b' p' ∧ Val (.ok (t :: r)) (cW full N Q) s := by
   intro c hcc
   rw [hcc] at hs
   cases c
   ·cases full
    ·simp only [cond_false] at hs
     refine ⟨_, _, _, _, rfl, ?_, fun ts y r' h2 h3 => by cases h2; rw [hs] at h3; cases h3; rfl⟩
     rw [hs, cI (show k < 4611686018427387904 by omega)]
     have : t.1 = 1 := by simpa using h1
     exact ⟨k + 1, rfl, hd1, he.tail (by omega), rfl, rfl⟩
    ·simp only [cond_false, cond_true] at hs
     exact ⟨_, _, _, _, rfl, by rw [hs]; exact ⟨⟨t, hx⟩, rfl, rfl, rfl⟩, fun ts y r' h2 h3 => by cases h2; rw [hs] at h3; cases h3⟩
   ·simp only [cond_true] at hs
    exact ⟨_, _, _, _, rfl, by rw [hs]; exact ⟨⟨t, hx⟩, rfl, rfl, rfl⟩, fun ts y r' h2 h3 => by cases h2; rw [hs] at h3; cases h3⟩
  have := fin _ rfl
  cases hk1 : gn.contains t.2.1
  ·simp only [Bool.not_false, bZ, iN, ai, Bool.false_or, hk1] at this ⊢
   cases hk2 : decide (0 ≤ bD N t.2.1)
   ·simp only [Bool.not_false, bZ, iQ, ai, Bool.false_or, hk2] at this ⊢
    exact this
   ·simp only [Bool.not_true, kT, Bool.true_or, hk2] at this ⊢
    exact this
  ·simp only [Bool.not_true, kT, Bool.true_or, hk1] at this ⊢
   exact this
 | error e =>
  obtain ⟨_, he, rfl, rfl⟩ := h
  simp only [aI, aP]
  have V : ∀ s, Val (.error e) (cW full N Q) s := fun s ts y r h => by cases h
  have hS : St l (.error e) a e.1 e.2 := ⟨⟨t, ht⟩, he, rfl, rfl⟩
  have iN' : ∀ g : Bool, ∃ z, ∀ k : Int → Option (Str × Int × Int × Int), ax g default (bR N t.2.1) k = k z := fun g => by
   cases g
   ·exact ⟨default, fun k => rfl⟩
   ·exact ⟨bD N t.2.1, fun k => by rw [bZ, iN]; rfl⟩
  have iQ' : ∀ g : Bool, ∃ z, ∀ k : Int → Option (Str × Int × Int × Int), ax g default (bR Q t.2.1) k = k z := fun g => by
   cases g
   ·exact ⟨default, fun k => rfl⟩
   ·exact ⟨bD Q t.2.1, fun k => by rw [bZ, iQ]; rfl⟩
  cases h1 : (t.1 != 1)
  case true =>
   simp only [cond_true, sg N S_ I Q C he, ai]
   exact ⟨_, _, _, _, rfl, hS, V _⟩
  simp only [cond_false]
  obtain ⟨z1, e1⟩ := iN' (!(gn.contains t.2.1))
  rw [e1]
  obtain ⟨z2, e2⟩ := iQ' (!(gn.contains t.2.1 || decide (0 ≤ z1)))
  rw [e2]
  cases (gn.contains t.2.1 || decide (0 ≤ z1) || decide (0 ≤ z2))
  ·cases full
   ·simp only [cond_false, he]
    exact ⟨_, _, _, _, rfl, hS, V _⟩
   ·simp only [cond_true, cond_false, sg N S_ I Q C he, ai]
    exact ⟨_, _, _, _, rfl, hS, V _⟩
  ·simp only [cond_true, sg N S_ I Q C he, ai]
   exact ⟨_, _, _, _, rfl, hS, V _⟩
include hl in
theorem Bh (neg : Bool) (h : St l st a b p) : ∃ n a' b' p', ga l N S_ I Q C b p neg a = some (n, a', b', p') ∧ St l (aI st (lB neg)) a' b' p' ∧ Val st (lB neg) n := by
 obtain ⟨t, ht⟩ := h.at
 unfold ga
 rw [ht, ai]
 cases st with
 | ok ts =>
  obtain ⟨k, t', r, rfl, rfl, hd, he, rfl, rfl, hx, hm, hd1, hk⟩ := h.ok
  rw [hx] at ht; cases ht
  simp only [aI, aP, lB, rest, Val]
  cases h1 : (t.1 != 2)
  ·simp only [cond_false, ej, cI (show k < 4611686018427387904 by omega)]
   have ht2 : t.1 = 2 := by simpa using h1
   have hE : Pa.Ends r := he.tail (by omega)
   cases neg
   ·exact ⟨_, _, _, _, rfl, ⟨k + 1, rfl, hd1, hE, rfl, rfl⟩, fun ts y r' h2 h3 => by cases h2; simp only [h1, cond_false] at h3; cases h3; rfl⟩
   ·exact ⟨_, _, _, _, rfl, ⟨k + 1, rfl, hd1, hE, rfl, rfl⟩, fun ts y r' h2 h3 => by cases h2; simp only [h1, cond_false, cond_true] at h3; cases h3; rfl⟩
  ·simp only [cond_true, lY, ai, ej]
   exact ⟨_, _, _, _, rfl, ⟨⟨t, hx⟩, rfl, rfl, rfl⟩, fun ts y r' h2 h3 => by cases h2; simp only [h1, cond_true] at h3; cases h3⟩
 | error e =>
  obtain ⟨_, he, rfl, rfl⟩ := h
  have hb : (e.1 != 0) = true := by simp only [bne, he, Bool.not_false]
  simp only [aI, aP, sg N S_ I Q C he, ai, ej, aH, hb, cond_true]
  have hS : St l (.error e) a e.1 e.2 := ⟨⟨t, ht⟩, he, rfl, rfl⟩
  cases (t.1 != 2) <;> exact ⟨_, _, _, _, rfl, hS, fun ts y r h => by cases h⟩
include hl in
theorem Dp (h : St l st a b p) : ∃ n a' b' p', cP l a N S_ I Q C b p = some (n, a', b', p') ∧ St l (aI st dw) a' b' p' ∧ Val st dw n := by
 unfold cP
 rw [v9 N S_ I Q C h 3 [45], ai]
 cases st with
 | ok ts =>
  simp only [isS]
  cases hc : isH 3 [45] ts
  ·simp only [cond_false]
   obtain ⟨n, a', b', p', h1, h2, h3⟩ := Bh hl N S_ I Q C false h
   have e : dw ts = lB false ts := by unfold dw; rw [hc]; rfl
   exact ⟨n, a', b', p', h1, by simpa only [aI, aP, e] using h2, fun ts' y r h4 h5 => h3 ts' y r h4 (by cases h4; rw [← e]; exact h5)⟩
  ·simp only [cond_true]
   obtain ⟨k, t, r, rfl, rfl, hd, he, rfl, rfl, hx, hm, hd1, hk⟩ := h.ok
   have hE : Pa.Ends r := (iF he (by decide) hc).1
   have hS : St l (.ok r) (IntKind.i64.wrap ((k : Int) + 1)) 0 0 := by rw [cI (show k < 4611686018427387904 by omega)]; exact ⟨k + 1, rfl, hd1, hE, rfl, rfl⟩
   obtain ⟨n, a', b', p', h1, h2, h3⟩ := Bh hl N S_ I Q C true hS
   have e : dw (t :: r) = lB true r := by unfold dw; rw [hc]; rfl
   exact ⟨n, a', b', p', h1, by simpa only [aI, aP, e] using h2, fun ts' y r' h4 h5 => h3 r y r' rfl (by cases h4; rw [← e]; exact h5)⟩
 | error e =>
  simp only [isS, cond_false]
  obtain ⟨n, a', b', p', h1, h2, h3⟩ := Bh hl N S_ I Q C false h
  exact ⟨n, a', b', p', h1, h2, fun ts' y r h4 => by cases h4⟩
include hl htok hnum in
theorem Gb (h : St l st a b p) (hN : N.length < 1099511627776) (want : Int) : ∃ x a' b' p', bG want l a N S_ I Q C b p = some (x, a', b', p') ∧ St l (aI st (ct want N)) a' b' p' ∧ Val st (ct want N) x := by
 have _ := hnum
 unfold bG
 cases st with
 | ok ts =>
  obtain ⟨k, t, r0, rfl, rfl, hd, he, rfl, rfl, hx, hm, hd1, hk⟩ := h.ok
  simp only [bne_self_eq_false, cond_false]
  obtain ⟨r, hr, hP⟩ := H9 (names := N) (by omega) (by omega) htok (a := k) (by rw [hd]; exact he)
  rw [hd] at hr
  have hre := CO hr
  match r, hr, hP, hre with
  | .error (b, p), hr, hP, hre =>
   have hb := uF hr
   have hb0 : (b == 0) = false := by simpa using hb
   rw [hP, ai]
   simp only [hb, cond_true, lY, ai, aI, aP, ct, hre, rest]
   exact ⟨_, _, _, _, rfl, ⟨⟨t, hx⟩, hb0, rfl, rfl⟩, fun ts y r' h2 h3 => by cases h2; simp only [ct, hre] at h3; cases h3⟩
  | .ok (x, ts'), hr, ⟨k', hk', hP⟩, hre =>
   have hsz := hr.size _ rfl
   simp only [szJ, Nat.add_zero] at hsz
   have hlen : (t :: r0).length ≤ l.length := by rw [← hd]; simp
   have hends := (hr.ends he _ rfl).1
   rw [hP, ai]
   simp only [bne_self_eq_false, cond_false, vY x (by omega), ai, aI, aP, ct, hre, rest, Val, iG]
   have hat : ∃ t', idx l (k' : Int) = some t' := by
    obtain ⟨t', r', hh⟩ := hends.ne
    simp only at hh
    rw [hh] at hk'
    exact ⟨t', (dm hk').1⟩
   cases h1 : ((rt x).2.1 != 0)
   case true =>
    have h10 : ((rt x).2.1 == 0) = false := by simpa using h1
    simp only [cond_true, lY, ai]
    exact ⟨_, _, _, _, rfl, ⟨hat, h10, rfl, rfl⟩, fun ts y r' h2 h3 => by cases h2; simp only [hre, h1, cond_true] at h3; cases h3⟩
   simp only [cond_false]
   cases h2 : ((rt x).1 != want)
   case true =>
    simp only [cond_true, lY, ai]
    exact ⟨_, _, _, _, rfl, ⟨hat, rfl, rfl, rfl⟩, fun ts y r' h4 h3 => by cases h4; simp only [hre, h1, cond_false, h2, cond_true] at h3; cases h3⟩
   simp only [cond_false]
   exact ⟨_, _, _, _, rfl, ⟨k', rfl, hk', hends, rfl, rfl⟩, fun ts y r' h4 h3 => by cases h4; simp only [hre, h1, cond_false, h2] at h3; cases h3; rfl⟩
 | error e =>
  obtain ⟨ht, he, rfl, rfl⟩ := h
  have hb : (e.1 != 0) = true := by simp only [bne, he, Bool.not_false]
  simp only [hb, cond_true, aI, aP]
  exact ⟨_, _, _, _, rfl, ⟨ht, he, rfl, rfl⟩, fun ts y r h => by cases h⟩
end
end Sy
end Go.Proofs.YtdhgpnejphlfpaaGreatDoor
namespace Go.Proofs.YtdhgpnejphlfpaaGreatDoor
namespace Sy
open Pa
theorem Ku (lo hi : Int) : iO ([(lo, hi)] : List (Int × Int)) = some (cQ lo hi) := by
 have e : iO ([(lo, hi)] : List (Int × Int)) = aj (jC [(lo, hi)]) al 0 := rfl
 rw [e]
 obtain ⟨m, hm⟩ : ∃ m, al = m + 2 := ⟨18446744073709551614, rfl⟩
 rw [hm, show m + 2 = (m + 1) + 1 from rfl, ar]
 have i0 : idx ([(lo, hi)] : List (Int × Int)) 0 = some (lo, hi) := rfl
 have d0 : decide ((0 : Int) < (List.length ([(lo, hi)] : List (Int × Int)) : Int)) = true := rfl
 have w0 : IntKind.i64.wrap (0 + 1) = 1 := rfl
 simp only [jC, d0, cond_true, i0, ai, aH, w0]
 unfold cQ
 cases decide (hi < lo)
 case true => rfl
 simp only [Bool.not_false, bZ, ai, Bool.false_or, Bool.true_and]
 cases decide (lo < -1073741824)
 case true => rfl
 simp only [Bool.not_false, bZ, ai, Bool.false_or, Bool.true_and]
 cases decide (1073741824 < hi)
 case true => rfl
 simp only [Bool.not_false, bZ, ai, Bool.false_or, Bool.true_and]
 cases decide (65535 < IntKind.i64.wrap (hi - lo))
 ·rw [ar]; rfl
 ·rfl
section
variable {l : List Tok} (hl : l.length < 1099511627776) (htok : ∀ t ∈ l, eQ t) (hnum : ∀ t ∈ l, rz t)
variable {st : Except Err (List Tok)} {a b p : Int} (N : List Str) (S_ : List (Int × Int)) (I : List Int) (Q : List Str) (C : List Cmd)
variable (hN : N.length < 1099511627776) (hS : S_.length < 1099511627776) (hI : I.length < 1099511627776) (hQ : Q.length < 1099511627776) (hC : C.length < 1099511627776)
include hl hN hS hI hQ in
theorem NV (h : St l st a b p) : ∃ a' N' S' I' b' p', eE l a N S_ I Q C b p = some (a', N', S', I', b', p') ∧ St l (aI st (jK (N, S_, I, Q, C))) a' b' p' ∧
  (∀ ts m r, st = .ok ts → jK (N, S_, I, Q, C) ts = .ok (m, r) → m = (N', S', I', Q, C)) := by
 obtain ⟨name, a1, b1, p1, e1, s1, v1⟩ := Gf hl N S_ I Q C h hN hQ (decide (16 ≤ (List.length N : Int)))
 obtain ⟨q, e0, v0⟩ := FX N S_ I Q C s1
 obtain ⟨lo, a2, b2, p2, e2, s2, v2⟩ := Dp hl N S_ I Q C s1
 obtain ⟨hi, a3, b3, p3, e3, s3, v3⟩ := Dp hl N S_ I Q C s2
 obtain ⟨fi, a4, b4, p4, e4, s4, v4⟩ := Dp hl N S_ I Q C s3
 obtain ⟨a5, b5, p5, e5, s5⟩ := rK hl N S_ I Q C s4 [59]
 have k1 : bu (List.length N + List.length ([name] : List Str)) 16 = true := jj (by simp; omega) (by simp; omega)
 have k2 : bu (List.length S_ + List.length ([(lo, hi)] : List (Int × Int))) 16 = true := jj (by simp; omega) (by simp; omega)
 have k3 : bu (List.length I + List.length ([fi] : List Int)) 8 = true := jj (by simp; omega) (by simp; omega)
 have hK : ∀ c42 c43, fA N S_ I (name, a1, b1, p1) (lo, a2, b2, p2) (hi, a3, b3, p3) (fi, a4, b4, p4) (a5, b5, p5) c42 c43 = some (a5, N ++ [name], S_ ++ [(lo, hi)], I ++ [fi], c42, c43) := fun c42 c43 => by
  unfold fA
  rw [lD k1, lD k2, lD k3]
 unfold eE
 simp only [e1, ai, e0, e2, e3, e4, e5, Ku, aH, hK]
 -- where it is wrong
 have bad : ∀ e : Err, aP (aI (aI (aI (aI st (cW (decide (16 ≤ (List.length N : Int))) N Q)) dw) dw) dw) (aA [59]) = .error e →
   (aI st (jK (N, S_, I, Q, C))) = .error e := by
  intro e he
  cases st with
  | error e' => simp only [aI, aP] at he ⊢; exact he
  | ok ts =>
   simp only [aI, aP, jK] at he ⊢
   cases h1 : cW (decide (16 ≤ (List.length N : Int))) N Q ts with
   | error e1 => rw [h1] at he; simp only [rest] at he ⊢; exact he
   | ok q1 =>
    rw [h1] at he; simp only [rest] at he ⊢
    cases h2 : dw q1.2 with
    | error e1 => rw [h2] at he; simp only [] at he ⊢; exact he
    | ok q2 =>
     rw [h2] at he; simp only [] at he ⊢
     cases h3 : dw q2.2 with
     | error e1 => rw [h3] at he; simp only [] at he ⊢; exact he
     | ok q3 =>
      rw [h3] at he; simp only [] at he ⊢
      cases h4 : dw q3.2 with
      | error e1 => rw [h4] at he; simp only [] at he ⊢; exact he
      | ok q4 =>
       rw [h4] at he; simp only [] at he ⊢
       rw [he]
 cases hst : aP (aI (aI (aI (aI st (cW (decide (16 ≤ (List.length N : Int))) N Q)) dw) dw) dw) (aA [59]) with
 | error e =>
  have hb := bad e hst
  rw [hst] at s5
  have hfail := sg (l := l) N S_ I Q C (b := b5) (by rw [s5.2.2.1]; exact s5.2.1) 5 q a5 p5
  rw [hb]
  have V : ∀ N' S' I', ∀ ts m r, st = .ok ts → jK (N, S_, I, Q, C) ts = .ok (m, r) → m = (N', S', I', Q, C) := fun N' S' I' ts m r h1 h2 => by
   subst h1
   simp only [aI, aP, h2, rest] at hb
   cases hb
  cases (!(cQ lo hi) || decide (fi < lo) || decide (hi < fi))
  ·simp only [cond_false]; exact ⟨_, _, _, _, _, _, rfl, s5, V _ _ _⟩
  ·simp only [cond_true, hfail, ai]; exact ⟨_, _, _, _, _, _, rfl, s5, V _ _ _⟩
 | ok ts5 =>
  rw [hst] at s5
  cases st with
  | error e' => simp only [aI, aP] at hst; cases hst
  | ok ts =>
   simp only [aI, aP] at hst
   cases h1 : cW (decide (16 ≤ (List.length N : Int))) N Q ts with
   | error e1 => rw [h1] at hst; cases hst
   | ok q1 =>
    obtain ⟨name', ts1⟩ := q1
    rw [h1] at hst; simp only [rest] at hst
    have en : name = name' := v1 _ _ _ rfl h1
    have t1 : aI (.ok ts) (cW (decide (16 ≤ (List.length N : Int))) N Q) = .ok ts1 := by simp only [aI, aP, h1, rest]
    have eq : q = vA ts1 := v0 _ t1
    cases h2 : dw ts1 with
    | error e1 => rw [h2] at hst; cases hst
    | ok q2 =>
     obtain ⟨lo', ts2⟩ := q2
     rw [h2] at hst; simp only at hst
     have e2' : lo = lo' := v2 _ _ _ t1 h2
     have t2 : aI (aI (.ok ts) (cW (decide (16 ≤ (List.length N : Int))) N Q)) dw = .ok ts2 := by rw [t1]; simp only [aI, aP, h2, rest]
     cases h3 : dw ts2 with
     | error e1 => rw [h3] at hst; cases hst
     | ok q3 =>
      obtain ⟨hi', ts3⟩ := q3
      rw [h3] at hst; simp only at hst
      have e3' : hi = hi' := v3 _ _ _ t2 h3
      have t3 : aI (aI (aI (.ok ts) (cW (decide (16 ≤ (List.length N : Int))) N Q)) dw) dw = .ok ts3 := by rw [t2]; simp only [aI, aP, h3, rest]
      cases h4 : dw ts3 with
      | error e1 => rw [h4] at hst; cases hst
      | ok q4 =>
       obtain ⟨fi', ts4⟩ := q4
       rw [h4] at hst; simp only at hst
       have e4' : fi = fi' := v4 _ _ _ t3 h4
       have hv : jK (N, S_, I, Q, C) ts = (bif !(cQ lo hi) || decide (fi < lo) || decide (hi < fi) then .error (5, vA ts1) else .ok ((N ++ [name], S_ ++ [(lo, hi)], I ++ [fi], Q, C), ts5)) := by
        simp only [jK, h1, h2, h3, h4, hst, en, e2', e3', e4']
       simp only [aI, aP, hv]
       obtain ⟨k5, e5a, e5b, e5c, rfl, rfl⟩ := s5
       cases hq : (!(cQ lo hi) || decide (fi < lo) || decide (hi < fi))
       ·simp only [cond_false, rest]
        exact ⟨_, _, _, _, _, _, rfl, ⟨k5, e5a, e5b, e5c, rfl, rfl⟩, fun ts' m r h5 h6 => by cases h5; rw [hv, hq] at h6; simp only [cond_false] at h6; cases h6; rfl⟩
       ·simp only [cond_true, lY, ai, rest]
        refine ⟨_, _, _, _, _, _, rfl, ?_, fun ts' m r h5 h6 => by cases h5; rw [hv, hq] at h6; simp only [cond_true] at h6; cases h6⟩
        have hat := St.at (l := l) (st := .ok ts5) (a := a5) (b := 0) (p := 0) ⟨k5, e5a, e5b, e5c, rfl, rfl⟩
        exact ⟨hat, rfl, rfl, eq⟩
end
end Sy
end Go.Proofs.YtdhgpnejphlfpaaGreatDoor
namespace Go.Proofs.YtdhgpnejphlfpaaGreatDoor
namespace Sy
open Pa
section
variable {l : List Tok} (hl : l.length < 1099511627776) (htok : ∀ t ∈ l, eQ t) (hnum : ∀ t ∈ l, rz t)
variable {st : Except Err (List Tok)} {a b p : Int} (N : List Str) (S_ : List (Int × Int)) (I : List Int) (Q : List Str) (C : List Cmd)
variable (hN : N.length < 1099511627776) (hQ : Q.length < 1099511627776) (hC : C.length < 1099511627776)
theorem Aw (acc : List (Int × Ex)) (hacc : acc.length < 4611686018427387904) (again) (e : Tok) (i : Int) (a b p : Int) : ∀ (r pre : List (Int × Ex)), acc = pre ++ r → ∀ (M : Nat) (tw : Bool), r.length < M →
  aj (bF l N S_ I Q C a b p acc again e i) M (tw, (pre.length : Int)) = bF l N S_ I Q C a b p acc again e i (fun _ => none) (tw || jq r i, (acc.length : Int))
 | [], pre, h, M, tw, hM => by
  obtain ⟨m, rfl⟩ : ∃ m, M = m + 1 := ⟨M - 1, by simp at hM; omega⟩
  rw [ar]
  have e1 : pre = acc := by simpa using h.symm
  subst e1
  simp only [bF, decide_eq_false (show ¬ ((pre.length : Int) < (List.length pre : Int)) by omega), cond_false, jq, List.any_nil, Bool.or_false]
 | x :: r, pre, h, M, tw, hM => by
  obtain ⟨m, rfl⟩ : ∃ m, M = m + 1 := ⟨M - 1, by omega⟩
  rw [ar]
  have hlen : pre.length < 4611686018427387904 := by rw [h] at hacc; simp at hacc; omega
  have ih := fun tw => Aw acc hacc again e i a b p r (pre ++ [x]) (by rw [h]; simp) m tw (by simp at hM; omega)
  rw [show ((pre ++ [x]).length : Int) = ((pre.length + 1 : Nat) : Int) by simp] at ih
  have hg : ∀ k : (Int × Ex) → Option (Int × List Cmd × Int × Int), ax (!tw) (0, Ex.mk 0 0 0 []) (some x) k = k (bif tw then (0, Ex.mk 0 0 0 []) else x) := fun k => by cases tw <;> rfl
  refine Eq.trans (b := bif decide ((pre.length : Int) < (List.length acc : Int)) then (ax (!tw) (0, (Ex.mk 0 0 0 [])) (idx acc (pre.length : Int)) fun e55 => aj (bF l N S_ I Q C a b p acc again e i) m (tw || (e55.1 == i), IntKind.i64.wrap ((pre.length : Int) + 1))) else none) ?_ ?_
  ·simp only [bF, yp h, cond_true, aH]
  ·rw [yp h, cond_true, mid h, hg, cI hlen, ih]
   congr 2
   simp only [jq, List.any_cons]
   cases tw <;> simp
include hl hC in
theorem A4 (g5 : Ex × Int × Int × Int) (acc : List (Int × Ex)) (more : Bool) (M : Nat) (h : St l st a b p) (hm : (more && (b == 0)) = false) :
  ∃ a' b' p', aj (cq l N S_ I Q C g5) (M + 1) (a, b, p, acc, more) = some (a', C ++ [(IntKind.i64.wrap ((Q.length : Int) - 1), g5.1, acc)], b', p') ∧ St l (aP st (aA [59])) a' b' p' := by
 obtain ⟨a', b', p', e1, s1⟩ := rK hl N S_ I Q C h [59]
 rw [ar]
 simp only [cq, aH, hm, cond_false, e1, ai]
 have k1 : ∀ x : Cmd, bu (List.length C + List.length ([x] : List Cmd)) 80 = true := fun x => jj (by simp; omega) (by simp; omega)
 rw [lD (k1 _)]
 exact ⟨_, _, _, rfl, s1⟩
include hl htok hnum hN in
theorem OD (acc : List (Int × Ex)) (hacc : acc.length < 1099511627776) (again) (i : Int) (h : St l st a b p) :
  ∃ x a' b' p', dP l N S_ I Q C acc again i b p a = again (a', b', p', acc ++ [(i, x)], isS 3 [44] (aI (aP st (aA [61])) (ct 1 N))) ∧
   St l (match aI (aP st (aA [61])) (ct 1 N) with | .ok ts => (bif isH 3 [44] ts then .ok ts.tail else .ok ts) | .error e => .error e) a' b' p' ∧ Val (aP st (aA [61])) (ct 1 N) x := by
 obtain ⟨a1, b1, p1, e1, s1⟩ := rK hl N S_ I Q C h [61]
 obtain ⟨x, a2, b2, p2, e2, s2, v2⟩ := Gb hl htok hnum N S_ I Q C s1 hN 1
 have e3 := v9 N S_ I Q C s2 3 [44]
 have k1 : bu (List.length acc + List.length ([(i, x)] : List (Int × Ex))) 56 = true := jj (by simp; omega) (by simp; omega)
 unfold dP
 simp only [e1, ai, e2, lD k1, e3]
 cases hst : aI (aP st (aA [61])) (ct 1 N) with
 | error e =>
  rw [hst] at s2
  simp only [isS, cond_false]
  exact ⟨x, _, _, _, rfl, s2, v2⟩
 | ok ts =>
  rw [hst] at s2
  simp only [isS]
  cases hc : isH 3 [44] ts
  ·simp only [cond_false]
   exact ⟨x, _, _, _, rfl, s2, v2⟩
  ·simp only [cond_true]
   obtain ⟨k, t, r, rfl, rfl, hd, he, rfl, rfl, hx, hm, hd1, hk⟩ := s2.ok
   refine ⟨x, _, _, _, rfl, ?_, v2⟩
   rw [cI (show k < 4611686018427387904 by omega)]
   exact ⟨k + 1, rfl, hd1, (iF he (by decide) hc).1, rfl, rfl⟩
include hl htok hnum hN hC in
theorem MG (g5 : Ex × Int × Int × Int) : ∀ (n : Nat) (ts : List Tok) (acc : List (Int × Ex)) (a : Int) (M f : Nat), ts.length ≤ n → n + 2 ≤ M → ts.length < f → acc.length + ts.length < 1099511627776 → St l (.ok ts) a 0 0 →
  ∃ a' C' b' p', aj (cq l N S_ I Q C g5) M (a, 0, 0, acc, true) = some (a', C', b', p') ∧ St l (aP (rest (cZ N f acc ts)) (aA [59])) a' b' p' ∧
   (∀ sets r, cZ N f acc ts = .ok (sets, r) → C' = C ++ [(IntKind.i64.wrap ((Q.length : Int) - 1), g5.1, sets)]) := by
 intro n
 induction n with
 | zero =>
  intro ts acc a M f h1 _ _ _ hs
  obtain ⟨k, t, r, _, rfl, _⟩ := hs.ok
  simp at h1
 | succ n ih =>
  intro ts acc a M f h1 h2 h3 h4 hs
  obtain ⟨M, rfl⟩ : ∃ m, M = m + 1 := ⟨M - 1, by omega⟩
  obtain ⟨f, rfl⟩ : ∃ m, f = m + 1 := ⟨f - 1, by omega⟩
  obtain ⟨k, t, r, rfl, rfl, hd, he, _, _, hx, hm, hd1, hk⟩ := hs.ok
  rw [ar]
  generalize hag : aj (cq l N S_ I Q C g5) M = again
  simp only [cq, aH, beq_self_eq_true, Bool.and_self, cond_true, hx, ai, nq (show N.length < 4611686018427387904 by omega)]
  have htw := Aw (l := l) N S_ I Q C acc (by omega) again t (bD N t.2.1) (k : Int) 0 0 acc [] rfl al false (by show acc.length < 2 ^ 64; omega)
  rw [show (([] : List (Int × Ex)).length : Int) = 0 from rfl, Bool.false_or] at htw
  rw [htw]
  simp only [bF, decide_eq_false (show ¬ ((acc.length : Int) < (List.length acc : Int)) by omega), cond_false, aH, lY, ai]
  -- the state behind the name
  have step : ∀ (st1 : Except Err (List Tok)) (c b p : Int), St l st1 c b p → (st1 = .ok r ∨ ∃ e, st1 = .error e) →
    cZ N (f + 1) acc (t :: r) = (match st1 with
     | .error e => .error e
     | .ok r0 => match aA [61] r0 with
      | .error e => .error e
      | .ok r1 => match ct 1 N r1 with
       | .error e => .error e
       | .ok (x, r2) => bif isH 3 [44] r2 then cZ N f (acc ++ [(bD N t.2.1, x)]) r2.tail else .ok (acc ++ [(bD N t.2.1, x)], r2)) →
    ∃ a' C' b' p', dP l N S_ I Q C acc again (bD N t.2.1) b p c = some (a', C', b', p') ∧ St l (aP (rest (cZ N (f + 1) acc (t :: r))) (aA [59])) a' b' p' ∧
     (∀ sets r', cZ N (f + 1) acc (t :: r) = .ok (sets, r') → C' = C ++ [(IntKind.i64.wrap ((Q.length : Int) - 1), g5.1, sets)]) := by
   intro st1 c b p hst1 hsh hse
   obtain ⟨x, a1, b1, p1, e1, s1, v1⟩ := OD hl htok hnum N S_ I Q C hN acc (by omega) again (bD N t.2.1) hst1
   rw [e1, ← hag]
   have hM1 : 1 ≤ M := by omega
   obtain ⟨M', rfl⟩ : ∃ m, M = m + 1 := ⟨M - 1, by omega⟩
   cases hX : aI (aP st1 (aA [61])) (ct 1 N) with
   | error e =>
    rw [hX] at s1
    simp only [isS] at s1 ⊢
    obtain ⟨a2, b2, p2, e2, s2⟩ := A4 hl N S_ I Q C hC g5 (acc ++ [(bD N t.2.1, x)]) false M' s1 rfl
    have hse' : cZ N (f + 1) acc (t :: r) = .error e := by
     rw [hse]
     cases st1 with
     | error e' => simp only [aI, aP] at hX ⊢; cases hX; rfl
     | ok r0 =>
      simp only [aI, aP] at hX ⊢
      cases q1 : aA [61] r0 with
      | error e' => rw [q1] at hX; simp only at hX ⊢; cases hX; rfl
      | ok r1 =>
       rw [q1] at hX; simp only at hX ⊢
       cases q2 : ct 1 N r1 with
       | error e' => rw [q2] at hX; simp only [rest] at hX ⊢; cases hX; rfl
       | ok q => rw [q2] at hX; simp only [rest] at hX; cases hX
    rw [hse']
    exact ⟨_, _, _, _, e2, s2, fun sets r' h => by cases h⟩
   | ok r2 =>
    rw [hX] at s1
    simp only [isS] at s1 ⊢
    obtain ⟨r0, r1, x', hr0, hr1, hr2⟩ : ∃ r0 r1 x', st1 = .ok r0 ∧ aA [61] r0 = .ok r1 ∧ ct 1 N r1 = .ok (x', r2) := by
     cases st1 with
     | error e' => simp only [aI, aP] at hX; cases hX
     | ok r0 =>
      simp only [aI, aP] at hX
      cases q1 : aA [61] r0 with
      | error e' => rw [q1] at hX; cases hX
      | ok r1 =>
       rw [q1] at hX; simp only at hX
       cases q2 : ct 1 N r1 with
       | error e' => rw [q2] at hX; cases hX
       | ok q => rw [q2] at hX; simp only [rest] at hX; cases hX; exact ⟨r0, r1, q.1, rfl, q1, q2⟩
    have hx' : x = x' := v1 r1 x' r2 (by rw [hr0]; simp only [aP, hr1]) hr2
    subst hx'
    rw [hr0] at hse
    simp only [hr1, hr2] at hse
    have hr0r : r0 = r := by rcases hsh with h | ⟨e, h⟩ <;> rw [hr0] at h <;> cases h; rfl
    subst hr0r
    have heR : Pa.Ends r0 := by
     rw [hr0] at hst1
     exact (hst1.ok).choose_spec.choose_spec.choose_spec.2.2.2.1 |> fun h => by
      have := (hst1.ok).choose_spec.choose_spec.choose_spec.2.1
      rw [this]; exact h
    have q1 := dW heR hr1
    have q2 := (jz q1.1 hr2).1
    have q2' : r2.length < r1.length := q2.2
    have q1' : r1.length < r0.length := q1.2
    cases hc : isH 3 [44] r2
    ·rw [hc] at s1 hse
     simp only [cond_false] at s1 hse
     obtain ⟨a2, b2, p2, e2, s2⟩ := A4 hl N S_ I Q C hC g5 (acc ++ [(bD N t.2.1, x)]) false M' s1 rfl
     rw [hse]
     exact ⟨_, _, _, _, e2, s2, fun sets r' h => by cases h; rfl⟩
    ·rw [hc] at s1 hse
     simp only [cond_true] at s1 hse
     obtain ⟨t1, t2⟩ := iF q2.1 (by decide) hc
     have t2' : r2.tail.length + 1 = r2.length := t2
     have hlen : (acc ++ [(bD N t.2.1, x)]).length = acc.length + 1 := by simp
     simp only [List.length_cons] at h1 h3 h4
     have hb1 : b1 = 0 ∧ p1 = 0 := by obtain ⟨_, _, _, _, h5, h6⟩ := s1; exact ⟨h5, h6⟩
     obtain ⟨rfl, rfl⟩ := hb1
     obtain ⟨a2, C2, b2, p2, e2, s2, v2⟩ := ih r2.tail (acc ++ [(bD N t.2.1, x)]) a1 (M' + 1) f (by omega) (by omega) (by omega) (by rw [hlen]; omega) s1
     rw [hse]
     exact ⟨_, _, _, _, e2, s2, v2⟩
  cases c1 : (t.1 != 1)
  case true =>
   simp only [cond_true, dQ, show ((2 : Int) == 0) = false from rfl, cond_false]
   refine step (.error (2, t.2.2.2)) (k : Int) 2 t.2.2.2 ⟨⟨t, hx⟩, rfl, rfl, rfl⟩ (.inr ⟨_, rfl⟩) ?_
   simp only [cZ, c1, cond_true]
  simp only [cond_false]
  cases c2 : (decide (bD N t.2.1 < 0) || jq acc (bD N t.2.1))
  case true =>
   simp only [cond_true, dQ, show ((3 : Int) == 0) = false from rfl, cond_false]
   refine step (.error (3, t.2.2.2)) (k : Int) 3 t.2.2.2 ⟨⟨t, hx⟩, rfl, rfl, rfl⟩ (.inr ⟨_, rfl⟩) ?_
   simp only [cZ, c1, cond_false, c2, cond_true]
  simp only [cond_false, dQ, beq_self_eq_true, cond_true, cI (show k < 4611686018427387904 by omega)]
  have ht1 : t.1 = 1 := by simpa using c1
  refine step (.ok r) ((k + 1 : Nat) : Int) 0 0 ⟨k + 1, rfl, hd1, he.tail (by omega), rfl, rfl⟩ (.inl rfl) ?_
  simp only [cZ, c1, cond_false, c2]
  cases aA [61] r with
  | error e => rfl
  | ok r1 =>
   simp only
   cases ct 1 N r1 <;> rfl
include hl htok hnum hN hC in
theorem HX (h : St l st a b p) : ∃ a' C' b' p', dS l a N S_ I Q C b p = some (a', C', b', p') ∧
  St l (aP (aP (aI st (ct 2 N)) (aA [58])) (fun r2 => aP (rest (cZ N (r2.length + 1) [] r2)) (aA [59]))) a' b' p' ∧
  (∀ ts g r1 r2 sets r3, st = .ok ts → ct 2 N ts = .ok (g, r1) → aA [58] r1 = .ok r2 → cZ N (r2.length + 1) [] r2 = .ok (sets, r3) → C' = C ++ [(IntKind.i64.wrap ((Q.length : Int) - 1), g, sets)]) := by
 obtain ⟨x, a1, b1, p1, e1, s1, v1⟩ := Gb hl htok hnum N S_ I Q C h hN 2
 obtain ⟨a2, b2, p2, e2, s2⟩ := rK hl N S_ I Q C s1 [58]
 unfold dS
 simp only [e1, ai, e2]
 cases hX : aP (aI st (ct 2 N)) (aA [58]) with
 | error e =>
  rw [hX] at s2
  have hb : (false : Bool) = (b2 == 0) := by rw [s2.2.2.1]; exact s2.2.1.symm
  obtain ⟨a3, b3, p3, e3, s3⟩ := A4 hl N S_ I Q C hC (x, a1, b1, p1) [] true 18446744073709551615 s2 (by rw [← hb]; rfl)
  rw [show al = 18446744073709551615 + 1 from rfl, e3]
  refine ⟨_, _, _, _, rfl, s3, fun ts g r1 r2 sets r3 h1 h2 h3 h4 => ?_⟩
  subst h1
  simp only [aI, aP, h2, rest, h3] at hX
  cases hX
 | ok r2 =>
  rw [hX] at s2
  obtain ⟨k, rfl, hd, he, rfl, rfl⟩ := s2
  have hlen : r2.length ≤ l.length := by rw [← hd]; simp
  obtain ⟨a3, C3, b3, p3, e3, s3, v3⟩ := MG hl htok hnum N S_ I Q C hN hC (x, a1, b1, p1) r2.length r2 [] (k : Int) al (r2.length + 1) (Nat.le_refl _) (by show _ ≤ 2 ^ 64; omega) (by omega) (by simp; omega) ⟨k, rfl, hd, he, rfl, rfl⟩
  refine ⟨_, _, _, _, e3, s3, fun ts g r1 r2' sets r3 h1 h2 h3 h4 => ?_⟩
  subst h1
  have hx : x = g := v1 ts g r1 rfl h2
  simp only [aI, aP, h2, rest, h3] at hX
  cases hX
  have := v3 sets r3 h4
  rw [this, hx]
include hl htok hnum hN hC in
theorem Ob (h : St l st a b p) : ∃ a' C' b' p', eM l a N S_ I Q C b p = some (a', C', b', p') ∧ St l (aI st (iu (N, S_, I, Q, C))) a' b' p' ∧
  (∀ ts m r, st = .ok ts → iu (N, S_, I, Q, C) ts = .ok (m, r) → m = (N, S_, I, Q, C')) := by
 unfold eM
 have key : ∀ (st1 : Except Err (List Tok)) (b1 p1 : Int), St l st1 a b1 p1 → ((∃ e, st1 = .error e ∧ aI st (iu (N, S_, I, Q, C)) = .error e) ∨ (st1 = st ∧ decide (256 ≤ (C.length : Int)) = false)) →
   ∃ a' C' b' p', dS l a N S_ I Q C b1 p1 = some (a', C', b', p') ∧ St l (aI st (iu (N, S_, I, Q, C))) a' b' p' ∧
    (∀ ts m r, st = .ok ts → iu (N, S_, I, Q, C) ts = .ok (m, r) → m = (N, S_, I, Q, C')) := by
  intro st1 b1 p1 hs hor
  obtain ⟨a', C', b', p', e1, s1, v1⟩ := HX hl htok hnum N S_ I Q C hN hC hs
  refine ⟨a', C', b', p', e1, ?_, ?_⟩
  ·rcases hor with ⟨e, rfl, he⟩ | ⟨rfl, hd⟩
   ·rw [he]; exact s1
   ·have : aI st1 (iu (N, S_, I, Q, C)) = aP (aP (aI st1 (ct 2 N)) (aA [58])) (fun r2 => aP (rest (cZ N (r2.length + 1) [] r2)) (aA [59])) := by
     cases st1 with
     | error e => rfl
     | ok ts =>
      simp only [aI, aP, iu, hd, cond_false]
      cases ct 2 N ts with
      | error e => rfl
      | ok q =>
       simp only [rest]
       cases aA [58] q.2 with
       | error e => rfl
       | ok r2 =>
        simp only
        cases cZ N (r2.length + 1) [] r2 with
        | error e => rfl
        | ok q3 =>
         simp only
         cases aA [59] q3.2 <;> rfl
    rw [this]; exact s1
  ·intro ts m r h1 h2
   rcases hor with ⟨e, rfl, he⟩ | ⟨rfl, hd⟩
   ·subst h1
    simp only [aI, aP, h2, rest] at he
    cases he
   ·subst h1
    simp only [iu, hd, cond_false] at h2
    cases q1 : ct 2 N ts with
    | error e => rw [q1] at h2; cases h2
    | ok q =>
     obtain ⟨g, r1⟩ := q
     rw [q1] at h2; simp only at h2
     cases q2 : aA [58] r1 with
     | error e => rw [q2] at h2; cases h2
     | ok r2 =>
      rw [q2] at h2; simp only at h2
      cases q3 : cZ N (r2.length + 1) [] r2 with
      | error e => rw [q3] at h2; cases h2
      | ok qq =>
       obtain ⟨sets, r3⟩ := qq
       rw [q3] at h2; simp only at h2
       cases q4 : aA [59] r3 with
       | error e => rw [q4] at h2; cases h2
       | ok r4 =>
        rw [q4] at h2; cases h2
        rw [v1 ts g r1 r2 sets r3 rfl q1 q2 q3]
 cases hd : decide (256 ≤ (List.length C : Int))
 ·simp only [cond_false, aH]
  exact key st b p h (.inr ⟨rfl, hd⟩)
 ·simp only [cond_true, aH]
  obtain ⟨q, e0, v0⟩ := FX N S_ I Q C h
  rw [e0, ai]
  cases st with
  | ok ts =>
   obtain ⟨k, t, r, rfl, rfl, hd', he, rfl, rfl, hx, _⟩ := h.ok
   rw [lY, ai]
   have hq : q = vA (t :: r) := v0 _ rfl
   refine key (.error (9, q)) 9 q ⟨⟨t, hx⟩, rfl, rfl, rfl⟩ (.inl ⟨_, rfl, ?_⟩)
   simp only [aI, aP, iu, hd, cond_true, rest, hq]
  | error e =>
   have he := h.2.1
   have hcopy := h
   obtain ⟨_, _, rfl, rfl⟩ := hcopy
   rw [sg N S_ I Q C he, ai]
   exact key (.error e) e.1 e.2 h (.inl ⟨e, rfl, rfl⟩)
end
end Sy
end Go.Proofs.YtdhgpnejphlfpaaGreatDoor
namespace Go.Proofs.YtdhgpnejphlfpaaGreatDoor
namespace Sy
open Pa
theorem CS : ∀ (f : Nat) (m : Mdl) (ts : List Tok) (p : Mdl × List Tok), Pa.Ends ts → gw f m ts = .ok p → cC ts p.2 := by
 intro f
 induction f with
 | zero => intro _ _ _ _ h; simp [gw] at h
 | succ f ih =>
  intro m ts p he h
  simp only [gw] at h
  cases hc : isH 3 [125] ts
  ·rw [hc] at h
   simp only [cond_false] at h
   cases h1 : iu m ts with
   | error e => rw [h1] at h; cases h
   | ok q =>
    obtain ⟨m', r⟩ := q
    rw [h1] at h
    simp only at h
    have s1 : cC ts r := (uP he h1).1
    exact s1.trans (ih m' r p s1.1 h)
  ·rw [hc] at h
   cases h
   obtain ⟨h1, h2⟩ := iF he (by decide) hc
   exact ⟨h1, by show ts.tail.length < ts.length; omega⟩
theorem vO {m : Mdl} {ts : List Tok} {p : Mdl × List Tok} (he : Pa.Ends ts) (h : im m ts = .ok p) : cC ts p.2 := by
 unfold im at h
 cases h1 : cW false m.1 m.2.2.2.1 ts with
 | error e => rw [h1] at h; cases h
 | ok q1 =>
  obtain ⟨name, r1⟩ := q1
  rw [h1] at h
  simp only at h
  have s1 : cC ts r1 := (nB he h1).1
  cases h2 : aA [123] r1 with
  | error e => rw [h2] at h; cases h
  | ok r2 =>
   rw [h2] at h
   simp only at h
   have s2 := dW s1.1 h2
   exact (s1.trans s2).trans (CS _ _ _ _ s2.1 h)
abbrev R8 := Int × List Str × List (Int × Int) × List Int × List Str × List Cmd × Int × Int
abbrev RP := Mdl × Int × Int
section
variable {l : List Tok} (hl : l.length < 1000000000) (htok : ∀ t ∈ l, eQ t) (hnum : ∀ t ∈ l, rz t)
variable {st : Except Err (List Tok)} {a b p : Int} (N : List Str) (S_ : List (Int × Int)) (I : List Int) (Q : List Str)
variable (hN : N.length < 1000000000) (hQ : Q.length < 1000000000)
theorem w5 {C : List Cmd} (e1 e2 : Int) (again46 : R8 → Option RP) (nm : Str × Int × Int × Int) (hl : l.length < 1099511627776) (M : Nat) (h : St l st a b p) (en : Bool) (hb : ((b == 0) && !en) = false) :
  ∃ a' b' p', aj (eI (l, e1, e2) Q again46 N S_ I nm) (M + 1) (a, C, b, p, en) = again46 (a', N, S_, I, Q ++ [nm.1], C, b', p') ∧ St l (aP st (aA [125])) a' b' p' := by
 obtain ⟨a', b', p', e3, s3⟩ := rK hl N S_ I (Q ++ [nm.1]) C h [125]
 rw [ar]
 simp only [eI, aH, hb, cond_false, e3, ai]
 exact ⟨_, _, _, rfl, s3⟩
include hl htok hnum hN hQ in
theorem Mj (e1 e2 : Int) (again46 : R8 → Option RP) (nm : Str × Int × Int × Int) : ∀ (n : Nat) (ts : List Tok) (C : List Cmd) (a : Int) (M f : Nat), ts.length ≤ n → n + 2 ≤ M → ts.length < f → C.length + ts.length < 1099511627776 - 1 → St l (.ok ts) a 0 0 →
  ∃ a' C' b' p', aj (eI (l, e1, e2) Q again46 N S_ I nm) M (a, C, 0, 0, isH 3 [125] ts) = again46 (a', N, S_, I, Q ++ [nm.1], C', b', p') ∧
   St l (rest (gw f (N, S_, I, Q ++ [nm.1], C) ts)) a' b' p' ∧ (∀ m r, gw f (N, S_, I, Q ++ [nm.1], C) ts = .ok (m, r) → m = (N, S_, I, Q ++ [nm.1], C') ∧ C'.length + r.length < C.length + ts.length) := by
 have hQ' : (Q ++ [nm.1]).length < 1099511627776 := by simp; omega
 intro n
 induction n with
 | zero =>
  intro ts C a M f h1 _ _ _ hs
  obtain ⟨k, t, r, _, rfl, _⟩ := hs.ok
  simp at h1
 | succ n ih =>
  intro ts C a M f h1 h2 h3 h4 hs
  obtain ⟨M, rfl⟩ : ∃ m, M = m + 1 := ⟨M - 1, by omega⟩
  obtain ⟨f, rfl⟩ : ∃ m, f = m + 1 := ⟨f - 1, by omega⟩
  have hE : Pa.Ends ts := by obtain ⟨_, _, _, h, _⟩ := hs; exact h
  cases hc : isH 3 [125] ts
  ·-- a command
   have hsc : gw (f + 1) (N, S_, I, Q ++ [nm.1], C) ts = (match iu (N, S_, I, Q ++ [nm.1], C) ts with | .error e => .error e | .ok (m', r) => gw f m' r) := by
    simp only [gw, hc, cond_false]
    cases iu (N, S_, I, Q ++ [nm.1], C) ts <;> rfl
   obtain ⟨a1, C1, b1, p1, e3, s1, v1⟩ := Ob (by omega) htok hnum N S_ I (Q ++ [nm.1]) C (by omega) (by omega) hs
   have e4 := v9 N S_ I (Q ++ [nm.1]) C1 s1 3 [125]
   rw [ar]
   simp only [eI, aH, beq_self_eq_true, Bool.not_false, Bool.and_self, cond_true, e3, ai, e4]
   cases hq : iu (N, S_, I, Q ++ [nm.1], C) ts with
   | error e =>
    have hX : aI (.ok ts) (iu (N, S_, I, Q ++ [nm.1], C)) = .error e := by simp only [aI, aP, hq, rest]
    rw [hX] at s1
    simp only [hX, isS]
    obtain ⟨M', rfl⟩ : ∃ m, M = m + 1 := ⟨M - 1, by omega⟩
    have hb1 : (b1 == 0) = false := by rw [s1.2.2.1]; exact s1.2.1
    obtain ⟨a2, b2, p2, e5, s2⟩ := w5 N S_ I Q (C := C1) e1 e2 again46 nm (by omega) M' s1 false (by rw [hb1]; rfl)
    rw [hsc, hq]
    exact ⟨_, _, _, _, e5, s2, fun m r h => by cases h⟩
   | ok q =>
    obtain ⟨m', r⟩ := q
    have hX : aI (.ok ts) (iu (N, S_, I, Q ++ [nm.1], C)) = .ok r := by simp only [aI, aP, hq, rest]
    rw [hX] at s1
    simp only [hX, isS]
    have hm' := v1 ts m' r rfl hq
    obtain ⟨sh, g, r1, r2, sets, r3, _, _, _, _, hp, _⟩ := uP hE hq
    have hC1 : C1 = C ++ [(IntKind.i64.wrap (((Q ++ [nm.1]).length : Int) - 1), g, sets)] := by
     simp only at hp
     rw [hm'] at hp
     simp only [Prod.mk.injEq, true_and] at hp
     exact hp
    have hC1l : C1.length = C.length + 1 := by rw [hC1]; simp
    have shr : r.length < ts.length := sh.2
    have hb1 : b1 = 0 ∧ p1 = 0 := by obtain ⟨_, _, _, _, h5, h6⟩ := s1; exact ⟨h5, h6⟩
    obtain ⟨rfl, rfl⟩ := hb1
    obtain ⟨a2, C2, b2, p2, e5, s2, v2⟩ := ih r C1 a1 M f (by omega) (by omega) (by omega) (by omega) s1
    rw [hsc, hq]
    simp only
    rw [hm']
    exact ⟨_, _, _, _, e5, s2, fun m r' h => ⟨(v2 m r' h).1, by have := (v2 m r' h).2; omega⟩⟩
  ·have hsc : gw (f + 1) (N, S_, I, Q ++ [nm.1], C) ts = .ok ((N, S_, I, Q ++ [nm.1], C), ts.tail) := by simp only [gw, hc, cond_true]
   obtain ⟨a2, b2, p2, e5, s2⟩ := w5 N S_ I Q (C := C) e1 e2 again46 nm (by omega) M hs true (by simp)
   rw [hsc]
   refine ⟨_, _, _, _, e5, ?_, fun m r h => by cases h; exact ⟨rfl, by have := (iF hE (by decide) hc).2; omega⟩⟩
   have : aP (.ok ts) (aA [125]) = rest (.ok ((N, S_, I, Q ++ [nm.1], C), ts.tail) : Except Err (Mdl × List Tok)) := by
    obtain ⟨t, r, rfl⟩ := hE.ne
    simp only [aP, aA, rest, List.tail_cons]
    simp only [isH] at hc
    rw [hc]; rfl
   rw [← this]; exact s2
noncomputable def Big (m : Mdl) (ts : List Tok) : Prop := m.1.length + ts.length < 1000000000 ∧ m.2.1.length + ts.length < 1000000000 ∧ m.2.2.1.length + ts.length < 1000000000 ∧ m.2.2.2.1.length + ts.length < 1000000000 ∧ m.2.2.2.2.length + ts.length < 1000000000
theorem Ay {e3 e4 : Int} (e1 e2 : Int) (m : Mdl) (h : St l (.error (e3, e4)) a b p) (M : Nat) : aj (dF (l, e1, e2)) (M + 1) (a, m.1, m.2.1, m.2.2.1, m.2.2.2.1, m.2.2.2.2, b, p) = some (([], [], [], [], []), e3, e4) := by
 obtain ⟨⟨t, hx⟩, he, rfl, rfl⟩ := h
 rw [ar]
 simp only at he
 have hb : (b != 0) = true := by simp only [bne, he, Bool.not_false]
 simp only [dF, aH, he, kT, Bool.false_and, cond_false, gq, aF, hx, ai, ao, hb, cond_true]
 cases ((List.length m.1 : Int) == 0) <;> rfl
include hl htok hnum in
theorem Ll (e1 e2 : Int) : ∀ (n : Nat) (ts : List Tok) (m : Mdl) (a : Int) (M f : Nat), ts.length ≤ n → n + 2 ≤ M → ts.length < f → Big m ts → St l (.ok ts) a 0 0 →
  aj (dF (l, e1, e2)) M (a, m.1, m.2.1, m.2.2.1, m.2.2.2.1, m.2.2.2.2, 0, 0) = some (ue (gP f m ts)) := by
 intro n
 induction n with
 | zero =>
  intro ts m a M f h1 _ _ _ hs
  obtain ⟨k, t, r, _, rfl, _⟩ := hs.ok
  simp at h1
 | succ n ih =>
  intro ts m a M f h1 h2 h3 hB hs
  obtain ⟨M, rfl⟩ : ∃ m, M = m + 1 := ⟨M - 1, by omega⟩
  obtain ⟨f, rfl⟩ : ∃ m, f = m + 1 := ⟨f - 1, by omega⟩
  obtain ⟨k, t, r, rfl, rfl, hd, he, _, _, hx, hm, hd1, hk⟩ := hs.ok
  obtain ⟨N, S_, I, Q, C⟩ := m
  obtain ⟨B1, B2, B3, B4, B5⟩ := hB
  simp only [List.length_cons] at B1 B2 B3 B4 B5 h1 h3
  have iv := v9 N S_ I Q C hs 1 [118, 97, 114]
  have ip := v9 N S_ I Q C hs 1 [112, 114, 111, 99]
  rw [ar]
  generalize hag : aj (dF (l, e1, e2)) M = again
  simp only [dF, aH, beq_self_eq_true, bZ, hx, ai, Bool.true_and]
  have hsi : gP (f + 1) (N, S_, I, Q, C) (t :: r) = (bif t.1 == 4 then (bif N.isEmpty then .error (2, t.2.2.2) else .ok (N, S_, I, Q, C))
   else bif isT 1 [118, 97, 114] t then (match jK (N, S_, I, Q, C) r with
    | .error e => .error e
    | .ok (m', r') => gP f m' r')
   else bif isT 1 [112, 114, 111, 99] t then (match im (N, S_, I, Q, C) r with
    | .error e => .error e
    | .ok (m', r') => gP f m' r')
   else .error (2, t.2.2.2)) := by
   simp only [gP]
   cases jK (N, S_, I, Q, C) r <;> cases im (N, S_, I, Q, C) r <;> rfl
  cases c4 : (t.1 == 4)
  case true =>
   have c4' : (t.1 != 4) = false := by simp only [bne, c4, Bool.not_true]
   rw [hsi, c4]
   simp only [c4', cond_false, cond_true]
   have hne : ((List.length N : Int) == 0) = N.isEmpty := by cases N with
    | nil => rfl
    | cons x r => simp only [List.length_cons, List.isEmpty_cons]; exact beq_eq_false_iff_ne.2 (by omega)
   rw [hne]
   cases N.isEmpty
   ·simp only [cond_false, gq, bne_self_eq_false, ue]
   ·simp only [cond_true, aF, hx, ai, lY, gq, ue]; rfl
  have c4' : (t.1 != 4) = true := by simp only [bne, c4, Bool.not_false]
  simp only [isS, isH] at iv ip
  simp only [c4', cond_true, iv, ip, ai]
  have hE1 : Pa.Ends r := he.tail (by simpa using c4)
  have hs1 : St l (.ok r) ((k + 1 : Nat) : Int) 0 0 := ⟨k + 1, rfl, hd1, hE1, rfl, rfl⟩
  have wk : IntKind.i64.wrap ((k : Int) + 1) = ((k + 1 : Nat) : Int) := cI (by omega)
  obtain ⟨M', hM'⟩ : ∃ m, M = m + 1 := ⟨M - 1, by omega⟩
  cases cv : isT 1 [118, 97, 114] t
  ·cases cp : isT 1 [112, 114, 111, 99] t
   ·-- neither
    rw [hsi, c4, cv, cp]
    simp only [cond_false, Bool.not_false, Bool.and_self, cond_true, aF, hx, ai, lY, gA, show ((2 : Int) == 0) = false from rfl, gu, gB, aH]
    rw [← hag, hM']
    exact Ay (e3 := 2) (e4 := t.2.2.2) e1 e2 (N, S_, I, Q, C) ⟨⟨t, hx⟩, rfl, rfl, rfl⟩ M'
   ·-- a process
    rw [hsi, c4, cv, cp]
    simp only [cond_false, Bool.not_true, Bool.not_false, Bool.and_false, cond_true, gA, beq_self_eq_true, gu, gB, wk, aH]
    obtain ⟨nm, a1, b1, p1, e3, s1, v1⟩ := Gf (by omega) N S_ I Q C hs1 (by omega) (by omega) false
    have k1 : bu (List.length Q + List.length ([nm] : List Str)) 16 = true := jj (by simp; omega) (by simp; omega)
    obtain ⟨a2, b2, p2, e4, s2⟩ := rK (by omega) N S_ I (Q ++ [nm]) C s1 [123]
    have e5 := v9 N S_ I (Q ++ [nm]) C s2 3 [125]
    simp only [e3, ai, lD k1, e4, e5]
    cases hq : aP (aI (.ok r) (cW false N Q)) (aA [123]) with
    | error e =>
     rw [hq] at s2
     have hb1 : (b2 == 0) = false := by rw [s2.2.2.1]; exact s2.2.1
     obtain ⟨a3, b3, p3, e6, s3⟩ := w5 N S_ I Q (C := C) e1 e2 again (nm, a1, b1, p1) (by omega) 18446744073709551615 s2 false (by rw [hb1]; rfl)
     simp only [isS]
     rw [show al = 18446744073709551615 + 1 from rfl, e6]
     have hp : im (N, S_, I, Q, C) r = .error e := by
      simp only [im]
      simp only [aI, aP] at hq
      cases q1 : cW false N Q r with
      | error e' => rw [q1] at hq; simp only [rest] at hq ⊢; cases hq; rfl
      | ok q =>
       rw [q1] at hq; simp only [rest] at hq ⊢
       rw [hq]
     rw [hp]
     simp only [aP] at s3
     obtain ⟨ee1, ee2⟩ := e
     rw [← hag, hM']
     exact Ay e1 e2 (N, S_, I, Q ++ [nm], C) s3 M'
    | ok r2 =>
     rw [hq] at s2
     obtain ⟨r1, hr1, hr2⟩ : ∃ r1, cW false N Q r = .ok (nm, r1) ∧ aA [123] r1 = .ok r2 := by
      simp only [aI, aP] at hq
      cases q1 : cW false N Q r with
      | error e' => rw [q1] at hq; cases hq
      | ok q =>
       obtain ⟨nm', r1⟩ := q
       rw [q1] at hq; simp only [rest] at hq
       have := v1 r nm' r1 rfl q1
       subst this
       exact ⟨r1, rfl, hq⟩
     have hb : b2 = 0 ∧ p2 = 0 := by obtain ⟨_, _, _, _, h5, h6⟩ := s2; exact ⟨h5, h6⟩
     obtain ⟨rfl, rfl⟩ := hb
     have sh1 := (nB hE1 hr1).1
     have sh2 := dW sh1.1 hr2
     have l1 : r1.length < r.length := sh1.2
     have l2 : r2.length < r1.length := sh2.2
     have hp : im (N, S_, I, Q, C) r = gw (r2.length + 1) (N, S_, I, Q ++ [nm], C) r2 := by simp only [im, hr1, hr2]
     have hle : r2.length ≤ l.length := by obtain ⟨k2, _, h, _⟩ := s2; rw [← h]; simp
     obtain ⟨a3, C3, b3, p3, e6, s3, v3⟩ := Mj hl htok hnum N S_ I Q (by omega) (by omega) e1 e2 again (nm, a1, b1, p1) r2.length r2 C a2 al (r2.length + 1) (Nat.le_refl _) (by show _ ≤ 2 ^ 64; omega) (by omega) (by omega) s2
     simp only [isS]
     rw [e6, hp]
     cases hcm : gw (r2.length + 1) (N, S_, I, Q ++ [nm], C) r2 with
     | error e =>
      rw [hcm] at s3
      simp only [rest] at s3
      obtain ⟨ee1, ee2⟩ := e
      rw [← hag, hM']
      exact Ay e1 e2 (N, S_, I, Q ++ [nm], C3) s3 M'
     | ok q =>
      obtain ⟨m', r'⟩ := q
      rw [hcm] at s3
      simp only [rest] at s3
      obtain ⟨hm', hlen⟩ := v3 m' r' hcm
      have sh3 := CS _ _ _ _ sh2.1 hcm
      have l3 : r'.length < r2.length := sh3.2
      have hb : b3 = 0 ∧ p3 = 0 := by obtain ⟨_, _, _, _, h5, h6⟩ := s3; exact ⟨h5, h6⟩
      obtain ⟨rfl, rfl⟩ := hb
      simp only
      rw [← hag, hm']
      have hQl : (Q ++ [nm]).length = Q.length + 1 := by simp
      exact ih r' (N, S_, I, Q ++ [nm], C3) a3 M f (by omega) (by omega) (by omega) ⟨by simp only; omega, by simp only; omega, by simp only; omega, by simp only; omega, by simp only; omega⟩ s3
  ·-- a variable
   have cp : isT 1 [112, 114, 111, 99] t = false := by
    unfold isT at cv ⊢
    simp only [Bool.and_eq_true, beq_iff_eq] at cv
    rw [cv.2]
    simp
   rw [hsi, c4, cv]
   simp only [cond_false, Bool.not_true, Bool.false_and, cond_true, gA, beq_self_eq_true, gu, cp, wk, aH]
   obtain ⟨a1, N', S', I', b1, p1, e3, s1, v1⟩ := NV (by omega) N S_ I Q C (by omega) (by omega) (by omega) (by omega) hs1
   simp only [e3, ai, gB, cond_false]
   cases hq : jK (N, S_, I, Q, C) r with
   | error e =>
    simp only [aI, aP, hq, rest] at s1
    obtain ⟨ee1, ee2⟩ := e
    rw [← hag, hM']
    exact Ay e1 e2 (N', S', I', Q, C) s1 M'
   | ok q =>
    obtain ⟨m', r'⟩ := q
    simp only [aI, aP, hq, rest] at s1
    have hm' := v1 r m' r' rfl hq
    obtain ⟨sh, name, lo, hi, first, hp, _⟩ := yr hE1 hq
    have l1 : r'.length < r.length := sh.2
    have hb : b1 = 0 ∧ p1 = 0 := by obtain ⟨_, _, _, _, h5, h6⟩ := s1; exact ⟨h5, h6⟩
    obtain ⟨rfl, rfl⟩ := hb
    simp only
    simp only at hp
    rw [hm'] at hp
    simp only [Prod.mk.injEq, and_true] at hp
    obtain ⟨hp1, hp2, hp3⟩ := hp
    have q1 : N'.length = N.length + 1 := by rw [hp1]; simp
    have q2 : S'.length = S_.length + 1 := by rw [hp2]; simp
    have q3 : I'.length = I.length + 1 := by rw [hp3]; simp
    rw [← hag, hm']
    exact ih r' (N', S', I', Q, C) a1 M f (by omega) (by omega) (by omega) ⟨by simp only; omega, by simp only; omega, by simp only; omega, by simp only; omega, by simp only; omega⟩ s1
end
theorem Ka {text : Str} {l : List Tok} (ht : dZ text = some (l, 0, 0)) (hl : l.length < 500000000) (htok : ∀ t ∈ l, eQ t) (hnum : ∀ t ∈ l, rz t) (he : Pa.Ends l) :
  cT text = some (ue (sys l)) := by
 unfold cT
 rw [ht, ai]
 simp only [bne_self_eq_false, cond_false]
 exact Ll (by omega) htok hnum 0 0 l.length l ([], [], [], [], []) 0 al (l.length + 1) (Nat.le_refl _) (by show _ ≤ 2 ^ 64; omega) (by omega) ⟨by simp; omega, by simp; omega, by simp; omega, by simp; omega, by simp; omega⟩ ⟨0, rfl, rfl, he, rfl, rfl⟩
end Sy
end Go.Proofs.YtdhgpnejphlfpaaGreatDoor
namespace Go.Proofs.YtdhgpnejphlfpaaGreatDoor
namespace Sy
open Pa
theorem vn (text : Str) : cT text = some (ue (qJ text)) := by
 unfold qJ
 by_cases h : 65536 < text.length
 ·rw [if_pos h]
  unfold cT
  rw [Lx.xT]
  unfold Lx.tokens
  rw [if_pos h]
  rfl
 ·rw [if_neg h]
  have ht : dZ text = some (Lx.res (Lx.lex text)) := by rw [Lx.xT, Lx.GL (by omega)]
  cases hl : Lx.lex text with
  | ok l =>
   rw [hl] at ht
   have hg := vz hl
   exact Ka ht (by have := hg.len; omega) hg.ok hg.num hg.ends
  | error e =>
   rw [hl] at ht
   have hne : (e.1 != 0) = true := bne_iff_ne.2 (DU _ _ _ _ hl)
   unfold cT
   rw [ht, ai]
   simp only [Lx.res, hne, cond_true, ue]
end Sy
end Go.Proofs.YtdhgpnejphlfpaaGreatDoor
namespace Go.Proofs.YtdhgpnejphlfpaaGreatDoor
namespace Mo
open Pa Sy
theorem Du {α : Type} {F : (Int → Option Bool) → Int → Option Bool} {s : List α} (hl : s.length < 4611686018427387904)
  (hstep : ∀ again (i : Nat) (x : α), s[i]? = some x → F again (i : Int) = again (((i + 1 : Nat) : Int))) (hend : ∀ again, F again (s.length : Int) = some true) : aj F al 0 = some true := by
 have : aj F al 0 = some (eR (fun _ _ : α => true) s s) := jM hl rfl (fun again i x y hx _ => by rw [hstep again i x hx]; rfl) hend
 rw [this]
 have e : ∀ l : List α, eR (fun _ _ : α => true) l l = true := fun l => by
  induction l with
  | nil => rfl
  | cons x l ih => simp only [eR, ih, Bool.and_self]
 rw [e]
theorem EU : ∀ (N : Nat) (a : Ex), a.sz ≤ N → a.sz < 4611686018427387904 → aj (fun k (s : Ex × Ex) => dG k s.1 s.2) N (a, a) = some true := by
 intro N
 induction N with
 | zero => intro e h; have := qg e; omega
 | succ N ih =>
  intro a h hb
  rw [ar]
  have hl := rX a
  show dG _ a a = _
  generalize aj (fun k (s : Ex × Ex) => dG k s.1 s.2) N = kk at ih ⊢
  unfold dG
  simp only [aH, bne_self_eq_false, Bool.or_self, cond_false]
  refine Du (s := a.l) (by omega) (fun again i x hx => ?_) (fun again => ?_)
  ·obtain ⟨x1, x2⟩ := c9 hx
   have := nb (List.mem_of_getElem? hx)
   have i1 := ih x (by omega) (by omega)
   simp only [iY, x1, ai, decide_eq_true (show ((i : Nat) : Int) < (a.l.length : Int) by omega), cond_true, Pa.cI (show i < 4611686018427387904 by omega), i1]
   rfl
  ·simp only [iY, decide_eq_false (show ¬ (a.l.length : Int) < (a.l.length : Int) by omega), cond_false]
theorem DJ (a : Ex) (h : a.sz < 4611686018427387904) : ea a a = some true := EU al a (by show a.sz ≤ 2 ^ 64; omega) h
theorem EY {m : Mdl} {i : Nat} {c : Cmd} (hc : m.2.2.2.2[i]? = some c) (hl : c.2.2.length < 4611686018427387904) (hs : ∀ s ∈ c.2.2, s.2.sz < 4611686018427387904) (again : Int → Option Bool) :
  ∀ (r pre : List (Int × Ex)), c.2.2 = pre ++ r → ∀ M, r.length < M → aj (fP m m (i : Int) again) M (pre.length : Int) = again (IntKind.i64.wrap ((i : Int) + 1)) := by
 obtain ⟨c1, c2⟩ := c9 hc
 intro r
 induction r with
 | nil =>
  intro pre h M hM
  obtain ⟨k, rfl⟩ : ∃ k, M = k + 1 := ⟨M - 1, by simp at hM; omega⟩
  rw [ar]
  simp only [fP, c1, ai, Sy.CM h, cond_false]
 | cons x r ih =>
  intro pre h M hM
  obtain ⟨k, rfl⟩ : ∃ k, M = k + 1 := ⟨M - 1, by omega⟩
  rw [ar]
  have hlen : pre.length < 4611686018427387904 := by rw [h] at hl; simp at hl; omega
  have ih := ih (pre ++ [x]) (by rw [h]; simp) k (by simp at hM; omega)
  rw [show ((pre ++ [x]).length : Int) = ((pre.length + 1 : Nat) : Int) by simp] at ih
  simp only [fP, c1, ai, Sy.yp h, cond_true, Sy.mid h, DJ x.2 (hs x (by rw [h]; simp)), g8 hlen, ih]
  rfl
theorem Jp {m : Mdl} (h : Sml m) : ig m m = some true := by
 unfold ig
 rw [bne_self_eq_false, cond_false]
 refine Du (s := m.2.2.2.2) h.cmds (fun again i x hx => ?_) (fun again => ?_)
 ·obtain ⟨x1, x2⟩ := c9 hx
  obtain ⟨c1, c2, c3⟩ := h.cmd x (List.mem_of_getElem? hx)
  have hcm := h.cmds
  have hp := EY hx c2 c3 again x.2.2 [] rfl al (by show _ < 2 ^ 64; omega)
  simp only [jb, x1, ai, decide_eq_true (show ((i : Nat) : Int) < (m.2.2.2.2.length : Int) by omega), cond_true, DJ x.2.1 c1, aH, Bool.not_true, Bn, bne_self_eq_false, Bool.or_self, cond_false]
  rw [Pa.cI (show i < 4611686018427387904 by omega)] at hp
  exact hp
 ·simp only [jb, decide_eq_false (show ¬ (m.2.2.2.2.length : Int) < (m.2.2.2.2.length : Int) by omega), cond_false]
theorem Hp (m : Mdl) : vT m m = true := JG (Li m)
theorem z8 (a b : Str) (_ : a.length ≤ 9223372036854775807) (_ : b.length ≤ 9223372036854775807) : fw a b = some true := by
 unfold fw
 rw [Gi, ai]
 simp only [aH]
 cases (decide (800 < (List.length a : Int)) || decide (800 < (List.length b : Int)))
 ·rw [cond_false, Ge, ai, Sy.vn, ai, Ge, ai, Sy.vn, ai]
  have s1 := Ks a
  generalize ue (qJ a) = x at s1 ⊢
  generalize ue (qJ b) = y
  simp only [bZ, Nh s1, ND s1, ai, Hp, Jp s1, beq_self_eq_true, Bool.and_self]
 ·rfl
end Mo
end Go.Proofs.YtdhgpnejphlfpaaGreatDoor
namespace Go.Proofs.YtdhgpnejphlfpaaGreatDoor
open Go.Lib Go.ChangeAt Go.ChangeShapes Go.WideShapes Go.RowKit
theorem AR {P : Program} {w : World} : ∀ (l : List (String × DataW Unit)) (ps : List MemPlace), DataW.LaidVars P w l ps → ∀ (i : Nat) (n : String) (d : DataW Unit), l[i]? = some (n, d) →
  ∃ g t cs fuel p, P.globalNamed n = some g ∧ (P.globals[g]?).map (·.type) = some t ∧ w.var? P n = some cs ∧ DataW.trod (fun _ => ()) P w 0 (fun _ => true) false fuel t cs.toList = some (d, p)
 | [], _, _, i, n, d, h => by simp at h
 | (n0, d0) :: l, ps, h, i, n, d, hi => by
  obtain ⟨g, t, cs, fuel, p, q, h1, h2, h3, h4, h5, _⟩ := h
  cases i with
  | zero =>
   simp only [List.getElem?_cons_zero, Option.some.injEq, Prod.mk.injEq] at hi
   obtain ⟨rfl, rfl⟩ := hi
   exact ⟨g, t, cs, fuel, p, h1, h2, h3, h4⟩
  | succ i => exact AR l q h5 i n d (by simpa using hi)
theorem Cu {H : Type} {enc : TypeId × Value → H} {P : Program} {w : World} {base : Nat} {sp : Nat → Bool} {held : Bool} {fuel : Nat} {t e : TypeId} {n : Nat} {cs : List Value} {zs : List Str} {p : List MemPlace}
  (ht : P.underlying t = some (.array n e)) (he : P.underlying e = some .string) (hce : P.cellsOf e = 1) (hct : P.cellsOf t = n)
  (h : DataW.trod enc P w base sp held fuel t cs = some (.agg (zs.map fun z => .lit (.string z)), p)) : cs = zs.map S := by
 cases fuel with
 | zero => simp [DataW.trod] at h
 | succ fuel =>
  simp only [DataW.trod, ht, hce, hct, Nat.mul_one] at h
  split at h
  ·rename_i hl
   obtain ⟨xs, hm, hx⟩ := Option.map_eq_some_iff.1 h
   have hxs : xs.map (·.1) = zs.map fun z => (DataW.lit (.string z) : DataW H) := by
    have := congrArg Prod.fst hx
    simpa using this
   have hxl : xs.length = n := by simpa using mapM_length hm
   have hzl : zs.length = n := by
    have := congrArg List.length hxs
    simp at this
    omega
   apply List.ext_getElem?
   intro i
   by_cases hi : i < n
   ·obtain ⟨b, hb, hf⟩ := mapM_at hm i i (by simp [hi])
    obtain ⟨z, hc, rfl, _⟩ := DataW.trod_string he hf
    have h1 : cs[i]? = some (.string z) := by
     have := congrArg (·[0]?) hc
     simpa [List.getElem?_take, List.getElem?_drop] using this
    have h2 : (xs.map (·.1))[i]? = some (DataW.lit (.string z.data.toList) : DataW H) := by simp [hb]
    rw [hxs] at h2
    simp only [List.getElem?_map, Option.map_eq_some_iff, DataW.lit.injEq, Lit.string.injEq] at h2
    obtain ⟨z', hz', hz2⟩ := h2
    subst hz2
    simp [h1, hz', S]
   ·rw [List.getElem?_eq_none (by omega), List.getElem?_eq_none (by simp; omega)]
  ·cases h
theorem Hw {P : Program} {laid : List (String × DataW Unit)} {w : World} (hf : (laid.filter fun x => x.2.handleName?.isSome) = []) (h : laidMetH P laid w) : laidMet P laid w := by
 unfold laidMetH at h
 rw [hf] at h
 exact h
theorem F0 {P : Program} {laid : List (String × DataW Unit)} {w : World} {Γ : Ctx} (h : laidMet P laid w) (i : Nat) {n : String} {zs : List Str} {g : Nat} {t e : TypeId} {k : Nat}
  (hi : laid[i]? = some (n, .agg (zs.map fun z => .lit (.string z)))) (hg : P.globalNamed n = some g) (hty : (P.globals[g]?).map (·.type) = some t)
  (ht : P.underlying t = some (.array k e)) (he : P.underlying e = some .string) (hce : P.cellsOf e = 1) (hct : P.cellsOf t = k) (hM : ¬ Γ.M g) : (gl g (zs.map S)).P Γ.M w := by
 obtain ⟨ps, hl, _⟩ := h
 obtain ⟨g', t', cs, fuel, p, hg', ht', hv, hd⟩ := AR _ _ hl i n _ hi
 obtain rfl := Option.some.inj (hg.symm.trans hg')
 obtain rfl := Option.some.inj (hty.symm.trans ht')
 have e1 := Cu ht he hce hct hd
 refine ⟨hM, ?_⟩
 unfold World.var? at hv
 rw [hg] at hv
 simp only [Option.bind_some] at hv
 split at hv
 ·rename_i c ty fr hb
  obtain rfl := Option.some.inj hv
  exact ⟨ty, fr, by rw [hb, ← e1]⟩
 ·cases hv
theorem gl_ints {P : Program} {laid : List (String × DataW Unit)} {w : World} {Γ : Ctx} (h : laidMet P laid w) (i : Nat) {n : String} {kd : IntKind} {zs : List Int} {g : Nat} {t e : TypeId} {k : Nat}
  (hi : laid[i]? = some (n, tabData kd zs)) (hg : P.globalNamed n = some g) (hty : (P.globals[g]?).map (·.type) = some t)
  (ht : P.underlying t = some (.array k e)) (he : P.underlying e = some (.int kd)) (hce : P.cellsOf e = 1) (hct : P.cellsOf t = k) (hM : ¬ Γ.M g) : (gl g (zs.map (Value.int kd))).P Γ.M w := by
 obtain ⟨ps, hl, _⟩ := h
 obtain ⟨g', t', cs, fuel, p, hg', ht', hv, hd⟩ := AR _ _ hl i n _ hi
 obtain rfl := Option.some.inj (hg.symm.trans hg')
 obtain rfl := Option.some.inj (hty.symm.trans ht')
 have e1 := cells_of_tab ht he hce hct hd
 refine ⟨hM, ?_⟩
 unfold World.var? at hv
 rw [hg] at hv
 simp only [Option.bind_some] at hv
 split at hv
 ·rename_i c ty fr hb
  obtain rfl := Option.some.inj hv
  exact ⟨ty, fr, by rw [hb, ← e1]⟩
 ·cases hv
/-! the row at the start: nothing is owned -/
def NoM (Γ : Ctx) : Prop := ∀ b, ¬ Γ.M b
theorem F7 : NoM [] := fun b h => by obtain ⟨it, h, _⟩ := h; cases h
theorem zu {it : Item} {Γ : Ctx} (hp : it.own = []) (h : NoM Γ) : NoM (it :: Γ) := fun b hb => by
 rcases Ctx.sQ.1 hb with h1 | h1
 ·rw [hp] at h1; cases h1
 ·exact h b h1
theorem Jh (w : World) : Sat [kept w (fun _ => False)] w := Sat.nil.add rfl ⟨eb.refl w, Nat.le_refl _, fun b _ _ => ⟨F7 b, rfl⟩⟩
theorem Jd (w : World) : NoM [kept w (fun _ => False)] := zu rfl F7
theorem Iz {w w' : World} {Γ : Ctx} {i : Nat} (h : Sat Γ w') (hi : Γ[i]? = some (kept w (fun _ => False))) : Below w.heap.size w w' := by
 obtain ⟨h1, h2, h3⟩ := h.kept hi
 exact ⟨h1.os, h1.tape, h1.output, h2, fun k hk => (h3 k hk (fun h => h)).2⟩
end Go.Proofs.YtdhgpnejphlfpaaGreatDoor
