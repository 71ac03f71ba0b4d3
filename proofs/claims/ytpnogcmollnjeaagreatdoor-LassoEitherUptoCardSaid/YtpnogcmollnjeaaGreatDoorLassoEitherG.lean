/-
  Own texts for the statement LassoEither, cut down to what it needs: TrRSys4, TrToks, StA, StB1, StN, SysErr, StC1, LsW, TrMay, TrFew, LsE, KFr, KFx, KArg, LsEt. (cut and joined by a program)
-/
import Derived.Test.YtpnogcmollnjeaaGreatDoorLassoEitherA
import Derived.Test.YtpnogcmollnjeaaGreatDoorLassoEitherB
import Derived.Test.YtpnogcmollnjeaaGreatDoorLassoEitherC
import Derived.Test.YtpnogcmollnjeaaGreatDoorLassoEitherD
import Derived.Test.YtpnogcmollnjeaaGreatDoorLassoEitherE
import Derived.Test.YtpnogcmollnjeaaGreatDoorLassoEitherF
import Derived.Lib.LaidTab
import Derived.Below
import Derived.WalkKit
import Derived.ProofKit
import Derived.Test.YtpnogcmollnjeaaGreatDoorRows
import Derived.Carry
import Derived.ChangeSlices
import Derived.OpenShut
namespace Go.Proofs.YtpnogcmollnjeaaGreatDoor
namespace Sy
open Pa
theorem LO : ∀ (f : Nat) (m : Mdl) (ts : List Tok) (p : Mdl × List Tok), Pa.Ends ts → fI f m ts = .ok p → cf ts p.2 := by
 intro f
 induction f with
 | zero => intro _ _ _ _ h; simp [fI] at h
 | succ f ih =>
  intro m ts p he h
  simp only [fI] at h
  cases hc : isH 3 [125] ts
  ·rw [hc] at h
   simp only [cond_false] at h
   cases h1 : gF m ts with
   | error e => rw [h1] at h; cases h
   | ok q =>
    obtain ⟨m', r⟩ := q
    rw [h1] at h
    simp only at h
    have s1 : cf ts r := (zH he h1).1
    exact s1.trans (ih m' r p s1.1 h)
  ·rw [hc] at h
   cases h
   obtain ⟨h1, h2⟩ := ic he (by decide) hc
   exact ⟨h1, by show ts.tail.length < ts.length; omega⟩
abbrev R8 := Int × List Str × List (Int × Int) × List Int × List Str × List Cmd × Int × Int
abbrev RP := Mdl × Int × Int
section
variable {l : List Tok} (hl : l.length < 1000000000) (htok : ∀ t ∈ l, dH t) (hnum : ∀ t ∈ l, oT t)
variable {st : Except Err (List Tok)} {a b p : Int} (N : List Str) (S_ : List (Int × Int)) (I : List Int) (Q : List Str)
variable (hN : N.length < 1000000000) (hQ : Q.length < 1000000000)
theorem um {C : List Cmd} (e1 e2 : Int) (again46 : R8 → Option RP) (nm : Str × Int × Int × Int) (hl : l.length < 1099511627776) (M : Nat) (h : St l st a b p) (en : Bool) (hb : ((b == 0) && !en) = false) :
  ∃ a' b' p', al (dC (l, e1, e2) Q again46 N S_ I nm) (M + 1) (a, C, b, p, en) = again46 (a', N, S_, I, Q ++ [nm.1], C, b', p') ∧ St l (aM st (aV [125])) a' b' p' := by
 obtain ⟨a', b', p', e3, s3⟩ := pn hl N S_ I (Q ++ [nm.1]) C h [125]
 rw [ao]
 simp only [dC, aN, hb, cond_false, e3, ai]
 exact ⟨_, _, _, rfl, s3⟩
include hl htok hnum hN hQ in
theorem M7 (e1 e2 : Int) (again46 : R8 → Option RP) (nm : Str × Int × Int × Int) : ∀ (n : Nat) (ts : List Tok) (C : List Cmd) (a : Int) (M f : Nat), ts.length ≤ n → n + 2 ≤ M → ts.length < f → C.length + ts.length < 1099511627776 - 1 → St l (.ok ts) a 0 0 →
  ∃ a' C' b' p', al (dC (l, e1, e2) Q again46 N S_ I nm) M (a, C, 0, 0, isH 3 [125] ts) = again46 (a', N, S_, I, Q ++ [nm.1], C', b', p') ∧
   St l (rest (fI f (N, S_, I, Q ++ [nm.1], C) ts)) a' b' p' ∧ (∀ m r, fI f (N, S_, I, Q ++ [nm.1], C) ts = .ok (m, r) → m = (N, S_, I, Q ++ [nm.1], C') ∧ C'.length + r.length < C.length + ts.length) := by
 have hQ' : (Q ++ [nm.1]).length < 1099511627776 := by simp; omega
 intro n
 induction n with
 | zero =>
  intro ts C a M f h1 _ _ _ hs
  obtain ⟨k, t, r, _, rfl, _⟩ := hs.ok
  simp at h1
 | succ n ih =>
  intro ts C a M f h1 h2 h3 h4 hs
  obtain ⟨M, rfl⟩ : ∃ m, M = m + 1 := ⟨M - 1, by omega⟩
  obtain ⟨f, rfl⟩ : ∃ m, f = m + 1 := ⟨f - 1, by omega⟩
  have hE : Pa.Ends ts := by obtain ⟨_, _, _, h, _⟩ := hs; exact h
  cases hc : isH 3 [125] ts
  · -- a command
   have hsc : fI (f + 1) (N, S_, I, Q ++ [nm.1], C) ts = (match gF (N, S_, I, Q ++ [nm.1], C) ts with | .error e => .error e | .ok (m', r) => fI f m' r) := by
    simp only [fI, hc, cond_false]
    cases gF (N, S_, I, Q ++ [nm.1], C) ts <;> rfl
   obtain ⟨a1, C1, b1, p1, e3, s1, v1⟩ := OU (by omega) htok hnum N S_ I (Q ++ [nm.1]) C (by omega) (by omega) hs
   have e4 := tT N S_ I (Q ++ [nm.1]) C1 s1 3 [125]
   rw [ao]
   simp only [dC, aN, beq_self_eq_true, Bool.not_false, Bool.and_self, cond_true, e3, ai, e4]
   cases hq : gF (N, S_, I, Q ++ [nm.1], C) ts with
   | error e =>
    have hX : aD (.ok ts) (gF (N, S_, I, Q ++ [nm.1], C)) = .error e := by simp only [aD, aM, hq, rest]
    rw [hX] at s1
    simp only [hX, isS]
    obtain ⟨M', rfl⟩ : ∃ m, M = m + 1 := ⟨M - 1, by omega⟩
    have hb1 : (b1 == 0) = false := by rw [s1.2.2.1]; exact s1.2.1
    obtain ⟨a2, b2, p2, e5, s2⟩ := um N S_ I Q (C := C1) e1 e2 again46 nm (by omega) M' s1 false (by rw [hb1]; rfl)
    rw [hsc, hq]
    exact ⟨_, _, _, _, e5, s2, fun m r h => by cases h⟩
   | ok q =>
    obtain ⟨m', r⟩ := q
    have hX : aD (.ok ts) (gF (N, S_, I, Q ++ [nm.1], C)) = .ok r := by simp only [aD, aM, hq, rest]
    rw [hX] at s1
    simp only [hX, isS]
    have hm' := v1 ts m' r rfl hq
    obtain ⟨sh, g, r1, r2, sets, r3, _, _, _, _, hp, _⟩ := zH hE hq
    have hC1 : C1 = C ++ [(IntKind.i64.wrap (((Q ++ [nm.1]).length : Int) - 1), g, sets)] := by
     simp only at hp
     rw [hm'] at hp
     simp only [Prod.mk.injEq, true_and] at hp
     exact hp
    have hC1l : C1.length = C.length + 1 := by rw [hC1]; simp
    have shr : r.length < ts.length := sh.2
    have hb1 : b1 = 0 ∧ p1 = 0 := by obtain ⟨_, _, _, _, h5, h6⟩ := s1; exact ⟨h5, h6⟩
    obtain ⟨rfl, rfl⟩ := hb1
    obtain ⟨a2, C2, b2, p2, e5, s2, v2⟩ := ih r C1 a1 M f (by omega) (by omega) (by omega) (by omega) s1
    rw [hsc, hq]
    simp only
    rw [hm']
    exact ⟨_, _, _, _, e5, s2, fun m r' h => ⟨(v2 m r' h).1, by have := (v2 m r' h).2; omega⟩⟩
  ·have hsc : fI (f + 1) (N, S_, I, Q ++ [nm.1], C) ts = .ok ((N, S_, I, Q ++ [nm.1], C), ts.tail) := by simp only [fI, hc, cond_true]
   obtain ⟨a2, b2, p2, e5, s2⟩ := um N S_ I Q (C := C) e1 e2 again46 nm (by omega) M hs true (by simp)
   rw [hsc]
   refine ⟨_, _, _, _, e5, ?_, fun m r h => by cases h; exact ⟨rfl, by have := (ic hE (by decide) hc).2; omega⟩⟩
   have : aM (.ok ts) (aV [125]) = rest (.ok ((N, S_, I, Q ++ [nm.1], C), ts.tail) : Except Err (Mdl × List Tok)) := by
    obtain ⟨t, r, rfl⟩ := hE.ne
    simp only [aM, aV, rest, List.tail_cons]
    simp only [isH] at hc
    rw [hc]; rfl
   rw [← this]; exact s2
noncomputable def Big (m : Mdl) (ts : List Tok) : Prop := m.1.length + ts.length < 1000000000 ∧ m.2.1.length + ts.length < 1000000000 ∧ m.2.2.1.length + ts.length < 1000000000 ∧ m.2.2.2.1.length + ts.length < 1000000000 ∧ m.2.2.2.2.length + ts.length < 1000000000
theorem xV {e3 e4 : Int} (e1 e2 : Int) (m : Mdl) (h : St l (.error (e3, e4)) a b p) (M : Nat) : al (cG (l, e1, e2)) (M + 1) (a, m.1, m.2.1, m.2.2.1, m.2.2.2.1, m.2.2.2.2, b, p) = some (([], [], [], [], []), e3, e4) := by
 obtain ⟨⟨t, hx⟩, he, rfl, rfl⟩ := h
 rw [ao]
 simp only at he
 have hb : (b != 0) = true := by simp only [bne, he, Bool.not_false]
 simp only [cG, aN, he, ij, Bool.false_and, cond_false, fe, aB, hx, ai, ar, hb, cond_true]
 cases ((List.length m.1 : Int) == 0) <;> rfl
include hl htok hnum in
theorem Jm (e1 e2 : Int) : ∀ (n : Nat) (ts : List Tok) (m : Mdl) (a : Int) (M f : Nat), ts.length ≤ n → n + 2 ≤ M → ts.length < f → Big m ts → St l (.ok ts) a 0 0 →
  al (cG (l, e1, e2)) M (a, m.1, m.2.1, m.2.2.1, m.2.2.2.1, m.2.2.2.2, 0, 0) = some (xj (iA f m ts)) := by
 intro n
 induction n with
 | zero =>
  intro ts m a M f h1 _ _ _ hs
  obtain ⟨k, t, r, _, rfl, _⟩ := hs.ok
  simp at h1
 | succ n ih =>
  intro ts m a M f h1 h2 h3 hB hs
  obtain ⟨M, rfl⟩ : ∃ m, M = m + 1 := ⟨M - 1, by omega⟩
  obtain ⟨f, rfl⟩ : ∃ m, f = m + 1 := ⟨f - 1, by omega⟩
  obtain ⟨k, t, r, rfl, rfl, hd, he, _, _, hx, hm, hd1, hk⟩ := hs.ok
  obtain ⟨N, S_, I, Q, C⟩ := m
  obtain ⟨B1, B2, B3, B4, B5⟩ := hB
  simp only [List.length_cons] at B1 B2 B3 B4 B5 h1 h3
  have iv := tT N S_ I Q C hs 1 [118, 97, 114]
  have ip := tT N S_ I Q C hs 1 [112, 114, 111, 99]
  rw [ao]
  generalize hag : al (cG (l, e1, e2)) M = again
  simp only [cG, aN, beq_self_eq_true, cZ, hx, ai, Bool.true_and]
  have hsi : iA (f + 1) (N, S_, I, Q, C) (t :: r) = (bif t.1 == 4 then (bif N.isEmpty then .error (2, t.2.2.2) else .ok (N, S_, I, Q, C))
   else bif isT 1 [118, 97, 114] t then (match jd (N, S_, I, Q, C) r with
    | .error e => .error e
    | .ok (m', r') => iA f m' r')
   else bif isT 1 [112, 114, 111, 99] t then (match kN (N, S_, I, Q, C) r with
    | .error e => .error e
    | .ok (m', r') => iA f m' r')
   else .error (2, t.2.2.2)) := by
   simp only [iA]
   cases jd (N, S_, I, Q, C) r <;> cases kN (N, S_, I, Q, C) r <;> rfl
  cases c4 : (t.1 == 4)
  case true =>
   have c4' : (t.1 != 4) = false := by simp only [bne, c4, Bool.not_true]
   rw [hsi, c4]
   simp only [c4', cond_false, cond_true]
   have hne : ((List.length N : Int) == 0) = N.isEmpty := by cases N with
    | nil => rfl
    | cons x r => simp only [List.length_cons, List.isEmpty_cons]; exact beq_eq_false_iff_ne.2 (by omega)
   rw [hne]
   cases N.isEmpty
   ·simp only [cond_false, fe, bne_self_eq_false, xj]
   ·simp only [cond_true, aB, hx, ai, jZ, fe, xj]; rfl
  have c4' : (t.1 != 4) = true := by simp only [bne, c4, Bool.not_false]
  simp only [isS, isH] at iv ip
  simp only [c4', cond_true, iv, ip, ai]
  have hE1 : Pa.Ends r := he.tail (by simpa using c4)
  have hs1 : St l (.ok r) ((k + 1 : Nat) : Int) 0 0 := ⟨k + 1, rfl, hd1, hE1, rfl, rfl⟩
  have wk : IntKind.i64.wrap ((k : Int) + 1) = ((k + 1 : Nat) : Int) := bV (by omega)
  obtain ⟨M', hM'⟩ : ∃ m, M = m + 1 := ⟨M - 1, by omega⟩
  cases cv : isT 1 [118, 97, 114] t
  ·cases cp : isT 1 [112, 114, 111, 99] t
   · -- neither
    rw [hsi, c4, cv, cp]
    simp only [cond_false, Bool.not_false, Bool.and_self, cond_true, aB, hx, ai, jZ, fa, show ((2 : Int) == 0) = false from rfl, eY, eX, aN]
    rw [← hag, hM']
    exact xV (e3 := 2) (e4 := t.2.2.2) e1 e2 (N, S_, I, Q, C) ⟨⟨t, hx⟩, rfl, rfl, rfl⟩ M'
   · -- a process
    rw [hsi, c4, cv, cp]
    simp only [cond_false, Bool.not_true, Bool.not_false, Bool.and_false, cond_true, fa, beq_self_eq_true, eY, eX, wk, aN]
    obtain ⟨nm, a1, b1, p1, e3, s1, v1⟩ := E9 (by omega) N S_ I Q C hs1 (by omega) (by omega) false
    have k1 : aA (List.length Q + List.length ([nm] : List Str)) 16 = true := eP (by simp; omega) (by simp; omega)
    obtain ⟨a2, b2, p2, e4, s2⟩ := pn (by omega) N S_ I (Q ++ [nm]) C s1 [123]
    have e5 := tT N S_ I (Q ++ [nm]) C s2 3 [125]
    simp only [e3, ai, fP k1, e4, e5]
    cases hq : aM (aD (.ok r) (cN false N Q)) (aV [123]) with
    | error e =>
     rw [hq] at s2
     have hb1 : (b2 == 0) = false := by rw [s2.2.2.1]; exact s2.2.1
     obtain ⟨a3, b3, p3, e6, s3⟩ := um N S_ I Q (C := C) e1 e2 again (nm, a1, b1, p1) (by omega) 18446744073709551615 s2 false (by rw [hb1]; rfl)
     simp only [isS]
     rw [show aq = 18446744073709551615 + 1 from rfl, e6]
     have hp : kN (N, S_, I, Q, C) r = .error e := by
      simp only [kN]
      simp only [aD, aM] at hq
      cases q1 : cN false N Q r with
      | error e' => rw [q1] at hq; simp only [rest] at hq ⊢; cases hq; rfl
      | ok q =>
       rw [q1] at hq; simp only [rest] at hq ⊢
       rw [hq]
     rw [hp]
     simp only [aM] at s3
     obtain ⟨ee1, ee2⟩ := e
     rw [← hag, hM']
     exact xV e1 e2 (N, S_, I, Q ++ [nm], C) s3 M'
    | ok r2 =>
     rw [hq] at s2
     obtain ⟨r1, hr1, hr2⟩ : ∃ r1, cN false N Q r = .ok (nm, r1) ∧ aV [123] r1 = .ok r2 := by
      simp only [aD, aM] at hq
      cases q1 : cN false N Q r with
      | error e' => rw [q1] at hq; cases hq
      | ok q =>
       obtain ⟨nm', r1⟩ := q
       rw [q1] at hq; simp only [rest] at hq
       have := v1 r nm' r1 rfl q1
       subst this
       exact ⟨r1, rfl, hq⟩
     have hb : b2 = 0 ∧ p2 = 0 := by obtain ⟨_, _, _, _, h5, h6⟩ := s2; exact ⟨h5, h6⟩
     obtain ⟨rfl, rfl⟩ := hb
     have sh1 := (wV hE1 hr1).1
     have sh2 := ga sh1.1 hr2
     have l1 : r1.length < r.length := sh1.2
     have l2 : r2.length < r1.length := sh2.2
     have hp : kN (N, S_, I, Q, C) r = fI (r2.length + 1) (N, S_, I, Q ++ [nm], C) r2 := by simp only [kN, hr1, hr2]
     have hle : r2.length ≤ l.length := by obtain ⟨k2, _, h, _⟩ := s2; rw [← h]; simp
     obtain ⟨a3, C3, b3, p3, e6, s3, v3⟩ := M7 hl htok hnum N S_ I Q (by omega) (by omega) e1 e2 again (nm, a1, b1, p1) r2.length r2 C a2 aq (r2.length + 1) (Nat.le_refl _) (by show _ ≤ 2 ^ 64; omega) (by omega) (by omega) s2
     simp only [isS]
     rw [e6, hp]
     cases hcm : fI (r2.length + 1) (N, S_, I, Q ++ [nm], C) r2 with
     | error e =>
      rw [hcm] at s3
      simp only [rest] at s3
      obtain ⟨ee1, ee2⟩ := e
      rw [← hag, hM']
      exact xV e1 e2 (N, S_, I, Q ++ [nm], C3) s3 M'
     | ok q =>
      obtain ⟨m', r'⟩ := q
      rw [hcm] at s3
      simp only [rest] at s3
      obtain ⟨hm', hlen⟩ := v3 m' r' hcm
      have sh3 := LO _ _ _ _ sh2.1 hcm
      have l3 : r'.length < r2.length := sh3.2
      have hb : b3 = 0 ∧ p3 = 0 := by obtain ⟨_, _, _, _, h5, h6⟩ := s3; exact ⟨h5, h6⟩
      obtain ⟨rfl, rfl⟩ := hb
      simp only
      rw [← hag, hm']
      have hQl : (Q ++ [nm]).length = Q.length + 1 := by simp
      exact ih r' (N, S_, I, Q ++ [nm], C3) a3 M f (by omega) (by omega) (by omega) ⟨by simp only; omega, by simp only; omega, by simp only; omega, by simp only; omega, by simp only; omega⟩ s3
  · -- a variable
   have cp : isT 1 [112, 114, 111, 99] t = false := by
    unfold isT at cv ⊢
    simp only [Bool.and_eq_true, beq_iff_eq] at cv
    rw [cv.2]
    simp
   rw [hsi, c4, cv]
   simp only [cond_false, Bool.not_true, Bool.false_and, cond_true, fa, beq_self_eq_true, eY, cp, wk, aN]
   obtain ⟨a1, N', S', I', b1, p1, e3, s1, v1⟩ := Pn (by omega) N S_ I Q C (by omega) (by omega) (by omega) (by omega) hs1
   simp only [e3, ai, eX, cond_false]
   cases hq : jd (N, S_, I, Q, C) r with
   | error e =>
    simp only [aD, aM, hq, rest] at s1
    obtain ⟨ee1, ee2⟩ := e
    rw [← hag, hM']
    exact xV e1 e2 (N', S', I', Q, C) s1 M'
   | ok q =>
    obtain ⟨m', r'⟩ := q
    simp only [aD, aM, hq, rest] at s1
    have hm' := v1 r m' r' rfl hq
    obtain ⟨sh, name, lo, hi, first, hp, _⟩ := Fk hE1 hq
    have l1 : r'.length < r.length := sh.2
    have hb : b1 = 0 ∧ p1 = 0 := by obtain ⟨_, _, _, _, h5, h6⟩ := s1; exact ⟨h5, h6⟩
    obtain ⟨rfl, rfl⟩ := hb
    simp only
    simp only at hp
    rw [hm'] at hp
    simp only [Prod.mk.injEq, and_true] at hp
    obtain ⟨hp1, hp2, hp3⟩ := hp
    have q1 : N'.length = N.length + 1 := by rw [hp1]; simp
    have q2 : S'.length = S_.length + 1 := by rw [hp2]; simp
    have q3 : I'.length = I.length + 1 := by rw [hp3]; simp
    rw [← hag, hm']
    exact ih r' (N', S', I', Q, C) a1 M f (by omega) (by omega) (by omega) ⟨by simp only; omega, by simp only; omega, by simp only; omega, by simp only; omega, by simp only; omega⟩ s1
end
theorem JX {text : Str} {l : List Tok} (ht : dk text = some (l, 0, 0)) (hl : l.length < 500000000) (htok : ∀ t ∈ l, dH t) (hnum : ∀ t ∈ l, oT t) (he : Pa.Ends l) :
  cJ text = some (xj (sys l)) := by
 unfold cJ
 rw [ht, ai]
 simp only [bne_self_eq_false, cond_false]
 exact Jm (by omega) htok hnum 0 0 l.length l ([], [], [], [], []) 0 aq (l.length + 1) (Nat.le_refl _) (by show _ ≤ 2 ^ 64; omega) (by omega) ⟨by simp; omega, by simp; omega, by simp; omega, by simp; omega, by simp; omega⟩ ⟨0, rfl, rfl, he, rfl, rfl⟩
end Sy
end Go.Proofs.YtpnogcmollnjeaaGreatDoor
namespace Go.Proofs.YtpnogcmollnjeaaGreatDoor
namespace Sy
open Pa
theorem J6 (text : Str) : cJ text = some (xj (wT text)) := by
 unfold wT
 by_cases h : 65536 < text.length
 ·rw [if_pos h]
  unfold cJ
  rw [Lx.uh]
  unfold Lx.tokens
  rw [if_pos h]
  rfl
 ·rw [if_neg h]
  have ht : dk text = some (Lx.res (Lx.lex text)) := by rw [Lx.uh, Lx.Gn (by omega)]
  cases hl : Lx.lex text with
  | ok l =>
   rw [hl] at ht
   have hg := Ch hl
   exact JX ht (by have := hg.len; omega) hg.ok hg.num hg.ends
  | error e =>
   rw [hl] at ht
   have hne : (e.1 != 0) = true := bne_iff_ne.2 (CZ _ _ _ _ hl)
   unfold cJ
   rw [ht, ai]
   simp only [Lx.res, hne, cond_true, xj]
end Sy
end Go.Proofs.YtpnogcmollnjeaaGreatDoor
namespace Go.Proofs.YtpnogcmollnjeaaGreatDoor
namespace Sp
theorem Fe (d : Nat) (h : d < 10) : Lx.dig (UInt8.ofNat (48 + d)) = d ∧ Lx.isDigit (UInt8.ofNat (48 + d)) = true := by
 have : d = 0 ∨ d = 1 ∨ d = 2 ∨ d = 3 ∨ d = 4 ∨ d = 5 ∨ d = 6 ∨ d = 7 ∨ d = 8 ∨ d = 9 := by omega
 rcases this with rfl | rfl | rfl | rfl | rfl | rfl | rfl | rfl | rfl | rfl <;> exact ⟨rfl, rfl⟩
theorem xF : ∀ (N n : Nat), n ≤ N → Lx.df 0 (Lib.decDigits n) = n ∧ (Lib.decDigits n).all Lx.isDigit = true ∧ Lib.decDigits n ≠ [] := by
 intro N
 induction N with
 | zero =>
  intro n h
  obtain rfl : n = 0 := by omega
  rw [Lib.decDigits, dif_pos (by omega)]
  exact ⟨rfl, rfl, by simp⟩
 | succ N ih =>
  intro n h
  rw [Lib.decDigits]
  split
  ·rename_i hn
   obtain ⟨h1, h2⟩ := Fe n hn
   refine ⟨?_, by simp only [List.all_cons, h2, List.all_nil, Bool.and_self], by simp⟩
   show 10 * 0 + Lx.dig (UInt8.ofNat (48 + n)) = n
   rw [h1]; omega
  ·rename_i hn
   obtain ⟨h1, h2⟩ := Fe (n % 10) (by omega)
   obtain ⟨i1, i2, _⟩ := ih (n / 10) (by omega)
   refine ⟨?_, by simp only [List.all_append, i2, List.all_cons, h2, List.all_nil, Bool.and_self], by simp⟩
   unfold Lx.df at *
   rw [List.foldl_append, i1]
   show 10 * ((n / 10 : Nat) : Int) + Lx.dig (UInt8.ofNat (48 + n % 10)) = n
   rw [h1]; omega
theorem EV {m n : Nat} (h : Lib.decDigits m = Lib.decDigits n) : m = n := by
 have h1 := (xF m m (Nat.le_refl _)).1
 have h2 := (xF n n (Nat.le_refl _)).1
 rw [h, h2] at h1
 omega
theorem xm {c : UInt8} (h : Lx.isDigit c = true) : c ≠ 45 ∧ c ≠ 32 := by
 constructor <;> (intro e; subst e; cases h)
theorem z7 (n : Nat) : ∀ c ∈ Lib.decDigits n, Lx.isDigit c = true := fun c hc => List.all_eq_true.1 (xF n n (Nat.le_refl _)).2.1 c hc
theorem KO {x y : Int} (h : Lib.itoa x = Lib.itoa y) : x = y := by
 have hh : ∀ (m n : Nat), Lib.decDigits m ≠ 45 :: Lib.decDigits n := fun m n e => by
  have := z7 m 45 (by rw [e]; simp)
  exact (xm this).1 rfl
 unfold Lib.itoa at h
 split at h <;> split at h
 ·have := EV (List.cons.inj h).2
  omega
 ·exact absurd h.symm (hh _ _)
 ·exact absurd h (hh _ _)
 ·have := EV h
  omega
theorem AQ (x : Int) : ∀ c ∈ Lib.itoa x, c ≠ 32 := by
 intro c hc
 unfold Lib.itoa at hc
 split at hc
 ·rcases List.mem_cons.1 hc with rfl | hc
  ·decide
  ·exact (xm (z7 _ c hc)).2
 ·exact (xm (z7 _ c hc)).2
theorem ry : ∀ (k u : Nat), u < 10 ^ (k + 1) → Lib.nDigits u ≤ k + 1
 | 0, u, h => by rw [Lib.nDigits_small (by simpa using h)]; omega
 | k + 1, u, h => by
  by_cases hu : u < 10
  ·rw [Lib.nDigits_small hu]; omega
  ·rw [Lib.nDigits_big hu]
   have := ry k (u / 10) (by rw [Nat.div_lt_iff_lt_mul (by omega), ← Nat.pow_succ]; exact h)
   omega
theorem Ai {n : Int} (h0 : -9223372036854775808 ≤ n) (h1 : n ≤ 9223372036854775807) : (Lib.itoa n).length ≤ 20 := by
 unfold Lib.itoa
 split
 ·rw [List.length_cons, Lib.decDigits_length]
  have := ry 18 n.natAbs (by omega)
  omega
 ·rw [Lib.decDigits_length]
  have := ry 18 n.toNat (by omega)
  omega
noncomputable def da (v : List Int) : Str := v.flatMap fun n => Lib.itoa n ++ [32]
theorem MA {a b r s : Str} (ha : ∀ c ∈ a, c ≠ 32) (hb : ∀ c ∈ b, c ≠ 32) (h : a ++ 32 :: r = b ++ 32 :: s) : a = b ∧ r = s := by
 induction a generalizing b with
 | nil =>
  cases b with
  | nil => simp only [List.nil_append, List.cons.injEq, true_and] at h; exact ⟨rfl, h⟩
  | cons c b => simp only [List.nil_append, List.cons_append, List.cons.injEq] at h; exact absurd h.1.symm (hb c (by simp))
 | cons c a ih =>
  cases b with
  | nil => simp only [List.nil_append, List.cons_append, List.cons.injEq] at h; exact absurd h.1 (ha c (by simp))
  | cons d b =>
   simp only [List.cons_append, List.cons.injEq] at h
   obtain ⟨rfl, h⟩ := h
   obtain ⟨rfl, h2⟩ := ih (fun c hc => ha c (List.mem_cons_of_mem _ hc)) (fun c hc => hb c (List.mem_cons_of_mem _ hc)) h
   exact ⟨rfl, h2⟩
theorem De : ∀ {a b : List Int}, da a = da b → a = b
 | [], [], _ => rfl
 | [], y :: b, h => by
  simp only [da, List.flatMap_nil, List.flatMap_cons] at h
  have := congrArg List.length h
  simp at this
 | x :: a, [], h => by
  simp only [da, List.flatMap_nil, List.flatMap_cons] at h
  have := congrArg List.length h
  simp at this
 | x :: a, y :: b, h => by
  simp only [da, List.flatMap_cons, List.append_assoc, List.singleton_append] at h
  obtain ⟨h1, h2⟩ := MA (AQ x) (AQ y) h
  rw [KO h1, De h2]
theorem Je (a b : List Int) : da (a ++ b) = da a ++ da b := by simp [da]
theorem A9 (s : Str) : strOf (bytesOf s) = s := by
 induction s with
 | nil => rfl
 | cons c s ih =>
  simp only [strOf, bytesOf, List.map_cons, List.map_map] at ih ⊢
  rw [ih]; simp
theorem wG (a b : Str) : bytesOf (a ++ b) = bytesOf a ++ bytesOf b := by simp [bytesOf]
theorem nF (s : Str) : (bytesOf s).length = s.length := by simp [bytesOf]
noncomputable def I64 (v : List Int) : Prop := ∀ n ∈ v, -9223372036854775808 ≤ n ∧ n ≤ 9223372036854775807
theorem KJ {v : List Int} (h : I64 v) : (da v).length ≤ 21 * v.length := by
 induction v with
 | nil => simp [da]
 | cons n v ih =>
  have h1 := h n (by simp)
  have := Ai h1.1 h1.2
  have := ih (fun m hm => h m (List.mem_cons_of_mem _ hm))
  simp only [da, List.flatMap_cons, List.length_append, List.length_cons, List.length_nil] at *
  omega
theorem copy_eq (f : Bool) (l : List Int) : dV f l = some true := by cases f <;> rfl
theorem Pu {s : Str} {l : List Int} (f : Bool) (h : l.length + s.length ≤ 140737488355328) : dz s f l = some ((s.length : Int), true, l ++ bytesOf s) := by
 unfold dz
 rw [copy_eq, ai, Sy.fP (Sy.eP (by omega) (by omega))]
theorem Pq {l : List Int} (c : Int) (f : Bool) (h : l.length + 1 ≤ 140737488355328) : dQ c f l = some (true, l ++ [c]) := by
 unfold dQ
 rw [copy_eq, ai, Sy.fP (Sy.eP (by simp; omega) (by simp; omega))]
theorem IY (f : Bool) {s : Str} (h : bytesOf s ≠ []) : fc f (bytesOf s) = some s := by
 have e : strOf (bytesOf s) = s := A9 s
 cases hb : bytesOf s with
 | nil => exact absurd hb h
 | cons c l =>
  rw [hb] at e
  unfold fc
  rw [show idx (c :: l) 0 = some c from rfl, ai, Sy.fP (by simp), e]
theorem O6 {x : Int} (h : zm x = true) : BD x = some (Lib.itoa x) := Sy.fP h _
theorem Ax (v : List Int) (hv : I64 v) (hl : v.length < 1000000000) (hne : v ≠ []) : ∀ (r pre : List Int), v = pre ++ r → ∀ (M : Nat) (f : Bool), r.length < M →
  al (mg v) M (f, bytesOf (da pre), (pre.length : Int)) = some (da v)
 | [], pre, h, M, f, hM => by
  obtain ⟨m, rfl⟩ : ∃ m, M = m + 1 := ⟨M - 1, by simp at hM; omega⟩
  rw [ao]
  have e : pre = v := by simpa using h.symm
  subst e
  simp only [mg, decide_eq_false (show ¬ ((pre.length : Int) < (List.length pre : Int)) by omega), cond_false]
  rw [IY, ai]
  cases pre with
  | nil => exact absurd rfl hne
  | cons x r =>
   intro e
   have : (bytesOf (da (x :: r))).length ≠ 0 := by rw [nF]; simp [da]
   rw [e] at this
   exact this rfl
 | x :: r, pre, h, M, f, hM => by
  obtain ⟨m, rfl⟩ : ∃ m, M = m + 1 := ⟨M - 1, by omega⟩
  rw [ao]
  have hx := hv x (by rw [h]; simp)
  have hlen : pre.length + r.length + 1 = v.length := by rw [h]; simp; omega
  have hi : zm x = true := B6.2 hx
  have hp : I64 pre := fun n hn => hv n (by rw [h]; exact List.mem_append_left _ hn)
  have hb := KJ hp
  have hxl := Ai hx.1 hx.2
  have ih := Ax v hv hl hne r (pre ++ [x]) (by rw [h]; simp) m true (by simp at hM; omega)
  rw [show ((pre ++ [x]).length : Int) = ((pre.length + 1 : Nat) : Int) by simp] at ih
  have e1 : bytesOf (da (pre ++ [x])) = (bytesOf (da pre) ++ bytesOf (Lib.itoa x)) ++ [32] := by
   rw [Je, wG]
   simp only [da, List.flatMap_cons, List.flatMap_nil, List.append_nil, wG, List.append_assoc]
   rfl
  rw [e1] at ih
  simp only [mg, Sy.ix h, cond_true, Sy.mid h, ai, O6 hi]
  rw [Pu f (by rw [nF]; omega), ai]
  simp only
  rw [Pq 32 true (by rw [List.length_append, nF, nF]; omega), ai]
  simp only [Pa.bV (show pre.length < 4611686018427387904 by omega)]
  exact ih
theorem Mi {v : List Int} (hv : I64 v) (hl : v.length < 1000000000) (hne : v ≠ []) : uE v = some (da v) :=
 Ax v hv hl hne v [] rfl aq false (by show v.length < 2 ^ 64; omega)
/-! sets of states -/
noncomputable def np (l : List (List Int)) (v : List Int) : List (List Int) := if l.contains v then l else l ++ [v]
noncomputable def q9 (acc l : List (List Int)) : List (List Int) := l.foldl np acc
noncomputable def Seen (l : List (List Int)) (at_ : Option (List (Str × Bool))) : Prop := (at_ = none → l = []) ∧ ∀ v, kM at_ (da v) false = l.contains v
theorem Jn : Seen [] none := ⟨fun _ => rfl, fun _v => rfl⟩
theorem Ij (l : List (Str × Bool)) (k k' : Str) : (mA (l6 l k true) k').getD false = ((k' == k) || (mA l k').getD false) := by
 induction l with
 | nil =>
  simp only [l6, mA]
  cases hk : (k' == k) <;> rfl
 | cons p l ih =>
  simp only [l6]
  cases h1 : (k == p.1)
  ·simp only [cond_false, mA]
   cases h2 : (k' == p.1)
   ·simp only [cond_false]; exact ih
   ·simp only [cond_true]
    have e1 : k' = p.1 := by simpa using h2
    have e2 : (k' == k) = false := by
     rw [beq_eq_false_iff_ne] at h1 ⊢
     intro e; exact h1 (by rw [← e, e1])
    rw [e2, Bool.false_or]
  ·simp only [cond_true, mA]
   have e1 : k = p.1 := by simpa using h1
   cases h2 : (k' == k)
   ·simp only [cond_false, Bool.false_or]
    have : (k' == p.1) = false := by rw [← e1]; exact h2
    rw [this]; rfl
   ·rfl
theorem add_eq {v : List Int} {l : List (List Int)} {at_ : Option (List (Str × Bool))} (hv : I64 v) (hl : v.length < 1000000000) (hne : v ≠ []) (hll : l.length < 1000000000) (hs : Seen l at_) :
  ∃ at', fv v l at_ = some (np l v, at') ∧ Seen (np l v) at' := by
 have k1 : aA (List.length l + List.length ([v] : List (List Int))) 24 = true := Sy.eP (by simp; omega) (by simp; omega)
 have key : ∀ mp : List (Str × Bool), Seen l (some mp) → ∃ at', la v l (some mp) = some (np l v, at') ∧ Seen (np l v) at' := fun mp hs => by
  unfold la
  rw [Mi hv hl hne, ai, hs.2 v]
  unfold np
  cases hc : l.contains v
  ·simp only [Bool.not_false, cond_true, ai, Sy.fP k1, Bool.false_eq_true, if_false]
   refine ⟨_, rfl, (fun h => by cases h), fun u => ?_⟩
   have h1 := hs.2 u
   unfold kM at h1 ⊢
   simp only [Option.getD_some] at h1 ⊢
   rw [Ij, h1]
   have e : (da u == da v) = (u == v) := by
    by_cases h : u = v
    ·rw [h]; simp
    ·rw [beq_eq_false_iff_ne.2 h, beq_eq_false_iff_ne.2 (fun e => h (De e))]
   rw [e]
   simp only [List.contains_eq_any_beq, List.any_append, List.any_cons, List.any_nil, Bool.or_false]
   rw [Bool.or_comm]
  ·simp only [Bool.not_true, cond_false, if_true]
   exact ⟨_, rfl, hs⟩
 unfold fv
 cases at_ with
 | none =>
  simp only [Option.isNone_none, cond_true]
  refine key [] ⟨(fun h => by cases h), fun u => ?_⟩
  exact hs.2 u
 | some mp =>
  simp only [Option.isNone_some, cond_false]
  exact key mp hs
theorem Cf (l : List (List Int)) (v : List Int) : (np l v).length ≤ l.length + 1 := by
 unfold np; split <;> simp
theorem Lf {l : List (List Int)} {v u : List Int} : u ∈ np l v ↔ u ∈ l ∨ u = v := by
 unfold np
 split
 ·rename_i h
  have : v ∈ l := by simpa using h
  constructor
  ·exact .inl
  ·rintro (h | rfl)
   ·exact h
   ·exact this
 ·simp
theorem CI : ∀ (m l : List (List Int)), (q9 l m).length ≤ l.length + m.length
 | [], l => by simp [q9]
 | v :: m, l => by
  have := CI m (np l v)
  have := Cf l v
  simp only [q9, List.foldl_cons, List.length_cons] at *
  omega
theorem Cy {u : List Int} : ∀ {m l : List (List Int)}, u ∈ q9 l m ↔ u ∈ l ∨ u ∈ m
 | [], l => by simp [q9]
 | v :: m, l => by
  have := Cy (u := u) (m := m) (l := np l v)
  simp only [q9, List.foldl_cons] at *
  rw [this, Lf]
  simp only [List.mem_cons]
  constructor
  ·rintro ((h | h) | h)
   ·exact .inl h
   ·exact .inr (.inl h)
   ·exact .inr (.inr h)
  ·rintro (h | h | h)
   ·exact .inl (.inl h)
   ·exact .inl (.inr h)
   ·exact .inr h
end Sp
end Go.Proofs.YtpnogcmollnjeaaGreatDoor
namespace Go.Proofs.YtpnogcmollnjeaaGreatDoor
namespace Sp
noncomputable def fits : List (Int × Int) → List Int → Bool
 | s :: S, n :: w => (decide (s.1 ≤ n) && decide (n ≤ s.2)) && fits S w
 | _, _ => true
noncomputable def zz (v w : List Int) (s : Int × Ex) : List Int := w.set s.1.toNat (ev v s.2)
noncomputable def G0 (v : List Int) (c : Sy.Cmd) : List Int := c.2.2.foldl (zz v) v
theorem DG (v w : List Int) (s : Int × Ex) : (zz v w s).length = w.length := by simp [zz]
theorem Ar (v : List Int) : ∀ (l : List (Int × Ex)) (w : List Int), (l.foldl (zz v) w).length = w.length
 | [], w => rfl
 | s :: l, w => by rw [List.foldl_cons, Ar v l, DG]
theorem Io (v : List Int) (c : Sy.Cmd) : (G0 v c).length = v.length := Ar _ _ _
noncomputable def fin (S : List (Int × Int)) (w : List Int) : List Int × Int := bif fits S w then (w, 0) else ([], 6)
noncomputable def enI (v : List Int) : Nat → List Sy.Cmd → List Int
 | _, [] => []
 | k, c :: r => if ev v c.2.1 = 1 then (k : Int) :: enI v (k + 1) r else enI v (k + 1) r
noncomputable def enC (v : List Int) (l : List Sy.Cmd) : List Sy.Cmd := l.filter fun c => decide (ev v c.2.1 = 1)
noncomputable def gJ (cmds : List Sy.Cmd) (v : List Int) (i : Int) : List Int := match cmds[i.toNat]? with | some c => G0 v c | none => v
noncomputable def Ht (S : List (Int × Int)) (cmds : List Sy.Cmd) (v : List Int) (k : Int) : List Int × Int :=
 if k < 0 ∨ (cmds.length : Int) ≤ k then ([], 10) else fin S (gJ cmds v k)
noncomputable def goes (v : List Int) (cmds : List Sy.Cmd) : List (List Int) := (enC v cmds).map (G0 v)
noncomputable def Ha (S : List (Int × Int)) (v : List Int) (ws : List (List Int)) : List (List Int) × Int :=
 if ws = [] then ([v], 0) else bif ws.all (fits S) then (q9 [] ws, 0) else ([], 6)
noncomputable def sJ (S : List (Int × Int)) (cmds : List Sy.Cmd) (v : List Int) : List (List Int) × Int := Ha S v (goes v cmds)
structure jI (S : List (Int × Int)) (C : List Sy.Cmd) : Prop where
 pos : 1 ≤ S.length
 few : S.length ≤ 16
 field : ∀ f ∈ S, Sy.vF f
 cmds : C.length ≤ 300
 guard : ∀ c ∈ C, c.2.1.sz < 1000000
 sets : ∀ c ∈ C, c.2.2.length ≤ 65537 ∧ ∀ s ∈ c.2.2, 0 ≤ s.1 ∧ s.1 < S.length ∧ s.2.sz < 1000000
structure InS (S : List (Int × Int)) (v : List Int) : Prop where
 len : v.length = S.length
 fit : fits S v = true
theorem BT : ∀ {S : List (Int × Int)} {v : List Int}, v.length = S.length → (∀ f ∈ S, Sy.vF f) → fits S v = true → I64 v
 | [], [], _, _, _ => fun n hn => by cases hn
 | [], _ :: _, h, _, _ => by simp at h
 | _ :: _, [], h, _, _ => by simp at h
 | s :: S, x :: w, h, hS, hf => by
  simp only [fits, Bool.and_eq_true, decide_eq_true_eq] at hf
  have h1 := hS s (by simp)
  intro n hn
  rcases List.mem_cons.1 hn with rfl | hn
  ·have := h1.lo; have := h1.hi; omega
  ·exact BT (by simpa using h) (fun f hf => hS f (List.mem_cons_of_mem _ hf)) hf.2 n hn
theorem InS.i64 {S : List (Int × Int)} {cmds : List Sy.Cmd} {v : List Int} (h : InS S v) (hs : jI S cmds) : I64 v := BT h.len hs.field h.fit
theorem InS.ne {S : List (Int × Int)} {cmds : List Sy.Cmd} {v : List Int} (h : InS S v) (hs : jI S cmds) : v ≠ [] := fun e => by
 have := h.len; have := hs.pos; subst e; simp at *; omega
theorem InS.short {S : List (Int × Int)} {cmds : List Sy.Cmd} {v : List Int} (h : InS S v) (hs : jI S cmds) : v.length < 1000000000 := by
 have := h.len; have := hs.few; omega
/-! within the ranges -/
theorem Pj (s : Int × Int) (n : Int) : jD s n = some (decide (s.1 ≤ n) && decide (n ≤ s.2)) := rfl
theorem Fp (S : List (Int × Int)) (w : List Int) : ∀ (r pre : List Int) (rs ps : List (Int × Int)), w = pre ++ r → S = ps ++ rs → ps.length = pre.length → rs.length = r.length → w.length < 1000 →
  ∀ M, r.length < M → al (jA S w) M (pre.length : Int) = some (bif fits rs r then 0 else 5)
 | [], pre, rs, ps, h, hS, hl, hr, hw, M, hM => by
  obtain ⟨m, rfl⟩ : ∃ m, M = m + 1 := ⟨M - 1, by simp at hM; omega⟩
  rw [ao]
  simp only [jA, Sy.kb h, cond_false]
  have : rs = [] := List.eq_nil_of_length_eq_zero hr
  subst this; rfl
 | x :: r, pre, [], ps, h, hS, hl, hr, hw, M, hM => by simp at hr
 | x :: r, pre, s :: rs, ps, h, hS, hl, hr, hw, M, hM => by
  obtain ⟨m, rfl⟩ : ∃ m, M = m + 1 := ⟨M - 1, by omega⟩
  rw [ao]
  have e1 : idx S (pre.length : Int) = some s := by rw [← hl]; exact Sy.mid hS
  have hlen : pre.length + r.length + 1 = w.length := by rw [h]; simp; omega
  have ih := Fp S w r (pre ++ [x]) rs (ps ++ [s]) (by rw [h]; simp) (by rw [hS]; simp) (by simp; omega) (by simpa using hr) hw m (by simp at hM; omega)
  rw [show ((pre ++ [x]).length : Int) = ((pre.length + 1 : Nat) : Int) by simp] at ih
  simp only [jA, Sy.ix h, cond_true, Sy.mid h, ai, e1, Pj, Pa.bV (show pre.length < 4611686018427387904 by omega), ih, fits]
  cases h1 : (decide (s.1 ≤ x) && decide (x ≤ s.2))
  ·rfl
  ·simp only [Bool.not_true, cond_false, Bool.true_and]
theorem Mh (S : List (Int × Int)) (w : List Int) (hl : w.length = S.length) (hw : w.length < 1000) : gh S w = some (bif fits S w then 0 else 5) := by
 unfold gh
 rw [show ((List.length w : Int) != (List.length S : Int)) = false by rw [hl]; simp, cond_false]
 exact Fp S w w [] S [] rfl rfl rfl hl.symm hw aq (by show w.length < 2 ^ 64; omega)
/-! a fired command -/
theorem D6 {α : Type} (l : List α) (i : Int) (h0 : 0 ≤ i) (h1 : i < l.length) : ∃ x, idx l i = some x ∧ l[i.toNat]? = some x := by
 have h : i.toNat < l.length := by omega
 refine ⟨l[i.toNat], ?_, List.getElem?_eq_getElem h⟩
 unfold idx
 rw [if_pos h0]
 exact List.getElem?_eq_getElem h
theorem As (m : Sy.Mdl) (v : List Int) (e : Sy.Cmd) (hn : v.length = m.2.1.length) (hv : v.length < 1000) (he : e.2.2.length ≤ 65537) (hs : ∀ s ∈ e.2.2, 0 ≤ s.1 ∧ s.1 < m.2.1.length ∧ s.2.sz < 1000000) :
  ∀ (r pre : List (Int × Ex)), e.2.2 = pre ++ r → ∀ (w : List Int) (M : Nat), w.length = v.length → r.length < M →
   al (mC m v e) M (w, (pre.length : Int)) = some (fin m.2.1 (r.foldl (zz v) w))
 | [], pre, h, w, M, hw, hM => by
  obtain ⟨k, rfl⟩ : ∃ k, M = k + 1 := ⟨M - 1, by simp at hM; omega⟩
  rw [ao]
  simp only [mC, Sy.kb h, cond_false, List.foldl_nil, fin]
  rw [Mh m.2.1 w (by omega) (by omega), ai]
  cases hf : fits m.2.1 w <;> rfl
 | s :: r, pre, h, w, M, hw, hM => by
  obtain ⟨k, rfl⟩ : ∃ k, M = k + 1 := ⟨M - 1, by omega⟩
  rw [ao]
  obtain ⟨h0, h1, h2⟩ := hs s (by rw [h]; simp)
  have hlen : pre.length + r.length + 1 = e.2.2.length := by rw [h]; simp; omega
  obtain ⟨x, hx, _⟩ := D6 w s.1 h0 (by omega)
  have ih := As m v e hn hv he hs r (pre ++ [s]) (by rw [h]; simp) (zz v w s) k (by rw [DG, hw]) (by simp at hM; omega)
  rw [show ((pre ++ [s]).length : Int) = ((pre.length + 1 : Nat) : Int) by simp] at ih
  simp only [mC, Sy.ix h, cond_true, Sy.mid h, ai]
  rw [zU s.2 (by omega) v]
  simp only [ai, hx, Pa.bV (show pre.length < 4611686018427387904 by omega)]
  exact ih
theorem Cj (v : List Int) (h : v.length < 1000000000) : bP v = some v := by
 unfold bP
 rw [Sy.fP (Sy.eP (by simp; omega) (by simp; omega)), List.nil_append]
 cases v with
 | nil => simp [zl, both]
 | cons x r => rfl
theorem Mw {m : Sy.Mdl} {v : List Int} (hm : jI m.2.1 m.2.2.2.2) (hn : v.length = m.2.1.length) (k : Int) : qN m v k = some (Ht m.2.1 m.2.2.2.2 v k) := by
 have hv : v.length < 1000 := by have := hm.few; omega
 unfold qN
 simp only [aN]
 unfold Ht
 by_cases hk : k < 0 ∨ (m.2.2.2.2.length : Int) ≤ k
 ·rw [if_pos hk]
  rw [show (decide (k < 0) || decide ((List.length m.2.2.2.2 : Int) ≤ k)) = true by rw [Bool.or_eq_true, decide_eq_true_eq, decide_eq_true_eq]; exact hk, cond_true]
 ·rw [if_neg hk]
  rw [show (decide (k < 0) || decide ((List.length m.2.2.2.2 : Int) ≤ k)) = false by rw [Bool.eq_false_iff]; intro h; rw [Bool.or_eq_true, decide_eq_true_eq, decide_eq_true_eq] at h; exact hk h, cond_false]
  obtain ⟨c, hc, hc2⟩ := D6 m.2.2.2.2 k (by omega) (by omega)
  rw [Cj v (by omega), ai, hc, ai]
  have hmem : c ∈ m.2.2.2.2 := List.mem_of_getElem? hc2
  have := As m v c hn hv (hm.sets c hmem).1 (hm.sets c hmem).2 c.2.2 [] rfl v aq rfl (by have := (hm.sets c hmem).1; show _ < 2 ^ 64; omega)
  rw [show (0 : Int) = ((([] : List (Int × Ex)).length : Nat) : Int) from rfl, this]
  unfold gJ
  rw [hc2]
  rfl
/-! the commands that may fire -/
theorem F0 (m : Sy.Mdl) (v : List Int) (hm : jI m.2.1 m.2.2.2.2) : ∀ (r pre : List Sy.Cmd), m.2.2.2.2 = pre ++ r → ∀ (out : List Int) (M : Nat), out.length ≤ pre.length → r.length < M →
  al (jB m v) M (out, (pre.length : Int)) = some (out ++ enI v pre.length r)
 | [], pre, h, out, M, ho, hM => by
  obtain ⟨k, rfl⟩ : ∃ k, M = k + 1 := ⟨M - 1, by simp at hM; omega⟩
  rw [ao]
  simp only [jB, Sy.kb h, cond_false, enI, List.append_nil]
 | c :: r, pre, h, out, M, ho, hM => by
  obtain ⟨k, rfl⟩ : ∃ k, M = k + 1 := ⟨M - 1, by omega⟩
  rw [ao]
  have hlen : pre.length + r.length + 1 = m.2.2.2.2.length := by rw [h]; simp; omega
  have h3 := hm.cmds
  have hg := hm.guard c (by rw [h]; simp)
  simp only [jB, Sy.ix h, cond_true, Sy.mid h, ai]
  rw [zU c.2.1 (by omega) v, ai]
  have ih := fun out ho => F0 m v hm r (pre ++ [c]) (by rw [h]; simp) out k ho (by simp at hM; omega)
  rw [show ((pre ++ [c]).length : Int) = ((pre.length + 1 : Nat) : Int) by simp, show (pre ++ [c]).length = pre.length + 1 by simp] at ih
  simp only [Pa.bV (show pre.length < 4611686018427387904 by omega), enI]
  by_cases he : ev v c.2.1 = 1
  ·rw [if_pos he, show (ev v c.2.1 == 1) = true by simpa using he, cond_true, Sy.fP (Sy.eP (by simp; omega) (by simp; omega)), ih _ (by simp; omega), List.append_assoc]
   rfl
  ·rw [if_neg he, show (ev v c.2.1 == 1) = false by simpa using he, cond_false, ih _ (by omega)]
theorem Pv {m : Sy.Mdl} {v : List Int} (hm : jI m.2.1 m.2.2.2.2) : pH m v = some (enI v 0 m.2.2.2.2) :=
 F0 m v hm m.2.2.2.2 [] rfl [] aq (Nat.le_refl _) (by have := hm.cmds; show _ < 2 ^ 64; omega)
theorem zM (v : List Int) : ∀ (r : List Sy.Cmd) (k : Nat), (enI v k r).length = (enC v r).length
 | [], k => rfl
 | c :: r, k => by
  unfold enI enC
  rw [List.filter_cons]
  by_cases he : ev v c.2.1 = 1
  ·rw [if_pos he, if_pos (by simpa using he), List.length_cons, List.length_cons, zM v r]; rfl
  ·rw [if_neg he, if_neg (by simpa using he), zM v r]; rfl
theorem FL {v : List Int} {i : Int} : ∀ {r : List Sy.Cmd} {k : Nat}, i ∈ enI v k r → ∃ (j : Nat) (c : Sy.Cmd), i = ((k + j : Nat) : Int) ∧ r[j]? = some c ∧ ev v c.2.1 = 1
 | [], k, h => by simp [enI] at h
 | c :: r, k, h => by
  unfold enI at h
  have rec_ : i ∈ enI v (k + 1) r → ∃ (j : Nat) (d : Sy.Cmd), i = ((k + j : Nat) : Int) ∧ (c :: r)[j]? = some d ∧ ev v d.2.1 = 1 := fun h => by
   obtain ⟨j, d, h1, h2, h3⟩ := FL h
   exact ⟨j + 1, d, by rw [h1]; omega, by simpa using h2, h3⟩
  by_cases he : ev v c.2.1 = 1
  ·rw [if_pos he] at h
   rcases List.mem_cons.1 h with rfl | h
   ·exact ⟨0, c, rfl, rfl, he⟩
   ·exact rec_ h
  ·rw [if_neg he] at h
   exact rec_ h
theorem FA (v : List Int) (cmds : List Sy.Cmd) : ∀ (r pre : List Sy.Cmd), cmds = pre ++ r → (enI v pre.length r).map (gJ cmds v) = goes v r
 | [], pre, h => rfl
 | c :: r, pre, h => by
  have ih := FA v cmds r (pre ++ [c]) (by rw [h]; simp)
  rw [show (pre ++ [c]).length = pre.length + 1 by simp] at ih
  unfold enI goes enC
  rw [List.filter_cons]
  by_cases he : ev v c.2.1 = 1
  ·rw [if_pos he, if_pos (by simpa using he), List.map_cons, List.map_cons, ih]
   unfold gJ
   rw [show ((pre.length : Int)).toNat = pre.length from rfl, show cmds[pre.length]? = some c by rw [h]; simp]
   rfl
  ·rw [if_neg he, if_neg (by simpa using he), ih]; rfl
theorem Lg (v : List Int) (cmds : List Sy.Cmd) : (goes v cmds).length ≤ cmds.length := by
 unfold goes enC
 rw [List.length_map]
 exact List.length_filter_le _ _
theorem N3 {v : List Int} {cmds : List Sy.Cmd} {i : Int} (h : i ∈ enI v 0 cmds) : 0 ≤ i ∧ i < cmds.length := by
 obtain ⟨j, c, rfl, h2, _⟩ := FL h
 have := (List.getElem?_eq_some_iff.1 h2).1
 omega
theorem Ix {S : List (Int × Int)} {cmds : List Sy.Cmd} (v : List Int) : (sJ S cmds v).1.length ≤ cmds.length + 1 := by
 unfold sJ Ha
 split
 ·simp
 ·cases ha : (goes v cmds).all (fits S)
  ·simp
  ·have := CI (goes v cmds) []
   have := Lg v cmds
   simp at *; omega
end Sp
end Go.Proofs.YtpnogcmollnjeaaGreatDoor
namespace Go.Proofs.YtpnogcmollnjeaaGreatDoor
namespace Sp
theorem KN {v : List Int} {S : List (Int × Int)} {C : List Sy.Cmd} (hm : jI S C) (hv : InS S v) {l : List (List Int)} {at_ : Option (List (Str × Bool))} (hs : Seen l at_) (k : List (List Int) → Option (List (Str × Bool)) → Option ((List (List Int)) × Int)) (hk : ∀ l a, k l a = some (l, 0)) :
  (bif ((List.length l : Int) == 0) then ((bP v).bind fun r76 => (fv r76 l at_).bind fun r81 => k r81.1 r81.2) else some (l, 0)) = some (if l = [] then [v] else l, 0) := by
 by_cases h : l = []
 ·subst h
  rw [show ((List.length ([] : List (List Int)) : Int) == 0) = true from rfl, cond_true, Cj v (hv.short hm), ai]
  obtain ⟨at', h4, _⟩ := add_eq (hv.i64 hm) (hv.short hm) (hv.ne hm) (show ([] : List (List Int)).length < 1000000000 by simp) hs
  rw [h4, ai, hk]
  rfl
 ·have e : ((List.length l : Int) == 0) = false := by
   rw [beq_eq_false_iff_ne]
   intro e
   exact h (List.eq_nil_of_length_eq_zero (by omega))
  rw [e, cond_false, if_neg h]
theorem AW (m : Sy.Mdl) (v : List Int) (hm : jI m.2.1 m.2.2.2.2) (hv : InS m.2.1 v) (L : List Int) (hL : ∀ i ∈ L, 0 ≤ i ∧ i < m.2.2.2.2.length) (hLl : L.length ≤ 300) :
  ∀ (r pre : List Int), L = pre ++ r → ∀ (c : Int) (l : List (List Int)) (at_ : Option (List (Str × Bool))) (M : Nat), Seen l at_ → l.length ≤ pre.length → r.length < M →
   al (mf v (m.1, m.2.1, m.2.2.1, m.2.2.2.1, m.2.2.2.2, v) L) M ((pre.length : Int), c, l, at_) =
    some (if (r.map (gJ m.2.2.2.2 v)).all (fits m.2.1) = true then (if q9 l (r.map (gJ m.2.2.2.2 v)) = [] then [v] else q9 l (r.map (gJ m.2.2.2.2 v)), 0) else ([], 6))
 | [], pre, h, c, l, at_, M, hs, hl, hM => by
  obtain ⟨k, rfl⟩ : ∃ k, M = k + 1 := ⟨M - 1, by simp at hM; omega⟩
  rw [ao]
  simp only [mf, Sy.kb h, cond_false]
  exact KN hm hv hs (fun l _ => some (l, 0)) (fun _ _ => rfl)
 | i :: r, pre, h, c, l, at_, M, hs, hl, hM => by
  obtain ⟨k, rfl⟩ : ∃ k, M = k + 1 := ⟨M - 1, by omega⟩
  rw [ao]
  have hlen : pre.length + r.length + 1 = L.length := by rw [h]; simp; omega
  obtain ⟨hi0, hi1⟩ := hL i (by rw [h]; simp)
  simp only [mf, Sy.ix h, cond_true, Sy.mid h, ai, Bool.not_true, Bool.not_false, cond_false]
  rw [show (m.1, m.2.1, m.2.2.1, m.2.2.2.1, m.2.2.2.2) = m from rfl, Mw hm hv.len i]
  unfold Ht
  rw [if_neg (by omega), ai]
  unfold fin
  rw [List.map_cons, List.all_cons]
  obtain ⟨c', _, hc⟩ := D6 m.2.2.2.2 i hi0 hi1
  have hfl : (gJ m.2.2.2.2 v i).length = m.2.1.length := by unfold gJ; rw [hc, ← hv.len]; exact Io v c'
  cases hf : fits m.2.1 (gJ m.2.2.2.2 v i)
  ·rw [Bool.false_and, if_neg (by decide)]
   rfl
  ·have hin : InS m.2.1 (gJ m.2.2.2.2 v i) := ⟨hfl, hf⟩
   obtain ⟨at', h1, h2⟩ := add_eq (hin.i64 hm) (hin.short hm) (hin.ne hm) (show l.length < 1000000000 by omega) hs
   have hl2 := Cf l (gJ m.2.2.2.2 v i)
   have hq := AW m v hm hv L hL hLl r (pre ++ [i]) (by rw [h]; simp) c (np l (gJ m.2.2.2.2 v i)) at' k h2 (by simp; omega) (by simp at hM; omega)
   rw [show ((pre ++ [i]).length : Int) = ((pre.length + 1 : Nat) : Int) by simp] at hq
   rw [cond_true, show ((0 : Int) != 0) = false from rfl, cond_false]
   simp only [h1, ai, Pa.bV (show pre.length < 4611686018427387904 by omega)]
   rw [hq, Bool.true_and]
   rfl
theorem M3 {m : Sy.Mdl} {v : List Int} (hm : jI m.2.1 m.2.2.2.2) (hv : InS m.2.1 v) : qJ m v = some (sJ m.2.1 m.2.2.2.2 v) := by
 have hlen : (enI v 0 m.2.2.2.2).length ≤ 300 := by
  rw [zM]
  have := List.length_filter_le (fun c : Sy.Cmd => decide (ev v c.2.1 = 1)) m.2.2.2.2
  have := hm.cmds
  unfold enC; omega
 have hq := AW m v hm hv (enI v 0 m.2.2.2.2) (fun i hi => N3 hi) hlen (enI v 0 m.2.2.2.2) [] rfl 0 [] none aq Jn (Nat.le_refl _) (by show _ < 2 ^ 64; omega)
 have hmap : (enI v 0 m.2.2.2.2).map (gJ m.2.2.2.2 v) = goes v m.2.2.2.2 := FA v m.2.2.2.2 m.2.2.2.2 [] rfl
 rw [hmap] at hq
 unfold qJ tu
 rw [ai]
 simp only
 rw [show (m.1, m.2.1, m.2.2.1, m.2.2.2.1, m.2.2.2.2) = m from rfl, Pv hm, ai]
 rw [show ((([] : List Int).length : Nat) : Int) = 0 from rfl] at hq
 rw [hq]
 congr 1
 unfold sJ Ha
 cases ha : (goes v m.2.2.2.2).all (fits m.2.1)
 ·have hg : goes v m.2.2.2.2 ≠ [] := fun e => by rw [e] at ha; cases ha
  rw [if_neg hg, if_neg (by decide)]
  rfl
 ·rw [if_pos rfl, cond_true]
  by_cases hg : goes v m.2.2.2.2 = []
  ·rw [if_pos hg, if_pos (by rw [hg]; rfl)]
  ·rw [if_neg hg, if_neg]
   intro e
   cases hgo : goes v m.2.2.2.2 with
   | nil => exact hg hgo
   | cons x r =>
    have : x ∈ q9 [] (x :: r) := Cy.2 (.inr (by simp))
    rw [hgo] at e
    rw [e] at this
    cases this
end Sp
end Go.Proofs.YtpnogcmollnjeaaGreatDoor
namespace Go.Proofs.YtpnogcmollnjeaaGreatDoor
namespace Sy
open Pa
noncomputable def Er {α : Type} (x : Except Err α) : Prop := ∀ e, x = .error e → e.1 ≠ 0
theorem Er.ok {α : Type} {a : α} : Er (.ok a : Except Err α) := fun e h => by cases h
theorem Er.lit {α : Type} {e : Err} (h : e.1 ≠ 0) : Er (.error e : Except Err α) := fun e' he => by cases he; exact h
theorem Er.bif {α : Type} {c : Bool} {a b : Except Err α} (ha : c = true → Er a) (hb : c = false → Er b) : Er (bif c then a else b) := by cases c; exact hb rfl; exact ha rfl
theorem Er.of {α : Type} {x : Except Err α} (h : Er x) {e : Err} (he : x = .error e) {β : Type} : Er (.error e : Except Err β) := .lit (h e he)
theorem Kt {names : List Str} {ts : List Tok} : Er (qY names ts) := fun e h => by
 unfold qY at h
 split at h
 ·rename_i hx
  have h1 := Classical.choose_spec hx
  rw [h] at h1
  rcases h1.err e rfl with h | h | h <;> omega
 ·cases h; decide
theorem px {x : Str} {ts : List Tok} : Er (aV x ts) := by
 unfold aV
 split
 ·exact .lit (by decide)
 ·exact .bif (fun _ => .ok) (fun _ => .lit (show (2 : Int) ≠ 0 by decide))
theorem BV {full : Bool} {names procs : List Str} {ts : List Tok} : Er (cN full names procs ts) := by
 unfold cN
 split
 ·exact .lit (by decide)
 ·exact .bif (fun _ => .lit (show (2 : Int) ≠ 0 by decide)) fun _ => .bif (fun _ => .lit (show (3 : Int) ≠ 0 by decide)) fun _ => .bif (fun _ => .lit (show (9 : Int) ≠ 0 by decide)) fun _ => .ok
theorem Dm {neg : Bool} {ts : List Tok} : Er (jH neg ts) := by
 unfold jH
 split
 ·exact .lit (by decide)
 ·exact .bif (fun _ => .lit (show (2 : Int) ≠ 0 by decide)) fun _ => .ok
theorem zq {ts : List Tok} : Er (cY ts) := .bif (fun _ => Dm) fun _ => Dm
theorem Mx {m : Mdl} {ts : List Tok} : Er (jd m ts) := by
 unfold jd
 split
 ·rename_i h; exact BV.of h
 ·split
  ·rename_i h; exact zq.of h
  ·split
   ·rename_i h; exact zq.of h
   ·split
    ·rename_i h; exact zq.of h
    ·split
     ·rename_i h; exact px.of h
     ·exact .bif (fun _ => .lit (show (5 : Int) ≠ 0 by decide)) fun _ => .ok
theorem CU {want : Int} {names : List Str} {ts : List Tok} : Er (bW want names ts) := by
 unfold bW
 split
 ·rename_i h; exact Kt.of h
 ·exact .bif (fun h => .lit (by simpa using h)) fun _ => .bif (fun _ => .lit (show (4 : Int) ≠ 0 by decide)) fun _ => .ok
theorem BS {names : List Str} : ∀ (f : Nat) (acc : List (Int × Ex)) (ts : List Tok), Er (cE names f acc ts)
 | 0, _, _ => .lit (show (2 : Int) ≠ 0 by decide)
 | f + 1, acc, ts => by
  unfold cE
  split
  ·exact .lit (by decide)
  ·refine .bif (fun _ => .lit (show (2 : Int) ≠ 0 by decide)) fun _ => .bif (fun _ => .lit (show (3 : Int) ≠ 0 by decide)) fun _ => ?_
   split
   ·rename_i h; exact px.of h
   ·split
    ·rename_i h; exact CU.of h
    ·exact .bif (fun _ => BS f _ _) fun _ => .ok
theorem NN {m : Mdl} {ts : List Tok} : Er (gF m ts) := by
 unfold gF
 refine .bif (fun _ => .lit (show (9 : Int) ≠ 0 by decide)) fun _ => ?_
 split
 ·rename_i h; exact CU.of h
 ·split
  ·rename_i h; exact px.of h
  ·split
   ·rename_i h; exact (BS _ _ _).of h
   ·split
    ·rename_i h; exact px.of h
    ·exact .ok
theorem Dl : ∀ (f : Nat) (m : Mdl) (ts : List Tok), Er (fI f m ts)
 | 0, _, _ => .lit (show (2 : Int) ≠ 0 by decide)
 | f + 1, m, ts => by
  unfold fI
  refine .bif (fun _ => .ok) fun _ => ?_
  split
  ·rename_i h; exact NN.of h
  ·exact Dl f _ _
theorem Jy {m : Mdl} {ts : List Tok} : Er (kN m ts) := by
 unfold kN
 split
 ·rename_i h; exact BV.of h
 ·split
  ·rename_i h; exact px.of h
  ·exact Dl _ _ _
theorem u5 : ∀ (f : Nat) (m : Mdl) (ts : List Tok), Er (iA f m ts)
 | 0, _, _ => .lit (show (2 : Int) ≠ 0 by decide)
 | f + 1, m, ts => by
  unfold iA
  split
  ·exact .lit (by decide)
  ·refine .bif (fun _ => .bif (fun _ => .lit (show (2 : Int) ≠ 0 by decide)) fun _ => .ok) fun _ => .bif (fun _ => ?_) fun _ => .bif (fun _ => ?_) fun _ => .lit (show (2 : Int) ≠ 0 by decide)
   ·split
    ·rename_i h; exact Mx.of h
    ·exact u5 f _ _
   ·split
    ·rename_i h; exact Jy.of h
    ·exact u5 f _ _
theorem LI {text : Str} {e : Err} (h : wT text = .error e) : e.1 ≠ 0 := by
 unfold wT at h
 split at h
 ·cases h; decide
 ·split at h
  ·exact u5 _ _ _ e h
  ·rename_i hl
   cases h
   exact CZ _ _ _ _ hl
end Sy
end Go.Proofs.YtpnogcmollnjeaaGreatDoor
namespace Go.Proofs.YtpnogcmollnjeaaGreatDoor
namespace Sp
/-! rows alike -/
/-! the place of a state in a row -/
/-! within the ranges, as the document says it -/
noncomputable def inB (S : List (Int × Int)) (v : List Int) : Bool := decide (v.length = S.length) && fits S v
theorem jo {S : List (Int × Int)} {v : List Int} : inB S v = true ↔ InS S v := by
 unfold inB
 rw [Bool.and_eq_true, decide_eq_true_eq]
 exact ⟨fun h => ⟨h.1, h.2⟩, fun h => ⟨h.len, h.fit⟩⟩
/-! what the document's walk needs -/
structure Pr (S : List (Int × Int)) (C : List Sy.Cmd) : Prop extends jI S C where
 rguard : ∀ c ∈ C, dv (S.length : Int) c.2.1 = true ∧ (rt c.2.1).1 = 2
 rsets : ∀ c ∈ C, ∀ s ∈ c.2.2, dv (S.length : Int) s.2 = true ∧ (rt s.2).1 = 1
theorem MC {m : Sy.Mdl} (h : Sy.Wf m) : Pr m.2.1 m.2.2.2.2 := by
 have hs := h.schema
 have h1 := h.some_
 have h2 := h.names
 have h3 := h.cmds
 refine { pos := by omega, few := by omega, field := h.fields, cmds := by omega, guard := fun c hc => ?_, sets := fun c hc => ⟨(h.cmd c hc).len, fun s hs2 => ?_⟩, rguard := fun c hc => ?_, rsets := fun c hc s hs2 => ?_ }
 ·have := (h.cmd c hc).sz; omega
 ·have k := (h.cmd c hc).sets s hs2
  have := k.var; have := k.sz
  refine ⟨by omega, by omega, by omega⟩
 ·have k := h.cmd c hc
  rw [hs]
  exact ⟨k.may, k.typ.2⟩
 ·have k := (h.cmd c hc).sets s hs2
  rw [hs]
  exact ⟨k.may, k.typ.2⟩
/-! the system of a text -/
theorem KI (text : Str) : ∃ q, eV text = some q ∧ (q.2 = true → Sy.Wf q.1) := by
 unfold eV
 by_cases h : (600 : Int) < (text.length : Int)
 ·rw [decide_eq_true h, cond_true]
  exact ⟨_, rfl, fun h => by cases h⟩
 ·rw [decide_eq_false h, cond_false, Sy.J6, ai]
  refine ⟨_, rfl, fun h => ?_⟩
  cases hs : Sy.wT text with
  | ok m =>
   exact Sy.HI hs
  | error e =>
   rw [hs] at h
   exact absurd (by simpa [Sy.xj] using h) (Sy.LI hs)
end Sp
end Go.Proofs.YtpnogcmollnjeaaGreatDoor
namespace Go.Proofs.YtpnogcmollnjeaaGreatDoor
namespace Ls
open Sp
/-! witnesses of few states -/
abbrev Las := List (List Int) × List (List Int)
noncomputable def DP (l : Las) (most : Int) : Bool := decide ((l.1.length : Int) ≤ most) && decide ((l.2.length : Int) ≤ most) && (l.1.all (fun v => decide (v.length ≤ 40)) && l.2.all (fun v => decide (v.length ≤ 40)))
theorem O1 (l : Las) (hl : l.2.length < 1000000) : ∀ (r pre : List (List Int)), l.2 = pre ++ r → ∀ M, r.length < M → al (fE l) M (pre.length : Int) = some (r.all fun v => decide (v.length ≤ 40))
 | [], pre, h, M, hM => by
  obtain ⟨m, rfl⟩ : ∃ m, M = m + 1 := ⟨M - 1, by simp at hM; omega⟩
  rw [ao]
  simp only [fE, Sy.kb h, cond_false, List.all_nil]
 | x :: r, pre, h, M, hM => by
  obtain ⟨m, rfl⟩ : ∃ m, M = m + 1 := ⟨M - 1, by omega⟩
  rw [ao]
  have hlen : pre.length + r.length + 1 = l.2.length := by rw [h]; simp; omega
  have ih := O1 l hl r (pre ++ [x]) (by rw [h]; simp) m (by simp at hM; omega)
  rw [show ((pre ++ [x]).length : Int) = ((pre.length + 1 : Nat) : Int) by simp] at ih
  simp only [fE, Sy.ix h, cond_true, Sy.mid h, ai, Pa.bV (show pre.length < 4611686018427387904 by omega), ih, List.all_cons]
  by_cases e : x.length ≤ 40
  ·rw [decide_eq_true e, decide_eq_false (by omega)]; rfl
  ·rw [decide_eq_false e, decide_eq_true (by omega)]; rfl
theorem OQ (l : Las) (h1 : l.1.length < 1000000) (hl : l.2.length < 1000000) : ∀ (r pre : List (List Int)), l.1 = pre ++ r → ∀ M, r.length < M → al (fL l) M (pre.length : Int) = some (r.all (fun v => decide (v.length ≤ 40)) && l.2.all fun v => decide (v.length ≤ 40))
 | [], pre, h, M, hM => by
  obtain ⟨m, rfl⟩ : ∃ m, M = m + 1 := ⟨M - 1, by simp at hM; omega⟩
  rw [ao]
  simp only [fL, Sy.kb h, cond_false, List.all_nil, Bool.true_and]
  exact O1 l hl l.2 [] rfl aq (by show _ < 2 ^ 64; omega)
 | x :: r, pre, h, M, hM => by
  obtain ⟨m, rfl⟩ : ∃ m, M = m + 1 := ⟨M - 1, by omega⟩
  rw [ao]
  have hlen : pre.length + r.length + 1 = l.1.length := by rw [h]; simp; omega
  have ih := OQ l h1 hl r (pre ++ [x]) (by rw [h]; simp) m (by simp at hM; omega)
  rw [show ((pre ++ [x]).length : Int) = ((pre.length + 1 : Nat) : Int) by simp] at ih
  simp only [fL, Sy.ix h, cond_true, Sy.mid h, ai, Pa.bV (show pre.length < 4611686018427387904 by omega), ih, List.all_cons]
  by_cases e : x.length ≤ 40
  ·rw [decide_eq_true e, decide_eq_false (by omega)]; rfl
  ·rw [decide_eq_false e, decide_eq_true (by omega)]; rfl
theorem OC (l : Las) (most : Int) (hm : most ≤ 100) : fC l most = some (DP l most) := by
 unfold fC DP
 simp only [aN]
 by_cases h1 : (l.1.length : Int) ≤ most
 ·by_cases h2 : (l.2.length : Int) ≤ most
  ·rw [decide_eq_false (show ¬ most < (l.1.length : Int) by omega), decide_eq_false (show ¬ most < (l.2.length : Int) by omega), decide_eq_true h1, decide_eq_true h2]
   exact OQ l (by omega) (by omega) l.1 [] rfl aq (by show _ < 2 ^ 64; omega)
  ·rw [decide_eq_true (show most < (l.2.length : Int) by omega), decide_eq_false h2, Bool.or_true, Bool.and_false]
   rfl
 ·rw [decide_eq_true (show most < (l.1.length : Int) by omega), decide_eq_false h1]
  rfl
structure Small (l : Las) (n : Nat) : Prop where
 stem : l.1.length ≤ n
 cyc : l.2.length ≤ n
 rows1 : ∀ v ∈ l.1, v.length ≤ 40
 rows2 : ∀ v ∈ l.2, v.length ≤ 40
theorem Ng {l : Las} {n : Nat} (h : DP l (n : Int) = true) : Small l n := by
 unfold DP at h
 simp only [Bool.and_eq_true, decide_eq_true_eq, List.all_eq_true] at h
 exact ⟨by omega, by omega, h.2.1, h.2.2⟩
/-! rows one behind the other -/
theorem N4 (L : List (List (List Int))) (hl : L.length < 1000000) : ∀ (r pre : List (List (List Int))), L = pre ++ r → ∀ (acc : List (List Int)) (M : Nat), acc.length + r.flatten.length < 1000000 → r.length < M → al (eo L) M (acc, (pre.length : Int)) = some (acc ++ r.flatten)
 | [], pre, h, acc, M, ha, hM => by
  obtain ⟨m, rfl⟩ : ∃ m, M = m + 1 := ⟨M - 1, by simp at hM; omega⟩
  rw [ao]
  simp only [eo, Sy.kb h, cond_false, List.flatten_nil, List.append_nil]
 | x :: r, pre, h, acc, M, ha, hM => by
  obtain ⟨m, rfl⟩ : ∃ m, M = m + 1 := ⟨M - 1, by omega⟩
  rw [ao]
  have hlen : pre.length + r.length + 1 = L.length := by rw [h]; simp; omega
  simp only [List.flatten_cons, List.length_append] at ha
  have ih := N4 L hl r (pre ++ [x]) (by rw [h]; simp) (acc ++ x) m (by rw [List.length_append]; omega) (by simp at hM; omega)
  rw [show ((pre ++ [x]).length : Int) = ((pre.length + 1 : Nat) : Int) by simp] at ih
  simp only [eo, Sy.ix h, cond_true, Sy.mid h, ai, Pa.bV (show pre.length < 4611686018427387904 by omega)]
  rw [Sy.fP (Sy.eP (by omega) (by omega)), ih]
  simp
theorem OB (L : List (List (List Int))) (hl : L.length < 1000000) (hL : L.flatten.length < 1000000) : ∀ (r pre : List (List (List Int))), L = pre ++ r → ∀ (M : Nat), r.length < M → al (ed L) M ((pre.flatten.length : Int), (pre.length : Int)) = some L.flatten
 | [], pre, h, M, hM => by
  obtain ⟨m, rfl⟩ : ∃ m, M = m + 1 := ⟨M - 1, by simp at hM; omega⟩
  rw [ao]
  have e : pre = L := by rw [h]; simp
  simp only [ed, Sy.kb h, cond_false]
  rw [e]
  have hg : yA (L.flatten.length : Int) = some [] := by
   unfold yA
   rw [decide_eq_true (show (0 : Int) ≤ (L.flatten.length : Int) by omega), Sy.fP (by rw [Bool.true_and]; exact Sy.eP (by rw [Int.toNat_natCast]; omega) (by rw [Int.toNat_natCast]; omega))]
  rw [hg, ai]
  have := N4 L hl L [] rfl [] aq (by simpa using hL) (by show _ < 2 ^ 64; omega)
  rw [show ((([] : List (List (List Int))).length : Nat) : Int) = 0 from rfl] at this
  rw [this, List.nil_append]
 | x :: r, pre, h, M, hM => by
  obtain ⟨m, rfl⟩ : ∃ m, M = m + 1 := ⟨M - 1, by omega⟩
  rw [ao]
  have hlen : pre.length + r.length + 1 = L.length := by rw [h]; simp; omega
  have hf : pre.flatten.length + x.length ≤ L.flatten.length := by rw [h]; simp only [List.flatten_append, List.flatten_cons, List.length_append]; omega
  have ih := OB L hl hL r (pre ++ [x]) (by rw [h]; simp) m (by simp at hM; omega)
  rw [show ((pre ++ [x]).length : Int) = ((pre.length + 1 : Nat) : Int) by simp, show ((pre ++ [x]).flatten.length : Int) = (pre.flatten.length : Int) + (x.length : Int) by simp] at ih
  have hw : IntKind.i64.wrap ((pre.flatten.length : Int) + (x.length : Int)) = (pre.flatten.length : Int) + (x.length : Int) := w64 (by omega)
  simp only [ed, Sy.ix h, cond_true, Sy.mid h, ai, Pa.bV (show pre.length < 4611686018427387904 by omega), hw, ih]
  rw [decide_eq_false (by omega), cond_false]
theorem Ao (L : List (List (List Int))) (hl : L.length < 1000000) (hL : L.flatten.length < 1000000) : fl L = some L.flatten := by
 have := OB L hl hL L [] rfl aq (by show _ < 2 ^ 64; omega)
 exact this
/-! ranges of all states -/
noncomputable def inB (S : List (Int × Int)) (v : List Int) : Bool := decide (v.length = S.length) && fits S v
theorem jo {S : List (Int × Int)} {v : List Int} : inB S v = true ↔ InS S v := by
 unfold inB
 rw [Bool.and_eq_true, decide_eq_true_eq]
 exact ⟨fun h => ⟨h.1, h.2⟩, fun h => ⟨h.len, h.fit⟩⟩
theorem NP : @ue = @gh := rfl
theorem PE {S : List (Int × Int)} (hS : S.length < 1000) (v : List Int) (N I P C) : l9 v N S I P C = some (inB S v) := by
 unfold l9
 rw [NP]
 by_cases hl : v.length = S.length
 ·rw [Mh S v hl (by omega), ai]
  unfold inB
  rw [decide_eq_true hl, Bool.true_and]
  cases fits S v <;> rfl
 ·unfold gh inB
  rw [show ((List.length v : Int) != (List.length S : Int)) = true by simp; omega, cond_true, ai, decide_eq_false hl]
  rfl
theorem Ct {S : List (Int × Int)} (hS : S.length < 1000) (l : List (List Int)) (hl : l.length < 1000000) (N I P C) : ∀ (r pre : List (List Int)), l = pre ++ r → ∀ M, r.length < M → al (eW l N S I P C) M (pre.map (inB S), (pre.length : Int)) = some (l.map (inB S))
 | [], pre, h, M, hM => by
  obtain ⟨m, rfl⟩ : ∃ m, M = m + 1 := ⟨M - 1, by simp at hM; omega⟩
  rw [ao]
  simp only [eW, Sy.kb h, cond_false]
  rw [h, List.append_nil]
 | x :: r, pre, h, M, hM => by
  obtain ⟨m, rfl⟩ : ∃ m, M = m + 1 := ⟨M - 1, by omega⟩
  rw [ao]
  have hlen : pre.length + r.length + 1 = l.length := by rw [h]; simp; omega
  have ih := Ct hS l hl N I P C r (pre ++ [x]) (by rw [h]; simp) m (by simp at hM; omega)
  rw [show ((pre ++ [x]).length : Int) = ((pre.length + 1 : Nat) : Int) by simp, List.map_append, List.map_cons, List.map_nil] at ih
  simp only [eW, Sy.ix h, cond_true, Sy.mid h, ai, PE hS, Pa.bV (show pre.length < 4611686018427387904 by omega)]
  rw [Sy.fP (Sy.eP (by simp; omega) (by simp; omega)), ih]
theorem oK (l : List Bool) (hl : l.length < 1000000) : ∀ (r pre : List Bool), l = pre ++ r → ∀ M, r.length < M → ∃ i : Int, al (dT l false) M (pre.length : Int) = some i ∧ (decide (0 ≤ i)) = r.contains false
 | [], pre, h, M, hM => by
  obtain ⟨m, rfl⟩ : ∃ m, M = m + 1 := ⟨M - 1, by simp at hM; omega⟩
  rw [ao]
  simp only [dT, Sy.kb h, cond_false]
  exact ⟨_, rfl, rfl⟩
 | x :: r, pre, h, M, hM => by
  obtain ⟨m, rfl⟩ : ∃ m, M = m + 1 := ⟨M - 1, by omega⟩
  rw [ao]
  have hlen : pre.length + r.length + 1 = l.length := by rw [h]; simp; omega
  obtain ⟨i, h1, h2⟩ := oK l hl r (pre ++ [x]) (by rw [h]; simp) m (by simp at hM; omega)
  rw [show ((pre ++ [x]).length : Int) = ((pre.length + 1 : Nat) : Int) by simp] at h1
  simp only [dT, Sy.ix h, cond_true, Sy.mid h, ai, Pa.bV (show pre.length < 4611686018427387904 by omega), h1]
  cases x
  ·exact ⟨_, rfl, by simp⟩
  ·exact ⟨i, rfl, by rw [h2]; simp⟩
theorem HM (l : List Bool) (hl : l.length < 1000000) : dR l false = some (l.contains false) := by
 unfold dR ig
 obtain ⟨i, h1, h2⟩ := oK l hl l [] rfl aq (by show _ < 2 ^ 64; omega)
 rw [show ((([] : List Bool).length : Nat) : Int) = 0 from rfl] at h1
 rw [h1, ai, h2]
/-! alike, and among -/
theorem yB (a b : List Int) (hl : a.length = b.length) (ha : a.length < 1000000000) : ∀ (r pre s : List Int), a = pre ++ r → b = pre ++ s → ∀ M, r.length < M → al (eD a b) M (pre.length : Int) = some (r == s)
 | [], pre, s, h, h2, M, hM => by
  obtain ⟨m, rfl⟩ : ∃ m, M = m + 1 := ⟨M - 1, by simp at hM; omega⟩
  rw [ao]
  have : s = [] := List.eq_nil_of_length_eq_zero (by rw [h, h2] at hl; simp only [List.length_append, List.length_nil] at hl; omega)
  subst this
  simp only [eD, Sy.kb h, cond_false]
  rfl
 | x :: r, pre, [], h, h2, M, hM => by rw [h, h2] at hl; simp at hl
 | x :: r, pre, y :: s, h, h2, M, hM => by
  obtain ⟨m, rfl⟩ : ∃ m, M = m + 1 := ⟨M - 1, by omega⟩
  rw [ao]
  have hlen : pre.length + r.length + 1 = a.length := by rw [h]; simp; omega
  simp only [eD, Sy.ix h, cond_true, Sy.mid h, Sy.mid h2, ai]
  by_cases e : x = y
  ·subst e
   have ih := yB a b hl ha r (pre ++ [x]) s (by rw [h]; simp) (by rw [h2]; simp) m (by simp at hM; omega)
   rw [show ((pre ++ [x]).length : Int) = ((pre.length + 1 : Nat) : Int) by simp] at ih
   rw [show (x != x) = false by simp, cond_false, Pa.bV (show pre.length < 4611686018427387904 by omega), ih]
   simp
  ·rw [show (x != y) = true by simpa using e, cond_true, show ((x :: r) == (y :: s)) = false by simp [e]]
theorem Ci (a b : List Int) (ha : a.length < 1000000000) : ea a b = some (a == b) := by
 unfold ea
 by_cases hl : a.length = b.length
 ·rw [show ((List.length a : Int) != (List.length b : Int)) = false by rw [hl]; simp, cond_false]
  exact yB a b hl ha a [] b rfl rfl aq (by show _ < 2 ^ 64; omega)
 ·rw [show ((List.length a : Int) != (List.length b : Int)) = true by simp; omega, cond_true, beq_eq_false_iff_ne.2 (fun e => hl (by rw [e]))]
theorem xI (l : List (List Int)) (y : List Int) (hy : y.length < 1000000000) (hl : l.length < 1000000) : ∀ (r pre : List (List Int)), l = pre ++ r → ∀ M, r.length < M → ∃ i : Int, al (dA l y) M (pre.length : Int) = some i ∧ (decide (0 ≤ i)) = r.contains y
 | [], pre, h, M, hM => by
  obtain ⟨m, rfl⟩ : ∃ m, M = m + 1 := ⟨M - 1, by simp at hM; omega⟩
  rw [ao]
  simp only [dA, Sy.kb h, cond_false]
  exact ⟨_, rfl, rfl⟩
 | x :: r, pre, h, M, hM => by
  obtain ⟨m, rfl⟩ : ∃ m, M = m + 1 := ⟨M - 1, by omega⟩
  rw [ao]
  have hlen : pre.length + r.length + 1 = l.length := by rw [h]; simp; omega
  obtain ⟨i, h1, h2⟩ := xI l y hy hl r (pre ++ [x]) (by rw [h]; simp) m (by simp at hM; omega)
  rw [show ((pre ++ [x]).length : Int) = ((pre.length + 1 : Nat) : Int) by simp] at h1
  simp only [dA, Sy.ix h, cond_true, Sy.mid h, ai, mO, Ci y x hy, Pa.bV (show pre.length < 4611686018427387904 by omega), h1]
  by_cases e : y = x
  ·rw [show (y == x) = true by simpa using e, cond_true]
   exact ⟨_, rfl, by rw [e]; simp⟩
  ·rw [show (y == x) = false by simpa using e, cond_false]
   exact ⟨i, rfl, by rw [h2, List.contains_cons, show (y == x) = false by simpa using e, Bool.false_or]⟩
theorem JP (l : List (List Int)) (y : List Int) (hy : y.length < 1000000000) (hl : l.length < 1000000) : dw l y = some (l.contains y) := by
 unfold dw fX
 obtain ⟨i, h1, h2⟩ := xI l y hy hl l [] rfl aq (by show _ < 2 ^ 64; omega)
 rw [show ((([] : List (List Int)).length : Nat) : Int) = 0 from rfl] at h1
 rw [h1, ai, h2]
/-! steps and ways -/
noncomputable def BJ (m : Sy.Mdl) (x y : List Int) : Bool := ((sJ m.2.1 m.2.2.2.2 x).2 == 0) && (sJ m.2.1 m.2.2.2.2 x).1.contains y
noncomputable def chain (m : Sy.Mdl) : List Int → List (List Int) → Bool
 | _, [] => true
 | x, y :: r => BJ m x y && chain m y r
noncomputable def JD (m : Sy.Mdl) : List (List Int) → Bool
 | [] => false
 | x :: r => (x == m.2.2.1) && chain m x r
noncomputable def tD (m : Sy.Mdl) (l : Las) : Bool := match l.2 with
 | [] => false
 | c :: _ => (l.1 ++ l.2).all (inB m.2.1) && JD m (l.1 ++ l.2 ++ [c])
theorem PN {m : Sy.Mdl} (hm : jI m.2.1 m.2.2.2.2) {x : List Int} (hx : InS m.2.1 x) (y : List Int) (hy : y.length < 1000000000) : mw x y m.1 m.2.1 m.2.2.1 m.2.2.2.1 m.2.2.2.2 = some (BJ m x y) := by
 have hfew := Ix (S := m.2.1) (cmds := m.2.2.2.2) x
 have hc := hm.cmds
 unfold mw BJ
 rw [show (m.1, m.2.1, m.2.2.1, m.2.2.2.1, m.2.2.2.2) = m from rfl, M3 hm hx, ai]
 simp only [aN]
 rw [JP _ y hy (by omega), pr]
 cases ((sJ m.2.1 m.2.2.2.2 x).2 == 0) <;> rfl
theorem xR {m : Sy.Mdl} (hm : jI m.2.1 m.2.2.2.2) (l : List (List Int)) (hl : l.length < 1000000) (hi : ∀ v ∈ l, InS m.2.1 v) : ∀ (r pre : List (List Int)) (x : List Int), l = pre ++ x :: r → ∀ M, r.length < M →
  al (iu l m.1 m.2.1 m.2.2.1 m.2.2.2.1 m.2.2.2.2) M ((pre.length + 1 : Nat) : Int) = some (chain m x r)
 | [], pre, x, h, M, hM => by
  obtain ⟨k, rfl⟩ : ∃ k, M = k + 1 := ⟨M - 1, by simp at hM; omega⟩
  rw [ao]
  have hlen : l.length = pre.length + 1 := by rw [h]; simp
  simp only [iu]
  rw [decide_eq_false (by omega), cond_false, chain]
 | y :: r, pre, x, h, M, hM => by
  obtain ⟨k, rfl⟩ : ∃ k, M = k + 1 := ⟨M - 1, by omega⟩
  rw [ao]
  have hlen : l.length = pre.length + r.length + 2 := by rw [h]; simp; omega
  have ih := xR hm l hl hi r (pre ++ [x]) y (by rw [h]; simp) k (by simp at hM; omega)
  rw [show (pre ++ [x]).length = pre.length + 1 by simp] at ih
  have e1 : idx l (IntKind.i64.wrap (((pre.length + 1 : Nat) : Int) - 1)) = some x := by
   rw [w64 (by omega), show ((pre.length + 1 : Nat) : Int) - 1 = (pre.length : Int) by omega]
   exact Sy.mid h
  have e2 : idx l ((pre.length + 1 : Nat) : Int) = some y := by
   have h' : l = (pre ++ [x]) ++ y :: r := by rw [h]; simp
   have := Sy.mid h'
   rwa [show (pre ++ [x]).length = pre.length + 1 by simp] at this
  have hx := hi x (by rw [h]; simp)
  have hy := hi y (by rw [h]; simp)
  simp only [iu]
  rw [decide_eq_true (by omega), cond_true, e1, ai, e2, ai, PN hm hx y (hy.short hm), ai, Pa.bV (show pre.length + 1 < 4611686018427387904 by omega), ih, chain]
  cases BJ m x y <;> rfl
theorem Nc {S : List (Int × Int)} (l : List (List Int)) : (l.map (inB S)).contains false = !(l.all (inB S)) := by
 induction l with
 | nil => rfl
 | cons x r ih =>
  rw [List.map_cons, List.contains_cons, ih, List.all_cons]
  cases inB S x <;> cases r.all (inB S) <;> rfl
theorem Ir {m : Sy.Mdl} (hm : jI m.2.1 m.2.2.2.2) {l : Las} {n : Nat} (hs : l.1.length + l.2.length ≤ n) (hn : n < 100000) (hr : ∀ v ∈ l.1 ++ l.2, v.length < 1000000000) : fS m l = some (tD m l) := by
 obtain ⟨st, cy⟩ := l
 simp only at hs hr
 unfold fS
 simp only
 cases cy with
 | nil => rfl
 | cons c r =>
  rw [show tD m (st, c :: r) = ((st ++ (c :: r)).all (inB m.2.1) && JD m (st ++ (c :: r) ++ [c])) from rfl]
  simp only [List.length_cons] at hs
  rw [show ((List.length (c :: r) : Int) == 0) = false by simp; omega, cond_false]
  rw [Sy.fP (show je 0 1 (List.length (c :: r)) = true by unfold je; simp; omega), show cP (c :: r) 0 1 = [c] from rfl]
  have hcat : ([st, c :: r, [c]] : List (List (List Int))).flatten = st ++ (c :: r) ++ [c] := by simp
  rw [Ao _ (by simp) (by rw [hcat]; simp; omega), ai, hcat]
  have hS : m.2.1.length < 1000 := by have := hm.few; omega
  unfold jy
  have hmap := Ct hS (st ++ (c :: r) ++ [c]) (by simp; omega) m.1 m.2.2.1 m.2.2.2.1 m.2.2.2.2 (st ++ (c :: r) ++ [c]) [] rfl aq (by simp; show _ < 2 ^ 64; omega)
  rw [show ((([] : List (List Int)).length : Nat) : Int) = 0 from rfl, List.map_nil] at hmap
  rw [hmap, ai, HM _ (by simp; omega), ai, Nc]
  have hall : (st ++ (c :: r) ++ [c]).all (inB m.2.1) = (st ++ (c :: r)).all (inB m.2.1) := by
   rw [List.all_append]
   cases h : (st ++ (c :: r)).all (inB m.2.1)
   ·rfl
   ·rw [Bool.true_and]
    rw [List.all_append, List.all_cons] at h
    simp only [Bool.and_eq_true] at h
    simp [h.2.1]
  rw [hall]
  cases h : (st ++ (c :: r)).all (inB m.2.1)
  ·rfl
  ·have hin : ∀ v ∈ st ++ (c :: r) ++ [c], InS m.2.1 v := fun v hv => jo.1 (List.all_eq_true.1 (hall.trans h) v hv)
   obtain ⟨x, q, hxq⟩ : ∃ x q, st ++ (c :: r) ++ [c] = x :: q := by
    cases st with
    | nil => exact ⟨_, _, rfl⟩
    | cons a b => exact ⟨_, _, rfl⟩
   have hlq : (x :: q).length < 1000000 := by rw [← hxq]; simp; omega
   rw [hxq] at hin ⊢
   rw [JD]
   simp only [Bool.not_true, Bool.not_false, cZ, Bool.false_or, aN, Bool.true_and]
   rw [show idx (x :: q) 0 = some x from rfl, ai, Ci x m.2.2.1 ((hin x (by simp)).short hm), ai]
   cases hx : x == m.2.2.1
   ·rfl
   ·have := xR hm (x :: q) hlq hin q [] x rfl aq (by simp at hlq; show _ < 2 ^ 64; omega)
    rw [show ((([] : List (List Int)).length + 1 : Nat) : Int) = 1 from rfl] at this
    simp only [Bool.not_true, cond_false, Bool.true_and]
    unfold nA
    rw [this, ai]
theorem Nr {l : Las} {n : Nat} (hs : l.1.length + l.2.length ≤ n) (hn : n < 100000) : kf l = some (l.1 ++ l.2, (l.1.length : Int)) := by
 unfold kf
 have hcat : ([l.1, l.2] : List (List (List Int))).flatten = l.1 ++ l.2 := by simp
 rw [Ao _ (by simp) (by rw [hcat]; simp; omega), ai, hcat]
theorem Cp {m : Sy.Mdl} {l : Las} (h : tD m l = true) : l.2 ≠ [] := fun e => by
 unfold tD at h
 rw [e] at h
 cases h
noncomputable def nN (m : Sy.Mdl) (e : Ex) (l : Las) : Bool := tD m l && !rd (sm (l.1 ++ l.2) l.1.length e) 0
theorem BY {vars : Int} {m : Sy.Mdl} (hm : jI m.2.1 m.2.2.2.2) {l : Las} {n : Nat} (hs : l.1.length + l.2.length ≤ n) (hn : n < 100000) (hr : ∀ v ∈ l.1 ++ l.2, v.length < 1000000000) {e : Ex} (hf : Fm vars e) : eZ m e l = some (nN m e l) := by
 unfold eZ nN
 rw [Ir hm hs hn hr, ai]
 cases h : tD m l
 ·simp only [ij, aN]
  rfl
 ·have hc := Cp h
  have hp : 0 < l.2.length := List.length_pos_iff.2 hc
  simp only [cZ, aN]
  rw [Nr hs hn, ai, Kz (V := l.1 ++ l.2) (lp := l.1.length) (by simp; omega) (by simp; omega) hf, ai]
end Ls
end Go.Proofs.YtpnogcmollnjeaaGreatDoor
namespace Go.Proofs.YtpnogcmollnjeaaGreatDoor
theorem DH (k : Ex × Int → Option Bool) (e : Ex) (vars : Int) (hk : ∀ x ∈ e.l, k (x, vars) = some (dv vars x)) (hl : e.l.length < 4611686018427387904) :
  ∀ (r pre : List Ex), e.l = pre ++ r → ∀ (M : Nat), r.length < M → al (ec k e vars (e.l.length : Int)) M (pre.length : Int) = some (jK vars r)
 | [], pre, h, M, hM => by
  obtain ⟨m, rfl⟩ : ∃ m, M = m + 1 := ⟨M - 1, by simp at hM; omega⟩
  rw [ao]
  simp only [ec, Cl h, cond_false, jK]
 | x :: r, pre, h, M, hM => by
  obtain ⟨m, rfl⟩ : ∃ m, M = m + 1 := ⟨M - 1, by omega⟩
  rw [ao]
  have hx := hk x (by rw [h]; simp)
  have hlen : pre.length < 4611686018427387904 := by rw [h] at hl; simp at hl; omega
  have ih := DH k e vars hk hl r (pre ++ [x]) (by rw [h]; simp) m (by simp at hM; omega)
  rw [show ((pre ++ [x]).length : Int) = ((pre.length + 1 : Nat) : Int) by simp] at ih
  simp only [ec, BN h, cond_true, sy h, ai, hx, rV hlen, jK]
  cases dv vars x
  ·rfl
  ·simp only [Bool.not_true, cond_false, Bool.true_and]; exact ih
theorem Pb (k : Ex × Int → Option Bool) (e : Ex) (vars want : Int) (hk : ∀ x ∈ e.l, k (x, vars) = some (dv vars x)) (hl : e.l.length < 4611686018427387904) :
  fJ k e vars want = some (kA e.op e.n (e.l.length : Int) want vars && jK vars e.l) := by
 have loop : ((e.l.length : Int) != want) = false → al (ec k e vars want) aq 0 = some (jK vars e.l) := fun hw => by
  have hw : (e.l.length : Int) = want := by simpa using hw
  rw [← hw]
  exact DH k e vars hk hl e.l [] rfl aq (by show e.l.length < 2 ^ 64; omega)
 unfold fJ kA
 simp only [aN]
 generalize decide (e.op < 1) = c1
 generalize decide (24 < e.op) = c2
 generalize ((e.l.length : Int) != want) = c3 at *
 generalize ((e.op == 1) && (decide (e.n < 0) || decide (1073741824 < e.n)) || (e.op == 2) && (decide (e.n < 0) || decide (vars ≤ e.n)) || decide (2 < e.op) && e.n != 0) = c4
 cases c1 <;> cases c2 <;> cases c3 <;> cases c4 <;> first | exact loop rfl | rfl
theorem PO (k : Ex × Int → Option Bool) (e : Ex) (vars : Int) : dB k e vars = fJ k e vars (fB e.op) := by
 unfold dB iX lZ fB
 generalize (e.op == 1) = c1
 generalize (e.op == 2) = c2
 generalize (e.op == 13) = c3
 generalize (e.op == 14) = c4
 generalize (e.op == 6) = c5
 generalize (e.op == 15) = c6
 generalize (e.op == 20) = c7
 generalize (e.op == 21) = c8
 generalize (e.op == 22) = c9
 cases c1
 ·cases c2
  ·cases c3
   ·cases c4
    ·cases c5
     ·cases c6
      ·cases c7
       ·cases c8
        ·cases c9 <;> rfl
        ·rfl
       ·rfl
      ·rfl
     ·rfl
    ·rfl
   ·rfl
  ·rfl
 ·rfl
theorem JQ : ∀ (N : Nat) (e : Ex) (vars : Int), e.sz ≤ N → e.sz < 4611686018427387904 → al (fun k (s : Ex × Int) => dB k s.1 s.2) N (e, vars) = some (dv vars e) := by
 intro N
 induction N with
 | zero => intro e _ h; have := jN e; omega
 | succ N ih =>
  intro e vars h hb
  rw [ao]
  show dB _ e vars = _
  have hl := sF e
  rw [PO, Pb _ e vars _ (fun x hx => ih x vars (by have := gP hx; omega) (by have := gP hx; omega)) (by omega), yZ]
theorem Ol (e : Ex) (h : e.sz < 4611686018427387904) (vars : Int) : iw e vars = some (dv vars e) := JQ aq e vars (by show e.sz ≤ 2 ^ 64; omega) h
end Go.Proofs.YtpnogcmollnjeaaGreatDoor
namespace Go.Proofs.YtpnogcmollnjeaaGreatDoor
theorem AI (k : Ex × Int → Option Int) (e : Ex) (most : Int) (hk : ∀ x ∈ e.l, ∀ m, ∃ d, k (x, m) = some d) (hl : e.l.length < 4611686018427387904) :
  ∀ (r pre : List Ex), e.l = pre ++ r → ∀ (M : Nat) (d : Int), r.length < M → ∃ v, al (dM k e most) M (d, (pre.length : Int)) = some v
 | [], pre, h, M, d, hM => by
  obtain ⟨m, rfl⟩ : ∃ m, M = m + 1 := ⟨M - 1, by simp at hM; omega⟩
  rw [ao]
  simp only [dM, Cl h, aN, Bool.false_and, cond_false]
  exact ⟨_, rfl⟩
 | x :: r, pre, h, M, d, hM => by
  obtain ⟨m, rfl⟩ : ∃ m, M = m + 1 := ⟨M - 1, by omega⟩
  rw [ao]
  obtain ⟨dx, hx⟩ := hk x (by rw [h]; simp) (IntKind.i64.wrap (most - 1))
  have hlen : pre.length < 4611686018427387904 := by rw [h] at hl; simp at hl; omega
  have ih := fun d => AI k e most hk hl r (pre ++ [x]) (by rw [h]; simp) m d (by simp at hM; omega)
  rw [show ((pre ++ [x]).length : Int) = ((pre.length + 1 : Nat) : Int) by simp] at ih
  simp only [dM, BN h, aN, Bool.true_and]
  cases decide (1 < most)
  ·simp only [cond_false]; exact ⟨_, rfl⟩
  ·simp only [cond_true, sy h, ai, hx, rV hlen]
   cases decide (d < IntKind.i64.wrap (1 + dx))
   ·simp only [cond_false]; exact ih _
   ·simp only [cond_true]; exact ih _
theorem IP : ∀ (N : Nat) (e : Ex) (most : Int), e.sz ≤ N → e.sz < 4611686018427387904 → ∃ d, al (fun k (s : Ex × Int) => jb k s.1 s.2) N (e, most) = some d := by
 intro N
 induction N with
 | zero => intro e _ h; have := jN e; omega
 | succ N ih =>
  intro e most h hb
  rw [ao]
  show ∃ d, al (dM _ e most) aq (1, 0) = some d
  have hl := sF e
  exact AI _ e most (fun x hx m => ih x m (by have := gP hx; omega) (by have := gP hx; omega)) (by omega) e.l [] rfl aq 1 (by show e.l.length < 2 ^ 64; omega)
theorem Aq (k : Ex × Int → Option Int) (e : Ex) (most : Int) (hk : ∀ x ∈ e.l, ∀ m, ∃ d, k (x, m) = some d) (hl : e.l.length < 4611686018427387904) :
  ∀ (r pre : List Ex), e.l = pre ++ r → ∀ (M : Nat) (d : Int), r.length < M → ∃ v, al (dJ k e most) M (d, (pre.length : Int)) = some v
 | [], pre, h, M, d, hM => by
  obtain ⟨m, rfl⟩ : ∃ m, M = m + 1 := ⟨M - 1, by simp at hM; omega⟩
  rw [ao]
  simp only [dJ, Cl h, aN, Bool.false_and, cond_false]
  exact ⟨_, rfl⟩
 | x :: r, pre, h, M, d, hM => by
  obtain ⟨m, rfl⟩ : ∃ m, M = m + 1 := ⟨M - 1, by omega⟩
  rw [ao]
  obtain ⟨dx, hx⟩ := hk x (by rw [h]; simp) most
  have hlen : pre.length < 4611686018427387904 := by rw [h] at hl; simp at hl; omega
  have ih := fun d => Aq k e most hk hl r (pre ++ [x]) (by rw [h]; simp) m d (by simp at hM; omega)
  rw [show ((pre ++ [x]).length : Int) = ((pre.length + 1 : Nat) : Int) by simp] at ih
  simp only [dJ, BN h, aN, Bool.true_and]
  cases decide (d < most)
  ·simp only [cond_false]; exact ⟨_, rfl⟩
  ·simp only [cond_true, sy h, ai, hx, rV hlen]; exact ih _
theorem HW : ∀ (N : Nat) (e : Ex) (most : Int), e.sz ≤ N → e.sz < 4611686018427387904 → ∃ d, al (fun k (s : Ex × Int) => jc k s.1 s.2) N (e, most) = some d := by
 intro N
 induction N with
 | zero => intro e _ h; have := jN e; omega
 | succ N ih =>
  intro e most h hb
  rw [ao]
  show ∃ d, al (dJ _ e most) aq (1, 0) = some d
  have hl := sF e
  exact Aq _ e most (fun x hx m => ih x m (by have := gP hx; omega) (by have := gP hx; omega)) (by omega) e.l [] rfl aq 1 (by show e.l.length < 2 ^ 64; omega)
theorem Js (e : Ex) (h : e.sz < 4611686018427387904) : ∃ b, fz e = some b := by
 obtain ⟨d, hd⟩ := IP aq e 45 (by show e.sz ≤ 2 ^ 64; omega) h
 obtain ⟨m, hm⟩ := HW aq e 300 (by show e.sz ≤ 2 ^ 64; omega) h
 refine ⟨decide (d < 45) && decide (m < 300), ?_⟩
 unfold fz gM gY
 rw [hd, hm]
 rfl
end Go.Proofs.YtpnogcmollnjeaaGreatDoor
namespace Go.Proofs.YtpnogcmollnjeaaGreatDoor
namespace Ls
open Sp
/-! which trees are formulas, as the document says it -/
theorem Nb {e : Ex} (h : e.sz < 1152921504606846976) (vars : Int) : ∃ b, dN e vars = some b ∧ (b = true → Fm vars e) := by
 unfold dN
 obtain ⟨f, hf⟩ := Js e (by omega)
 rw [hf, ai, Ol e (by omega), ai]
 simp only [aN]
 cases f
 ·exact ⟨_, rfl, fun h => by cases h⟩
 ·cases hm : dv vars e
  ·exact ⟨_, rfl, fun h => by cases h⟩
  ·simp only [Bool.not_true, Bool.or_self, cond_false]
   rw [B0 e h, ai]
   refine ⟨_, rfl, fun hb => ?_⟩
   simp only [Bool.and_eq_true, beq_iff_eq, bne_iff_ne, ne_eq] at hb
   rw [← yt e.sz e (Nat.le_refl _)] at hb
   exact ⟨hm, hb.1, hb.2, by omega⟩
/-! a formula's negation -/
noncomputable def neg (e : Ex) : Ex := .mk 15 0 0 [e]
theorem CL {e : Ex} (h : (ty e).2.1 = 0) : ty (neg e) = kL 15 0 ((ty e).1 == 1) ((ty e).1 == 2) ((ty e).1 != 1) := by
 unfold neg
 rw [yi]
 simp only [Ex.op, Ex.at_, Ex.l, tyA, h]
 rfl
theorem Oe {vars : Int} {e : Ex} (h : Fm vars e) (hs : e.sz < 4611686018427387900) : Fm vars (neg e) := by
 have h1 : ((ty e).1 != 1) = true := by simpa using h.ne
 have hm : dv vars (neg e) = true := by
  unfold neg
  simp only [dv, jK, h.may]
  rfl
 refine ⟨hm, ?_, ?_, ?_⟩
 ·rw [CL h.ok, h1]
  cases ((ty e).1 == 2) <;> cases ((ty e).1 == 1) <;> rfl
 ·rw [CL h.ok, h1]
  cases ((ty e).1 == 2) <;> cases ((ty e).1 == 1) <;> decide
 ·rw [Ex.F9]; simp only [neg, Ex.l, szL]; omega
theorem Nd {vars : Int} {e : Ex} (h : Fm vars e) : nw (neg e) = nw e := by
 have h1 : ((ty e).1 != 1) = true := by simpa using h.ne
 unfold nw
 rw [CL h.ok, h1, h.ok]
 cases ((ty e).1 == 2) <;> cases ((ty e).1 == 1) <;> rfl
theorem HE {V : List (List Int)} {f : List Int → Bool} {i : Nat} (h : i < V.length) : rd (V.map f) i = f V[i] := by
 simp [rd, List.getD, h]
theorem OZ {vars : Int} {e : Ex} (h : Fm vars e) (V : List (List Int)) (lp : Nat) {i : Nat} (hi : i < V.length) : rd (sm V lp (neg e)) i = !rd (sm V lp e) i := by
 rw [Bv V lp (neg e), Nd h]
 cases hl : nw e
 ·rw [cond_false]
  simp only [neg, Ex.op, Ex.l, sm0, comb, if_true]
  rw [ux hi]
 ·rw [cond_true, Bv, hl, cond_true, HE hi, HE hi]
  have h2 : (rt e).1 = 2 := by
   rw [← yt e.sz e (Nat.le_refl _)]
   unfold nw at hl
   simp only [Bool.and_eq_true, beq_iff_eq] at hl
   exact hl.2
  rw [Hk _ (neg e)]
  simp only [neg, Ex.op, Ex.n, Ex.l, ev0, ev1]
  rcases Pp V[i] e.sz e (Nat.le_refl _) h2 with k | k <;> rw [k] <;> rfl
theorem Im {vars : Int} {m : Sy.Mdl} {e : Ex} {l : Las} (h : Fm vars e) (hw : tD m l = true) : nN m (neg e) l = !nN m e l := by
 have hc := Cp hw
 have hp : 0 < l.2.length := List.length_pos_iff.2 hc
 unfold nN
 rw [hw, Bool.true_and, Bool.true_and, OZ h _ _ (by simp; omega)]
theorem AT {m : Sy.Mdl} {e : Ex} {l : Las} (hw : tD m l = false) : nN m e l = false := by unfold nN; rw [hw]; rfl
theorem G3 : gr = some true := by kernel_rfl
theorem Small.rows {l : Las} {n : Nat} (h : Small l n) : ∀ v ∈ l.1 ++ l.2, v.length < 1000000000 := fun v hv => by
 rcases List.mem_append.1 hv with hv | hv
 ·have := h.rows1 v hv; omega
 ·have := h.rows2 v hv; omega
theorem ES (text : Str) (e : Ex) (l : Las) (hs : e.sz ≤ 1048576) : dS text e l = some true := by
 unfold dS
 obtain ⟨q, hq, hw⟩ := KI text
 rw [G3, ai, hq, ai]
 simp only [aN]
 cases h2 : q.2
 ·simp only [Bool.not_false, Bool.not_true, ij, Bool.true_or]
  rfl
 ·simp only [Bool.not_true, Bool.not_false, cZ, Bool.false_or]
  rw [OC l 20 (by omega), ai]
  cases hf : DP l 20
  ·simp only [Bool.not_false, ij, Bool.true_or, Bool.not_true]
   rfl
  ·obtain ⟨b, hb, hb2⟩ := Nb (e := e) (by omega) (q.1.1.length : Int)
   simp only [Bool.not_true, Bool.not_false, cZ, Bool.false_or]
   rw [hb, ai]
   cases b
   ·rfl
   ·have hfm := hb2 rfl
    have hsm := (MC (hw h2)).tojI
    have hl := Ng (n := 20) hf
    have hn : l.1.length + l.2.length ≤ 40 := by have := hl.stem; have := hl.cyc; omega
    have v1 := BY hsm hn (by omega) hl.rows hfm
    have v2 := BY hsm hn (by omega) hl.rows (Oe hfm (by omega))
    have v3 := Ir hsm hn (by omega) hl.rows
    simp only [Bool.not_true, cond_false]
    rw [v1, ai, show Ex.mk 15 0 0 [e] = neg e from rfl, v2, ai, v3, ai]
    cases hwy : tD q.1 l
    ·rw [AT hwy, AT hwy]; rfl
    ·rw [Im hfm hwy]
     cases nN q.1 e l <;> rfl
end Ls
end Go.Proofs.YtpnogcmollnjeaaGreatDoor
namespace Go.Proofs.YtpnogcmollnjeaaGreatDoor
open Go.Lib Go.ChangeAt Go.ChangeShapes Go.WideShapes Go.RowKit
theorem Ab {P : Program} {w : World} : ∀ (l : List (String × DataW Unit)) (ps : List MemPlace), DataW.LaidVars P w l ps → ∀ (i : Nat) (n : String) (d : DataW Unit), l[i]? = some (n, d) →
  ∃ g t cs fuel p, P.globalNamed n = some g ∧ (P.globals[g]?).map (·.type) = some t ∧ w.var? P n = some cs ∧ DataW.trod (fun _ => ()) P w 0 (fun _ => true) false fuel t cs.toList = some (d, p)
 | [], _, _, i, n, d, h => by simp at h
 | (n0, d0) :: l, ps, h, i, n, d, hi => by
  obtain ⟨g, t, cs, fuel, p, q, h1, h2, h3, h4, h5, _⟩ := h
  cases i with
  | zero =>
   simp only [List.getElem?_cons_zero, Option.some.injEq, Prod.mk.injEq] at hi
   obtain ⟨rfl, rfl⟩ := hi
   exact ⟨g, t, cs, fuel, p, h1, h2, h3, h4⟩
  | succ i => exact Ab l q h5 i n d (by simpa using hi)
theorem Bl {H : Type} {enc : TypeId × Value → H} {P : Program} {w : World} {base : Nat} {sp : Nat → Bool} {held : Bool} {fuel : Nat} {t e : TypeId} {n : Nat} {cs : List Value} {zs : List Str} {p : List MemPlace}
  (ht : P.underlying t = some (.array n e)) (he : P.underlying e = some .string) (hce : P.cellsOf e = 1) (hct : P.cellsOf t = n)
  (h : DataW.trod enc P w base sp held fuel t cs = some (.agg (zs.map fun z => .lit (.string z)), p)) : cs = zs.map S := by
 cases fuel with
 | zero => simp [DataW.trod] at h
 | succ fuel =>
  simp only [DataW.trod, ht, hce, hct, Nat.mul_one] at h
  split at h
  ·rename_i hl
   obtain ⟨xs, hm, hx⟩ := Option.map_eq_some_iff.1 h
   have hxs : xs.map (·.1) = zs.map fun z => (DataW.lit (.string z) : DataW H) := by
    have := congrArg Prod.fst hx
    simpa using this
   have hxl : xs.length = n := by simpa using mapM_length hm
   have hzl : zs.length = n := by
    have := congrArg List.length hxs
    simp at this
    omega
   apply List.ext_getElem?
   intro i
   by_cases hi : i < n
   ·obtain ⟨b, hb, hf⟩ := mapM_at hm i i (by simp [hi])
    obtain ⟨z, hc, rfl, _⟩ := DataW.trod_string he hf
    have h1 : cs[i]? = some (.string z) := by
     have := congrArg (·[0]?) hc
     simpa [List.getElem?_take, List.getElem?_drop] using this
    have h2 : (xs.map (·.1))[i]? = some (DataW.lit (.string z.data.toList) : DataW H) := by simp [hb]
    rw [hxs] at h2
    simp only [List.getElem?_map, Option.map_eq_some_iff, DataW.lit.injEq, Lit.string.injEq] at h2
    obtain ⟨z', hz', hz2⟩ := h2
    subst hz2
    simp [h1, hz', S]
   ·rw [List.getElem?_eq_none (by omega), List.getElem?_eq_none (by simp; omega)]
  ·cases h
theorem GF {P : Program} {laid : List (String × DataW Unit)} {w : World} (hf : (laid.filter fun x => x.2.handleName?.isSome) = []) (h : laidMetH P laid w) : laidMet P laid w := by
 unfold laidMetH at h
 rw [hf] at h
 exact h
theorem gl_strs {P : Program} {laid : List (String × DataW Unit)} {w : World} {Γ : Ctx} (h : laidMet P laid w) (i : Nat) {n : String} {zs : List Str} {g : Nat} {t e : TypeId} {k : Nat}
  (hi : laid[i]? = some (n, .agg (zs.map fun z => .lit (.string z)))) (hg : P.globalNamed n = some g) (hty : (P.globals[g]?).map (·.type) = some t)
  (ht : P.underlying t = some (.array k e)) (he : P.underlying e = some .string) (hce : P.cellsOf e = 1) (hct : P.cellsOf t = k) (hM : ¬ Γ.M g) : (gl g (zs.map S)).P Γ.M w := by
 obtain ⟨ps, hl, _⟩ := h
 obtain ⟨g', t', cs, fuel, p, hg', ht', hv, hd⟩ := Ab _ _ hl i n _ hi
 obtain rfl := Option.some.inj (hg.symm.trans hg')
 obtain rfl := Option.some.inj (hty.symm.trans ht')
 have e1 := Bl ht he hce hct hd
 refine ⟨hM, ?_⟩
 unfold World.var? at hv
 rw [hg] at hv
 simp only [Option.bind_some] at hv
 split at hv
 ·rename_i c ty fr hb
  obtain rfl := Option.some.inj hv
  exact ⟨ty, fr, by rw [hb, ← e1]⟩
 ·cases hv
theorem NS {P : Program} {laid : List (String × DataW Unit)} {w : World} {Γ : Ctx} (h : laidMet P laid w) (i : Nat) {n : String} {kd : IntKind} {zs : List Int} {g : Nat} {t e : TypeId} {k : Nat}
  (hi : laid[i]? = some (n, tabData kd zs)) (hg : P.globalNamed n = some g) (hty : (P.globals[g]?).map (·.type) = some t)
  (ht : P.underlying t = some (.array k e)) (he : P.underlying e = some (.int kd)) (hce : P.cellsOf e = 1) (hct : P.cellsOf t = k) (hM : ¬ Γ.M g) : (gl g (zs.map (Value.int kd))).P Γ.M w := by
 obtain ⟨ps, hl, _⟩ := h
 obtain ⟨g', t', cs, fuel, p, hg', ht', hv, hd⟩ := Ab _ _ hl i n _ hi
 obtain rfl := Option.some.inj (hg.symm.trans hg')
 obtain rfl := Option.some.inj (hty.symm.trans ht')
 have e1 := cells_of_tab ht he hce hct hd
 refine ⟨hM, ?_⟩
 unfold World.var? at hv
 rw [hg] at hv
 simp only [Option.bind_some] at hv
 split at hv
 ·rename_i c ty fr hb
  obtain rfl := Option.some.inj hv
  exact ⟨ty, fr, by rw [hb, ← e1]⟩
 ·cases hv
/-! the row at the start: nothing is owned -/
def NoM (Γ : Ctx) : Prop := ∀ b, ¬ Γ.M b
theorem FN : NoM [] := fun b h => by obtain ⟨it, h, _⟩ := h; cases h
theorem Dx {it : Item} {Γ : Ctx} (hp : it.own = []) (h : NoM Γ) : NoM (it :: Γ) := fun b hb => by
 rcases Ctx.pZ.1 hb with h1 | h1
 ·rw [hp] at h1; cases h1
 ·exact h b h1
theorem HA (w : World) : Sat [kept w (fun _ => False)] w := Sat.nil.add rfl ⟨db.refl w, Nat.le_refl _, fun b _ _ => ⟨FN b, rfl⟩⟩
theorem HY (w : World) : NoM [kept w (fun _ => False)] := Dx rfl FN
theorem JL {w : World} {Γ : Ctx} (h : NoM Γ) : Mv (fun _ => False) w Γ.M w := ⟨Nat.le_refl _, fun b _ _ => ⟨h b, rfl⟩⟩
theorem Ip {w w' : World} {Γ : Ctx} {i : Nat} (h : Sat Γ w') (hi : Γ[i]? = some (kept w (fun _ => False))) : Below w.heap.size w w' := by
 obtain ⟨h1, h2, h3⟩ := h.kept hi
 exact ⟨h1.os, h1.tape, h1.output, h2, fun k hk => (h3 k hk (fun h => h)).2⟩
end Go.Proofs.YtpnogcmollnjeaaGreatDoor
namespace Go.Proofs.YtpnogcmollnjeaaGreatDoor
open Go.Lib Go.ChangeAt Go.ChangeShapes Go.WideShapes Go.RowKit
theorem xX {Y : Type} (R : Nat → Y → Ex → Prop) : ∀ (ys : List Y), (∀ i y, ys[i]? = some y → ∃ e, R i y e) → ∃ l : List Ex, l.length = ys.length ∧ ∀ i y e, ys[i]? = some y → l[i]? = some e → R i y e
 | [], _ => ⟨[], rfl, fun i y e h => by simp at h⟩
 | y :: ys, h => by
  obtain ⟨e, he⟩ := h 0 y rfl
  obtain ⟨l, hl, hr⟩ := xX (fun i => R (i + 1)) ys (fun i y hy => h (i + 1) y (by simpa using hy))
  refine ⟨e :: l, by simp [hl], fun i y' e' hy hx => ?_⟩
  cases i with
  | zero =>
   simp only [List.getElem?_cons_zero, Option.some.injEq] at hy hx
   subst hy; subst hx; exact he
  | succ i => exact hr i y' e' (by simpa using hy) (by simpa using hx)
theorem I6 {H : Type} : ∀ (l : List Ex) (ds : List (DataW H)), l.length = ds.length → (∀ (i : Nat) (e : Ex) (d : DataW H), l[i]? = some e → ds[i]? = some d → e.sz ≤ Rows.uptoBulk d) → szL l ≤ Rows.uptoBulkAll ds
 | [], [], _, _ => Nat.le_refl _
 | e :: l, d :: ds, hl, h => by
  have h1 := h 0 e d rfl rfl
  have h2 := I6 l ds (by simpa using hl) (fun i e d he hd => h (i + 1) e d (by simpa using he) (by simpa using hd))
  simp only [szL, Rows.uptoBulkAll]
  omega
 | [], _ :: _, h, _ => by simp at h
 | _ :: _, [], h, _ => by simp at h
theorem xA {H : Type} (d : DataW H) : 1 ≤ Rows.uptoBulk d := by
 cases d with
 | lit l => cases l <;> simp [Rows.uptoBulk]
 | nil => simp [Rows.uptoBulk]
 | ptr d => simp [Rows.uptoBulk]
 | slice elems spare => simp [Rows.uptoBulk]
 | agg parts => simp [Rows.uptoBulk]
 | iface t d => simp [Rows.uptoBulk]
 | map entries => simp [Rows.uptoBulk]
 | held h => simp [Rows.uptoBulk]
theorem jQ {H : Type} {d : DataW H} : ∀ {l : List (DataW H)}, d ∈ l → Rows.uptoBulk d ≤ Rows.uptoBulkAll l
 | x :: r, h => by
  simp only [Rows.uptoBulkAll]
  rcases List.mem_cons.1 h with rfl | h
  ·omega
  ·have := jQ h; omega
structure Jb (P : Program) (t : TypeId) : Prop where
 fields : ∃ (fs : Array Field) (f0 f1 f2 f3 : Field), P.underlying t = some (.struct fs) ∧ fs.size = 4 ∧ fs[0]? = some f0 ∧ fs[1]? = some f1 ∧ fs[2]? = some f2 ∧ fs[3]? = some f3 ∧
  (f0.offset = 0 ∧ P.underlying f0.type = some (.int .i64) ∧ P.cellsOf f0.type = 1) ∧ (f1.offset = 1 ∧ P.underlying f1.type = some (.int .i64) ∧ P.cellsOf f1.type = 1) ∧
  (f2.offset = 2 ∧ P.underlying f2.type = some (.int .i64) ∧ P.cellsOf f2.type = 1) ∧ (f3.offset = 3 ∧ P.underlying f3.type = some (.slice t) ∧ P.cellsOf f3.type = 1)
 cells : P.cellsOf t = 4
theorem OH {P : Program} {w : World} {base : Nat} {t : TypeId} {v : Value} {fs : Array Field} (ht : P.underlying t = some (.struct fs)) (h : Value.okWide P w .any base t v) :
  ∃ cs, v = .agg cs ∧ cs.size = P.cellsOf t ∧ Row.okWide P w .any base t cs := by
 unfold Value.okWide at h
 rw [ht] at h
 exact h
theorem Hc {w : World} {a : Addr} {v : Value} (h : w.cell? a = some v) : a.spot = none ∧ ∃ cs e fr, w.heap[a.block]? = some (.cells cs e fr) ∧ cs[a.off]? = some v := by
 unfold World.cell? at h
 split at h
 ·rename_i cs e fr hb
  split at h
  ·cases h
  ·rename_i hs
   exact ⟨by simpa using hs, cs, e, fr, hb, h⟩
 ·cases h
theorem Gz {H : Type} {enc : TypeId × Value → H} {P : Program} {W : World} {t : TypeId} (L : Jb P t) : ∀ (fuel : Nat) (cs : List Value) (x : DataW H × List MemPlace),
  DataW.trod enc P W 0 (fun _ => true) true fuel t cs = some x → ∃ e, mN (fun _ => False) W cs e ∧ e.sz ≤ Rows.uptoBulk x.1 := by
 intro fuel
 induction fuel using Nat.strongRecOn with
 | ind fuel ih =>
 intro cs x h
 obtain ⟨⟨fs, f0, f1, f2, f3, hT, hsz, g0, g1, g2, g3, ⟨o0, u0, c0⟩, ⟨o1, u1, c1⟩, ⟨o2, u2, c2⟩, ⟨o3, u3, c3⟩⟩, hc⟩ := L
 obtain ⟨xs, n, rfl, rfl, hl, hxs, hf⟩ := DataW.trod_struct hT h
 rw [hc] at hl
 rw [hsz] at hxs
 obtain ⟨a0, a1, a2, a3, rfl⟩ : ∃ a0 a1 a2 a3, cs = [a0, a1, a2, a3] := by
  match cs, hl with
  | [a, b, c, d], _ => exact ⟨a, b, c, d, rfl⟩
 obtain ⟨x0, x1, x2, x3, rfl⟩ : ∃ a0 a1 a2 a3, xs = [a0, a1, a2, a3] := by
  match xs, hxs with
  | [a, b, c, d], _ => exact ⟨a, b, c, d, rfl⟩
 have t0 := hf 0 f0 g0
 have t1 := hf 1 f1 g1
 have t2 := hf 2 f2 g2
 have t3 := hf 3 f3 g3
 rw [o0, c0] at t0; rw [o1, c1] at t1; rw [o2, c2] at t2; rw [o3, c3] at t3
 simp only [List.drop_zero, List.take_succ_cons, List.take_zero, List.drop_succ_cons, List.getElem?_cons_zero, List.getElem?_cons_succ] at t0 t1 t2 t3
 obtain ⟨z0, e0, _, _⟩ := DataW.trod_int u0 t0
 obtain ⟨z1, e1, _, _⟩ := DataW.trod_int u1 t1
 obtain ⟨z2, e2, _, _⟩ := DataW.trod_int u2 t2
 obtain rfl : a0 = .int .i64 z0 := by simpa using e0
 obtain rfl : a1 = .int .i64 z1 := by simpa using e1
 obtain rfl : a2 = .int .i64 z2 := by simpa using e2
 have hb : ∀ d, x3.1 = d → Rows.uptoBulk d + 1 ≤ Rows.uptoBulk (DataW.agg ([x0, x1, x2, x3].map (·.1))) := fun d hd => by
  subst hd
  have := jQ (d := x3.1) (l := [x0, x1, x2, x3].map (·.1)) (by simp)
  simp only [Rows.uptoBulk]
  omega
 rcases DataW.trod_slice u3 t3 with ⟨h3, hx3⟩ | ⟨a, len, cap, elems, rest, m, rfl, h3, hx3, _, hlc, _, hlen, hel, hsp, _⟩
 ·obtain rfl : a3 = .slice none 0 0 := by simpa using h3
  refine ⟨.mk z0 z1 z2 [], .nil z0 z1 z2 none, ?_⟩
  have := hb _ rfl
  have := xA x3.1
  simp only [Ex.sz, szL]
  omega
 ·obtain rfl : a3 = .slice (some a) len cap := by simpa using h3
  obtain ⟨hrl, hre⟩ := hsp rfl
  rw [hc] at hel hre
  -- all of it is there
  have cell : ∀ i, i < cap → ∃ us y, W.cells? 0 (a.add (i * 4)) 4 = some us ∧ us.length = 4 ∧ (∀ j, j < 4 → W.cell? ((a.add (i * 4)).add j) = us[j]?) ∧ DataW.trod enc P W 0 (fun _ => true) true m t us = some y ∧ (i < len → elems[i]? = some y) := fun i hi => by
   by_cases hil : i < len
   ·obtain ⟨y, hy⟩ : ∃ y, elems[i]? = some y := ⟨elems[i]'(by omega), List.getElem?_eq_getElem _⟩
    have := hel i hil
    rw [hy, Option.bind_eq_some_iff] at this
    obtain ⟨us, h1, h2⟩ := this
    obtain ⟨_, h3, h4⟩ := World.cells?_some h1
    exact ⟨us, y, h1, h3, h4, h2, fun _ => hy⟩
   ·obtain ⟨y, hy⟩ : ∃ y, rest[i - len]? = some y := ⟨rest[i - len]'(by omega), List.getElem?_eq_getElem _⟩
    have := hre (i - len) (by omega)
    rw [hy, Option.bind_eq_some_iff] at this
    obtain ⟨us, h1, h2⟩ := this
    have e : len + (i - len) = i := by omega
    rw [e] at h1
    obtain ⟨_, h3, h4⟩ := World.cells?_some h1
    exact ⟨us, y, h1, h3, h4, h2, fun h => absurd h hil⟩
  by_cases hcap : cap = 0
  ·subst hcap
   obtain rfl : len = 0 := by omega
   refine ⟨.mk z0 z1 z2 [], .nil z0 z1 z2 (some a), ?_⟩
   have := hb _ rfl
   have := xA x3.1
   simp only [Ex.sz, szL]
   omega
  ·obtain ⟨us0, _, _, hl0, hc0, _⟩ := cell 0 (by omega)
   have h00 := hc0 0 (by omega)
   rw [List.getElem?_eq_getElem (by omega)] at h00
   obtain ⟨hs, cs', e', fr, hblk, _⟩ := Hc h00
   have hs' : a.spot = none := by simpa [Addr.add] using hs
   have hblk' : W.heap[a.block]? = some (.cells cs' e' fr) := by simpa [Addr.add] using hblk
   obtain ⟨b, off, sp⟩ := a
   simp only at hs' hblk'
   subst hs'
   have at_ : ∀ i j, ((⟨b, off, none⟩ : Addr).add (i * 4)).add j = ⟨b, off + i * 4 + j, none⟩ := fun i j => by
    unfold Addr.add
    split <;> split <;> simp_all
   have cellx : ∀ i, i < cap → ∃ us y, us.length = 4 ∧ (∀ j, j < 4 → cs'[off + i * 4 + j]? = us[j]?) ∧ DataW.trod enc P W 0 (fun _ => true) true m t us = some y ∧ (i < len → elems[i]? = some y) := fun i hi => by
    obtain ⟨us, y, _, h3, h4, h5, h6⟩ := cell i hi
    refine ⟨us, y, h3, fun j hj => ?_, h5, h6⟩
    have := h4 j hj
    rw [at_] at this
    simpa [World.cell?, hblk'] using this
   have hsize : off + cap * 4 ≤ cs'.size := by
    obtain ⟨us, _, h3, h4, _⟩ := cellx (cap - 1) (by omega)
    have := h4 3 (by omega)
    rw [List.getElem?_eq_getElem (by omega)] at this
    have := (Array.getElem?_eq_some_iff.1 this).1
    omega
   have hel' : ∀ i y, elems[i]? = some y → ∃ e, (mN (fun _ => False) W (((cs'.toList.drop off).drop (i * 4)).take 4) e ∧ e.sz ≤ Rows.uptoBulk y.1) := fun i y hy => by
    have hi : i < len := by rw [← hlen]; exact (List.getElem?_eq_some_iff.1 hy).1
    obtain ⟨us, y', h3, h4, h5, h6⟩ := cellx i (by omega)
    obtain rfl : y' = y := by have := h6 hi; rw [hy] at this; exact (Option.some.inj this).symm
    have hus : ((cs'.toList.drop off).drop (i * 4)).take 4 = us := by
     apply List.ext_getElem?
     intro j
     by_cases hj : j < 4
     ·rw [List.getElem?_take, if_pos hj, List.getElem?_drop, List.getElem?_drop, ← h4 j hj]
      simp [Nat.add_assoc]
     ·rw [List.getElem?_take, if_neg hj, List.getElem?_eq_none (by omega)]
    rw [hus]
    exact ih m (by omega) us y' h5
   obtain ⟨l, hll, hR⟩ := xX (fun i y e => mN (fun _ => False) W (((cs'.toList.drop off).drop (i * 4)).take 4) e ∧ e.sz ≤ Rows.uptoBulk y.1) elems hel'
   have hll' : l.length = len := by omega
   refine ⟨.mk z0 z1 z2 l, ?_, ?_⟩
   ·rw [← hll']
    refine .some z0 z1 z2 l b off cap cs' e' fr (fun h => h) hblk' (by omega) (by omega) ?_ (fun i hi => ?_)
    ·simp only [List.length_take, List.length_drop, Array.length_toList]
     omega
    ·obtain ⟨y, hy⟩ : ∃ y, elems[i]? = some y := ⟨elems[i]'(by omega), List.getElem?_eq_getElem _⟩
     have := (hR i y l[i] hy (List.getElem?_eq_getElem _)).1
     rw [List.drop_take, List.take_take]
     have e4 : min 4 (l.length * 4 - i * 4) = 4 := by omega
     rw [e4]
     exact this
   ·have h1 := I6 l (elems.map (·.1)) (by simp [hll]) (fun i e d he hd => by
     rw [List.getElem?_map, Option.map_eq_some_iff] at hd
     obtain ⟨y, hy, rfl⟩ := hd
     exact (hR i y e hy he).2)
    have h2 : x3.1 = .slice (elems.map (·.1)) (rest.map (·.1)) := by rw [hx3]
    have h3 := hb _ h2
    simp only [Ex.sz]
    have h4 : Rows.uptoBulk (DataW.slice (elems.map (·.1)) (rest.map (·.1))) = Rows.uptoBulkAll (elems.map (·.1)) + Rows.uptoBulkAll (rest.map (·.1)) + 1 := by simp only [Rows.uptoBulk]
    omega
end Go.Proofs.YtpnogcmollnjeaaGreatDoor
namespace Go.Proofs.YtpnogcmollnjeaaGreatDoor
open Go.Lib Go.ChangeAt Go.ChangeShapes Go.WideShapes Go.RowKit
open Go.ChangeMaps (open_string)
def kH : Ty → List (Option TypeId)
 | .p a b => kH a ++ kH b
 | .l _ | .ex => [none]
 | _ => []
def OD : Ty → Pt
 | .i k => .int k
 | .bo => .bool
 | .s => .str
 | .l t => .sli t
 | t => .dat t (kH t)
def Dom (Q : Nat → Prop) : (t : Ty) → t.T → Prop
 | .i k, x => (Lit.int k x).wf = true
 | .s, x => x.length ≤ 9223372036854775807
 | .p a b, x => Dom Q a x.1 ∧ Dom Q b x.2
 | .l t, x => (List.length (α := t.T) x ≤ 9223372036854775807 ∧ Q (List.length (α := t.T) x)) ∧ ∀ y : t.T, List.Mem y x → Dom Q t y
 | .ex, x => Q x.sz
 | _, _ => True
/-! the program's types and codes -/
def vl (P : Program) (t : TypeId) : Bool := (match P.underlying t with
 | some (.int .i64) => true
 | _ => false) && P.cellsOf t == 1
def exB (P : Program) (t : TypeId) : Bool := (match P.underlying t with
 | some (.struct fs) => (match fs.toList with
  | [f0, f1, f2, f3] => f0.offset == 0 && vl P f0.type && (f1.offset == 1 && vl P f1.type) && (f2.offset == 2 && vl P f2.type) && (f3.offset == 3 && P.cellsOf f3.type == 1 && (match P.underlying f3.type with
   | some (.slice e) => e == t
   | _ => false))
  | _ => false)
 | _ => false) && P.cellsOf t == 4
def vO (P : Program) (fit : TypeId → Ty → Bool) (tot : Nat) : List Field → Nat → Ty → Bool
 | [], _, _ => false
 | [f], off, t => f.offset == off && off + P.cellsOf f.type == tot && P.cellsOf f.type == t.rep.n && fit f.type t
 | f :: g :: fs, off, t => match t with
  | .p a b => f.offset == off && P.cellsOf f.type == a.rep.n && fit f.type a && vO P fit tot (g :: fs) (off + P.cellsOf f.type) b
  | _ => false
def fits (P : Program) : Nat → TypeId → Ty → Bool
 | 0, _, _ => false
 | n + 1, i, t => match P.underlying i with
  | some (.int k) => (match t with
   | .i k' => decide (k = k')
   | _ => false)
  | some .bool => (match t with
   | .bo => true
   | _ => false)
  | some .string => (match t with
   | .s => true
   | _ => false)
  | some (.slice e) => (match t with
   | .l u => P.cellsOf e == u.rep.n && Nat.blt 0 u.rep.n && fits P n e u
   | _ => false)
  | some (.struct fs) => (match t with
   | .ex => exB P i
   | .p a b => vO P (fits P n) (P.cellsOf i) fs.toList 0 (.p a b)
   | _ => false)
  | _ => false
theorem lx {P : Program} {t : TypeId} (h : vl P t = true) : P.underlying t = some (.int .i64) ∧ P.cellsOf t = 1 := by
 unfold vl at h
 simp only [Bool.and_eq_true, beq_iff_eq] at h
 refine ⟨?_, h.2⟩
 revert h
 split
 ·rename_i h; intro _; exact h
 ·intro h; cases h.1
theorem OI {P : Program} {t : TypeId} (h : exB P t = true) : Jb P t := by
 unfold exB at h
 simp only [Bool.and_eq_true, beq_iff_eq] at h
 obtain ⟨h1, h2⟩ := h
 split at h1
 ·rename_i fs hfs
  split at h1
  ·rename_i f0 f1 f2 f3 hl
   simp only [Bool.and_eq_true, beq_iff_eq] at h1
   obtain ⟨⟨⟨⟨a0, b0⟩, a1, b1⟩, a2, b2⟩, ⟨a3, c3⟩, b3⟩ := h1
   have g : ∀ i : Nat, fs[i]? = [f0, f1, f2, f3][i]? := fun i => by rw [← hl, Array.getElem?_toList]
   have u3 : P.underlying f3.type = some (.slice t) := by
    revert b3
    split
    ·rename_i e he
     intro hb
     rw [he, (by simpa using hb : e = t)]
    ·intro hb; cases hb
   refine ⟨⟨fs, f0, f1, f2, f3, hfs, ?_, g 0, g 1, g 2, g 3, ⟨a0, (lx b0).1, (lx b0).2⟩, ⟨a1, (lx b1).1, (lx b1).2⟩, ⟨a2, (lx b2).1, (lx b2).2⟩, ⟨a3, u3, c3⟩⟩, h2⟩
   rw [← Array.length_toList, hl]; rfl
  ·cases h1
 ·cases h1
theorem K4 {w : World} {a : Addr} {v : Value} (h : w.cell? a = some v) : a.spot = none ∧ ∃ cs e fr, w.heap[a.block]? = some (.cells cs e fr) ∧ cs[a.off]? = some v := by
 unfold World.cell? at h
 split at h
 ·rename_i cs e fr hb
  split at h
  ·cases h
  ·rename_i hs
   exact ⟨by simpa using hs, cs, e, fr, hb, h⟩
 ·cases h
theorem wJ {Y α : Type} (R : Nat → Y → α → Prop) : ∀ (ys : List Y), (∀ i y, ys[i]? = some y → ∃ e, R i y e) → ∃ l : List α, l.length = ys.length ∧ ∀ i y e, ys[i]? = some y → l[i]? = some e → R i y e
 | [], _ => ⟨[], rfl, fun i y e h => by simp at h⟩
 | y :: ys, h => by
  obtain ⟨e, he⟩ := h 0 y rfl
  obtain ⟨l, hl, hr⟩ := wJ (fun i => R (i + 1)) ys (fun i y hy => h (i + 1) y (by simpa using hy))
  refine ⟨e :: l, by simp [hl], fun i y' e' hy hx => ?_⟩
  cases i with
  | zero =>
   simp only [List.getElem?_cons_zero, Option.some.injEq] at hy hx
   subst hy; subst hx; exact he
  | succ i => exact hr i y' e' (by simpa using hy) (by simpa using hx)
theorem wC {H : Type} : ∀ (l : List (DataW H)), l.length ≤ Rows.uptoBulkAll l
 | [] => Nat.zero_le _
 | d :: l => by
  have := wC l
  have := xA d
  simp only [List.length_cons, Rows.uptoBulkAll]
  omega
theorem H7 {H α : Type} {enc : TypeId × Value → H} {P : Program} {W : World} {t e : TypeId} {A : Rep α} {Q : Nat → Prop} {D : α → Prop} (ht : P.underlying t = some (.slice e)) (hA : P.cellsOf e = A.n) (hn : 0 < A.n)
  (fuel : Nat) (cs : List Value) (x : DataW H × List MemPlace) (hQ : ∀ n, n ≤ Rows.uptoBulk x.1 → Q n)
  (he : ∀ (fuel : Nat) (us : List Value) (y : DataW H × List MemPlace), (∀ n, n ≤ Rows.uptoBulk y.1 → Q n) → DataW.trod enc P W 0 (fun _ => true) true fuel e us = some y → ∃ z, A.rd (fun _ => False) W us z ∧ D z)
  (h : DataW.trod enc P W 0 (fun _ => true) true fuel t cs = some x) :
  ∃ (u : SLV) (zs : List α), cs = [sl u] ∧ SRd A (fun _ => False) W (sl u) zs ∧ (zs.length ≤ 9223372036854775807 ∧ Q zs.length) ∧ ∀ z ∈ zs, D z := by
 rcases DataW.trod_slice ht h with ⟨h3, _⟩ | ⟨a, len, cap, elems, rest, m, rfl, h3, hx, _, hlc, hmx, hlen, hel, hsp, _⟩
 ·exact ⟨(none, 0, 0), [], h3, SRd.nil, ⟨by simp, hQ _ (Nat.zero_le _)⟩, by simp⟩
 ·obtain ⟨hrl, hre⟩ := hsp rfl
  rw [hA] at hel hre
  have hmx : cap ≤ 9223372036854775807 := hmx
  have hb : Rows.uptoBulk x.1 = Rows.uptoBulkAll (elems.map (·.1)) + Rows.uptoBulkAll (rest.map (·.1)) + 1 := by rw [hx]; simp only [Rows.uptoBulk]
  have hlb : len ≤ Rows.uptoBulk x.1 := by
   have := wC (elems.map (·.1))
   simp only [List.length_map] at this
   omega
  have hQe : ∀ y ∈ elems, ∀ n, n ≤ Rows.uptoBulk y.1 → Q n := fun y hy n hn => hQ n (by
   have := jQ (d := y.1) (l := elems.map (·.1)) (List.mem_map.2 ⟨y, hy, rfl⟩)
   omega)
  have cell : ∀ i, i < cap → ∃ us y, us.length = A.n ∧ (∀ j, j < A.n → W.cell? ((a.add (i * A.n)).add j) = us[j]?) ∧ DataW.trod enc P W 0 (fun _ => true) true m e us = some y ∧ (i < len → elems[i]? = some y) := fun i hi => by
   by_cases hil : i < len
   ·obtain ⟨y, hy⟩ : ∃ y, elems[i]? = some y := ⟨elems[i]'(by omega), List.getElem?_eq_getElem _⟩
    have := hel i hil
    rw [hy, Option.bind_eq_some_iff] at this
    obtain ⟨us, h1, h2⟩ := this
    obtain ⟨_, h3, h4⟩ := World.cells?_some h1
    exact ⟨us, y, h3, h4, h2, fun _ => hy⟩
   ·obtain ⟨y, hy⟩ : ∃ y, rest[i - len]? = some y := ⟨rest[i - len]'(by omega), List.getElem?_eq_getElem _⟩
    have := hre (i - len) (by omega)
    rw [hy, Option.bind_eq_some_iff, show len + (i - len) = i by omega] at this
    obtain ⟨us, h1, h2⟩ := this
    obtain ⟨_, h3, h4⟩ := World.cells?_some h1
    exact ⟨us, y, h3, h4, h2, fun h => absurd h hil⟩
  by_cases hcap : cap = 0
  ·subst hcap
   obtain rfl : len = 0 := by omega
   exact ⟨(some a, 0, 0), [], h3, SRd.emp, ⟨by simp, hQ _ (Nat.zero_le _)⟩, by simp⟩
  ·obtain ⟨us0, _, hl0, hc0, _⟩ := cell 0 (by omega)
   have h00 := hc0 0 hn
   rw [List.getElem?_eq_getElem (by omega)] at h00
   obtain ⟨hs, cs', e', fr, hblk, _⟩ := K4 h00
   have hs' : a.spot = none := by simpa [Addr.add] using hs
   have hblk' : W.heap[a.block]? = some (.cells cs' e' fr) := by simpa [Addr.add] using hblk
   obtain ⟨b, off, sp⟩ := a
   simp only at hs' hblk'
   subst hs'
   have at_ : ∀ i j, ((⟨b, off, none⟩ : Addr).add (i * A.n)).add j = ⟨b, off + i * A.n + j, none⟩ := fun i j => by
    unfold Addr.add
    split <;> split <;> simp_all
   have cellx : ∀ i, i < cap → ∃ us y, us.length = A.n ∧ (∀ j, j < A.n → cs'[off + i * A.n + j]? = us[j]?) ∧ DataW.trod enc P W 0 (fun _ => true) true m e us = some y ∧ (i < len → elems[i]? = some y) := fun i hi => by
    obtain ⟨us, y, h3, h4, h5, h6⟩ := cell i hi
    refine ⟨us, y, h3, fun j hj => ?_, h5, h6⟩
    have := h4 j hj
    rw [at_] at this
    simpa [World.cell?, hblk'] using this
   have hsize : off + cap * A.n ≤ cs'.size := by
    obtain ⟨us, _, h3, h4, _⟩ := cellx (cap - 1) (by omega)
    have := h4 (A.n - 1) (by omega)
    rw [List.getElem?_eq_getElem (by omega)] at this
    have := (Array.getElem?_eq_some_iff.1 this).1
    have e1 : cap * A.n = (cap - 1) * A.n + A.n := by
     have : cap = (cap - 1) + 1 := by omega
     conv => lhs; rw [this]
     rw [Nat.add_mul, Nat.one_mul]
    omega
   have hel' : ∀ i y, elems[i]? = some y → ∃ z, (A.rd (fun _ => False) W (((cs'.toList.drop off).drop (i * A.n)).take A.n) z ∧ D z) := fun i y hy => by
    have hi : i < len := by rw [← hlen]; exact (List.getElem?_eq_some_iff.1 hy).1
    obtain ⟨us, y', h3, h4, h5, h6⟩ := cellx i (by omega)
    obtain rfl : y' = y := by have := h6 hi; rw [hy] at this; exact (Option.some.inj this).symm
    have hus : ((cs'.toList.drop off).drop (i * A.n)).take A.n = us := by
     apply List.ext_getElem?
     intro j
     by_cases hj : j < A.n
     ·rw [List.getElem?_take, if_pos hj, List.getElem?_drop, List.getElem?_drop, ← h4 j hj]
      simp [Nat.add_assoc]
     ·rw [List.getElem?_take, if_neg hj, List.getElem?_eq_none (by omega)]
    rw [hus]
    exact he m us y' (hQe y' (List.mem_of_getElem? hy)) h5
   obtain ⟨l, hll, hR⟩ := wJ (fun i y z => A.rd (fun _ => False) W (((cs'.toList.drop off).drop (i * A.n)).take A.n) z ∧ D z) elems hel'
   have hll' : l.length = len := by omega
   have get : ∀ i (hi : i < l.length), A.rd (fun _ => False) W (((cs'.toList.drop off).drop (i * A.n)).take A.n) l[i] ∧ D l[i] := fun i hi => by
    obtain ⟨y, hy⟩ : ∃ y, elems[i]? = some y := ⟨elems[i]'(by omega), List.getElem?_eq_getElem _⟩
    exact hR i y l[i] hy (List.getElem?_eq_getElem _)
   refine ⟨(some ⟨b, off, none⟩, len, cap), l, h3, .inr ⟨b, off, cap, cs', e', fr, by rw [hll']; rfl, (fun h => h), hblk', by omega, hsize, ?_⟩, ⟨by omega, hQ _ (by omega)⟩, fun z hz => ?_⟩
   ·have hle : l.length * A.n ≤ cap * A.n := Nat.mul_le_mul_right _ (by omega)
    refine ⟨?_, fun i hi => ?_⟩
    ·simp only [List.length_take, List.length_drop, Array.length_toList]
     omega
    ·have h1 : i * A.n + A.n ≤ l.length * A.n := by rw [← Nat.succ_mul]; exact Nat.mul_le_mul_right _ hi
     rw [List.drop_take, List.take_take, Nat.min_eq_left (by omega)]
     exact (get i hi).1
   ·obtain ⟨i, hi, rfl⟩ := List.getElem_of_mem hz
    exact (get i hi).2
theorem Ew {H : Type} {enc : TypeId × Value → H} {P : Program} {W : World} {Q : Nat → Prop} : ∀ (n : Nat) (i : TypeId) (t : Ty), fits P n i t = true → ∀ (fuel : Nat) (cs : List Value) (x : DataW H × List MemPlace),
  (∀ n, n ≤ Rows.uptoBulk x.1 → Q n) → DataW.trod enc P W 0 (fun _ => true) true fuel i cs = some x → ∃ z : t.T, t.rep.rd (fun _ => False) W cs z ∧ Dom Q t z := by
 intro n
 induction n with
 | zero => intro i t h; cases h
 | succ n ih =>
 intro i t hf fuel cs x hQ h
 unfold fits at hf
 split at hf
 ·rename_i k hu
  split at hf
  ·obtain ⟨z, h1, _, h3⟩ := DataW.trod_int hu h
   have e := of_decide_eq_true hf
   subst e
   exact ⟨z, h1, h3⟩
  ·cases hf
 ·rename_i hu
  split at hf
  ·obtain ⟨z, h1, _⟩ := DataW.trod_bool hu h
   exact ⟨z, h1, trivial⟩
  ·cases hf
 ·rename_i hu
  split at hf
  ·obtain ⟨⟨⟨z⟩⟩, h1, _, h3⟩ := DataW.trod_string hu h
   exact ⟨z, h1, h3⟩
  ·cases hf
 ·rename_i e hu
  split at hf
  ·rename_i u
   simp only [Bool.and_eq_true, beq_iff_eq, Nat.blt_eq] at hf
   obtain ⟨⟨h1, h2⟩, h3⟩ := hf
   obtain ⟨p, zs, a1, a2, a3, a4⟩ := H7 (A := u.rep) (Q := Q) (D := Dom Q u) hu h1 h2 fuel cs x hQ (fun fuel us y hy h => ih e u h3 fuel us y hy h) h
   exact ⟨zs, ⟨p, a1, a2⟩, a3, a4⟩
  ·cases hf
 ·rename_i fs hu
  have key : ∀ t : Ty, vO P (fits P n) (P.cellsOf i) fs.toList 0 t = true → ∃ z : t.T, t.rep.rd (fun _ => False) W cs z ∧ Dom Q t z := fun t hf => by
   obtain ⟨xs, m, _, hx, hl, hxs, hfl⟩ := DataW.trod_struct hu h
   have hb : Rows.uptoBulk x.1 = Rows.uptoBulkAll (xs.map (·.1)) + 1 := by rw [hx]; simp only [Rows.uptoBulk]
   have hQe : ∀ y ∈ xs, ∀ n, n ≤ Rows.uptoBulk y.1 → Q n := fun y hy n hn => hQ n (by
    have := jQ (d := y.1) (l := xs.map (·.1)) (List.mem_map.2 ⟨y, hy, rfl⟩)
    omega)
   have one : ∀ (j : Nat) (f : Field) (t : Ty), fs.toList[j]? = some f → fits P n f.type t = true → ∃ z : t.T, t.rep.rd (fun _ => False) W ((cs.drop f.offset).take (P.cellsOf f.type)) z ∧ Dom Q t z := fun j f t hj ht => by
    have hj' : fs[j]? = some f := by simpa using hj
    have h1 := hfl j f hj'
    have hjl : j < xs.length := by rw [hxs]; exact (Array.getElem?_eq_some_iff.1 hj').1
    rw [List.getElem?_eq_getElem hjl] at h1
    exact ih f.type t ht m _ _ (hQe _ (List.getElem_mem _)) h1
   have go : ∀ (r : List Field) (j off : Nat) (t : Ty), fs.toList.drop j = r → vO P (fits P n) (P.cellsOf i) r off t = true → ∃ z : t.T, t.rep.rd (fun _ => False) W (cs.drop off) z ∧ Dom Q t z := fun r => by
    induction r with
    | nil => intro j off t _ h; cases h
    | cons f r ihr =>
     intro j off t hr hf
     have hj : fs.toList[j]? = some f := by
      have := congrArg (·[0]?) hr
      simpa [List.getElem?_drop] using this
     have hr' : fs.toList.drop (j + 1) = r := by
      rw [← List.drop_drop, hr]; rfl
     cases r with
     | nil =>
      simp only [vO, Bool.and_eq_true, beq_iff_eq] at hf
      obtain ⟨⟨⟨h1, h2⟩, h3⟩, h4⟩ := hf
      obtain ⟨z, z1, z2⟩ := one j f t hj h4
      rw [h1, List.take_of_length_le (by simp; omega)] at z1
      exact ⟨z, z1, z2⟩
     | cons g r =>
      unfold vO at hf
      split at hf
      ·rename_i a b
       simp only [Bool.and_eq_true, beq_iff_eq] at hf
       obtain ⟨⟨⟨h1, h2⟩, h3⟩, h4⟩ := hf
       obtain ⟨z, z1, z2⟩ := one j f a hj h3
       obtain ⟨y, y1, y2⟩ := ihr (j + 1) _ b hr' h4
       rw [h1] at z1
       refine ⟨(z, y), ⟨_, _, ?_, z1, y1⟩, z2, y2⟩
       rw [← List.drop_drop]; exact (List.take_append_drop ..).symm
      ·cases hf
   obtain ⟨z, z1, z2⟩ := go fs.toList 0 0 t rfl hf
   exact ⟨z, by simpa using z1, z2⟩
  split at hf
  ·obtain ⟨e, h1, h2⟩ := Gz (OI hf) fuel cs x h
   exact ⟨e, h1, hQ _ h2⟩
  ·exact key _ hf
  ·cases hf
 ·cases hf
def gH (W : World) (I : Its) : Prop := ∀ it ∈ I, it.1 = false ∧ it.2.bQ = true ∧ ∀ M, Mv (fun _ => False) W M W → it.2.P M W
theorem gH.nil {W : World} : gH W [] := fun it h => by cases h
theorem gH.app {W : World} {I J : Its} (h : gH W I) (k : gH W J) : gH W (I ++ J) := fun it hit => by
 rcases List.mem_append.1 hit with h1 | h1
 ·exact h it h1
 ·exact k it h1
theorem gH.one {W : World} {α : Type} {A : Rep α} {p : SLV} {l : List α} (h : SRd A (fun _ => False) W (sl p) l) : gH W [(false, uq true A p l false)] := fun it hit => by
 rcases List.mem_singleton.1 hit with rfl
 exact ⟨rfl, rfl, fun M hm _ => ⟨h.mv hm, fun h => by cases h⟩⟩
theorem sW {W : World} : ∀ (t : Ty) (cs : List Value) (x : t.T), t.rep.rd (fun _ => False) W cs x → ∀ (o : List (Option TypeId)) (N : List Nm), ∃ I N', w7 t x cs (kH t ++ o) N I N' o ∧ gH W I
 | .i k, cs, x, h, o, N => ⟨[], N, ⟨h, rfl, rfl, rfl⟩, .nil⟩
 | .bo, cs, x, h, o, N => ⟨[], N, ⟨h, rfl, rfl, rfl⟩, .nil⟩
 | .s, cs, x, h, o, N => ⟨[], N, ⟨h, rfl, rfl, rfl⟩, .nil⟩
 | .un, cs, x, h, o, N => ⟨[], N, ⟨h, rfl, rfl, rfl⟩, .nil⟩
 | .n, cs, x, h, o, N => absurd h id
 | .mp _ _, cs, x, h, o, N => absurd h id
 | .p a b, cs, x, h, o, N => by
  obtain ⟨c1, c2, h1, h2, h3⟩ := h
  obtain ⟨I1, N1, s1, g1⟩ := sW a c1 x.1 h2 (kH b ++ o) N
  obtain ⟨I2, N2, s2, g2⟩ := sW b c2 x.2 h3 o N1
  refine ⟨I1 ++ I2, N2, ⟨c1, c2, N1, I1, I2, kH b ++ o, ?_, s2, h1, rfl⟩, g1.app g2⟩
  rw [show kH (.p a b) ++ o = kH a ++ (kH b ++ o) by simp [kH]]
  exact s1
 | .l t, cs, x, h, o, N => by
  obtain ⟨p, h1, h2⟩ := h
  exact ⟨_, _, ⟨⟨0, p, ⟨0, 0, none⟩, none, .bool false, ⟨.un, ()⟩⟩, h1, rfl, .inl ⟨rfl, rfl⟩⟩, .one h2⟩
 | .ex, cs, x, h, o, N => by
  obtain ⟨p, h1, h2⟩ := tv h
  exact ⟨_, _, ⟨⟨0, p, ⟨0, 0, none⟩, none, .bool false, ⟨.un, ()⟩⟩, h1, rfl, .inl ⟨rfl, rfl⟩⟩, .one h2⟩
def Arg (W : World) (t : Ty) (v : Value) (z : t.T) : Prop := ∀ N : List Nm, ∃ I N', Sem (OD t) v none none N [⟨t, z⟩] I [] N' ∧ gH W I
theorem rB {H : Type} {enc : TypeId × Value → H} {P : Program} {W : World} {Q : Nat → Prop} {base : Nat} {n : Nat} {i : TypeId} (t : Ty) (hf : fits P n i t = true) {v : Value} {d : DataW H} {ps : List MemPlace}
  (hw : Value.okWide P W .any base i v) (hQ : ∀ n, n ≤ Rows.uptoBulk d → Q n) (h : DataW.Trod enc P W 0 (fun _ => true) true i v d ps) : ∃ z : t.T, Arg W t v z ∧ Dom Q t z := by
 have hk := h
 obtain ⟨fuel, hx⟩ := h
 obtain ⟨z, h1, h2⟩ := Ew n i t hf fuel _ _ hQ hx
 refine ⟨z, ?_, h2⟩
 cases n with
 | zero => cases hf
 | succ n =>
 unfold fits at hf
 split at hf
 ·rename_i k hu
  split at hf
  ·have e := of_decide_eq_true hf
   subst e
   obtain ⟨y, rfl, _⟩ := open_int hu hw hk
   have : y = z := by
    have h1 : ([.int k y] : List Value) = [.int k z] := h1
    injection h1 with h1 _
    injection h1
   subst this
   exact fun N => ⟨[], N, ⟨y, rfl, rfl, rfl, rfl, rfl⟩, .nil⟩
  ·cases hf
 ·rename_i hu
  split at hf
  ·obtain ⟨y, rfl, _⟩ := open_bool hu hw hk
   have : y = z := by
    have h1 : ([.bool y] : List Value) = [.bool z] := h1
    injection h1 with h1 _
    injection h1
   subst this
   exact fun N => ⟨[], N, ⟨y, rfl, rfl, rfl, rfl, rfl⟩, .nil⟩
  ·cases hf
 ·rename_i hu
  split at hf
  ·obtain ⟨⟨⟨y⟩⟩, rfl, _⟩ := open_string hu hw hk
   have : y = z := by
    have h1 : ([S y] : List Value) = [S z] := h1
    injection h1 with h1 _
    injection h1 with h1
    injection h1 with h1
    injection h1
   subst this
   exact fun N => ⟨[], N, ⟨y, rfl, rfl, rfl, rfl, rfl⟩, .nil⟩
  ·cases hf
 ·rename_i e hu
  split at hf
  ·rename_i u
   obtain ⟨a, len, cap, rfl⟩ := okWide_slice hu hw
   obtain ⟨p, e1, h3⟩ := h1
   have e2 : Value.slice a len cap = sl p := by simpa [Value.cells] using e1
   rw [e2]
   exact fun N => ⟨_, _, ⟨⟨0, p, ⟨0, 0, none⟩, none, .bool false, ⟨.un, ()⟩⟩, z, rfl, rfl, rfl, rfl, rfl⟩, .one h3⟩
  ·cases hf
 ·rename_i fs hu
  obtain ⟨cs, rfl, _, _⟩ := OH hu hw
  split at hf
  ·obtain ⟨p, e1, h3⟩ := tv h1
   exact fun N => ⟨_, _, ⟨cs.toList, z, [], by simp, rfl, ⟨⟨0, p, ⟨0, 0, none⟩, none, .bool false, ⟨.un, ()⟩⟩, e1, rfl, .inl ⟨rfl, rfl⟩⟩, rfl⟩, .one h3⟩
  ·rename_i a b
   exact fun N => by
    obtain ⟨I, N', s, g⟩ := sW (.p a b) _ z h1 [] N
    exact ⟨I, N', ⟨cs.toList, z, [], by simp, rfl, by simpa [Value.cells] using s, rfl⟩, g⟩
  ·cases hf
 ·cases hf
def K7 (W : World) (ps : List Pt) (vs : List Value) (D : List Dyn) : Prop := ∀ N : List Nm, ∃ I N', lQ ps vs [] N D I [] N' ∧ gH W I
theorem JE {W : World} : K7 W [] [] [] := fun N => ⟨[], N, ⟨rfl, rfl, rfl, rfl, rfl⟩, .nil⟩
theorem uw {W : World} {t : Ty} {v : Value} {z : t.T} {ps : List Pt} {vs : List Value} {D : List Dyn} (h : Arg W t v z) (k : K7 W ps vs D) : K7 W (OD t :: ps) (v :: vs) (⟨t, z⟩ :: D) := fun N => by
 obtain ⟨I1, N1, s1, g1⟩ := h N
 obtain ⟨I2, N2, s2, g2⟩ := k N1
 exact ⟨I1 ++ I2, N2, ⟨v, vs, [⟨t, z⟩], D, I1, I2, [], [], N1, rfl, s1, s2, rfl, rfl, rfl⟩, g1.app g2⟩
theorem LP {W : World} {I : Its} {Γ : Ctx} (g : gH W I) (hn : NoM Γ) (h : Sat Γ W) : Sat (ca I ++ Γ) W := qs h _ (fun it hit => by
 obtain ⟨x, hx, rfl⟩ := List.mem_map.1 hit
 exact ⟨(g x hx).2.1, (g x hx).2.2 _ (JL hn)⟩)
end Go.Proofs.YtpnogcmollnjeaaGreatDoor
namespace Go.Proofs.YtpnogcmollnjeaaGreatDoor
namespace Ls
theorem K2 (text : Str) (e : Ex) (l : Las) (_ : Dom (fun n => n ≤ 1048576) .s text) (h : Dom (fun n => n ≤ 1048576) .ex e) (_ : Dom (fun n => n ≤ 1048576) (.p (.l (.l (.i .i64))) (.l (.l (.i .i64)))) l) : dS text e l = some true := ES text e l h
end Ls
end Go.Proofs.YtpnogcmollnjeaaGreatDoor
