/-
  Own texts for the statement LassoLies, cut down to what it needs: TrRSys4, TrToks, StA, StB1, StN, SysErr, StC1, LsW, TrMay, TrFew, LsE, LsK, LsL, KFr, KFx, KArg, LsLt. (cut and joined by a program)
-/
import Derived.Test.YtpnogcmollnjeaaGreatDoorLassoLiesA
import Derived.Test.YtpnogcmollnjeaaGreatDoorLassoLiesB
import Derived.Test.YtpnogcmollnjeaaGreatDoorLassoLiesC
import Derived.Test.YtpnogcmollnjeaaGreatDoorLassoLiesD
import Derived.Test.YtpnogcmollnjeaaGreatDoorLassoLiesE
import Derived.Test.YtpnogcmollnjeaaGreatDoorLassoLiesF
import Derived.Lib.LaidTab
import Derived.Below
import Derived.WalkKit
import Derived.ProofKit
import Derived.Test.YtpnogcmollnjeaaGreatDoorRows
import Derived.Carry
import Derived.ChangeSlices
import Derived.OpenShut
namespace Go.Proofs.YtpnogcmollnjeaaGreatDoor
namespace Sy
open Pa
theorem Lw : ∀ (f : Nat) (m : Mdl) (ts : List Tok) (p : Mdl × List Tok), Pa.Ends ts → fN f m ts = .ok p → cj ts p.2 := by
 intro f
 induction f with
 | zero => intro _ _ _ _ h; simp [fN] at h
 | succ f ih =>
  intro m ts p he h
  simp only [fN] at h
  cases hc : isH 3 [125] ts
  ·rw [hc] at h
   simp only [cond_false] at h
   cases h1 : gF m ts with
   | error e => rw [h1] at h; cases h
   | ok q =>
    obtain ⟨m', r⟩ := q
    rw [h1] at h
    simp only at h
    have s1 : cj ts r := (Ab he h1).1
    exact s1.trans (ih m' r p s1.1 h)
  ·rw [hc] at h
   cases h
   obtain ⟨h1, h2⟩ := ij he (by decide) hc
   exact ⟨h1, by show ts.tail.length < ts.length; omega⟩
abbrev R8 := Int × List Str × List (Int × Int) × List Int × List Str × List Cmd × Int × Int
abbrev RP := Mdl × Int × Int
section
variable {l : List Tok} (hl : l.length < 1000000000) (htok : ∀ t ∈ l, dH t) (hnum : ∀ t ∈ l, oT t)
variable {st : Except Err (List Tok)} {a b p : Int} (N : List Str) (S_ : List (Int × Int)) (I : List Int) (Q : List Str)
variable (hN : N.length < 1000000000) (hQ : Q.length < 1000000000)
theorem uV {C : List Cmd} (e1 e2 : Int) (again46 : R8 → Option RP) (nm : Str × Int × Int × Int) (hl : l.length < 1099511627776) (M : Nat) (h : St l st a b p) (en : Bool) (hb : ((b == 0) && !en) = false) :
  ∃ a' b' p', al (dE (l, e1, e2) Q again46 N S_ I nm) (M + 1) (a, C, b, p, en) = again46 (a', N, S_, I, Q ++ [nm.1], C, b', p') ∧ St l (aO st (aV [125])) a' b' p' := by
 obtain ⟨a', b', p', e3, s3⟩ := pn hl N S_ I (Q ++ [nm.1]) C h [125]
 rw [ao]
 simp only [dE, aM, hb, cond_false, e3, ai]
 exact ⟨_, _, _, rfl, s3⟩
include hl htok hnum hN hQ in
theorem MV (e1 e2 : Int) (again46 : R8 → Option RP) (nm : Str × Int × Int × Int) : ∀ (n : Nat) (ts : List Tok) (C : List Cmd) (a : Int) (M f : Nat), ts.length ≤ n → n + 2 ≤ M → ts.length < f → C.length + ts.length < 1099511627776 - 1 → St l (.ok ts) a 0 0 →
  ∃ a' C' b' p', al (dE (l, e1, e2) Q again46 N S_ I nm) M (a, C, 0, 0, isH 3 [125] ts) = again46 (a', N, S_, I, Q ++ [nm.1], C', b', p') ∧
   St l (rest (fN f (N, S_, I, Q ++ [nm.1], C) ts)) a' b' p' ∧ (∀ m r, fN f (N, S_, I, Q ++ [nm.1], C) ts = .ok (m, r) → m = (N, S_, I, Q ++ [nm.1], C') ∧ C'.length + r.length < C.length + ts.length) := by
 have hQ' : (Q ++ [nm.1]).length < 1099511627776 := by simp; omega
 intro n
 induction n with
 | zero =>
  intro ts C a M f h1 _ _ _ hs
  obtain ⟨k, t, r, _, rfl, _⟩ := hs.ok
  simp at h1
 | succ n ih =>
  intro ts C a M f h1 h2 h3 h4 hs
  obtain ⟨M, rfl⟩ : ∃ m, M = m + 1 := ⟨M - 1, by omega⟩
  obtain ⟨f, rfl⟩ : ∃ m, f = m + 1 := ⟨f - 1, by omega⟩
  have hE : Pa.Ends ts := by obtain ⟨_, _, _, h, _⟩ := hs; exact h
  cases hc : isH 3 [125] ts
  · -- a command
   have hsc : fN (f + 1) (N, S_, I, Q ++ [nm.1], C) ts = (match gF (N, S_, I, Q ++ [nm.1], C) ts with | .error e => .error e | .ok (m', r) => fN f m' r) := by
    simp only [fN, hc, cond_false]
    all_goals (cases gF (N, S_, I, Q ++ [nm.1], C) ts <;> rfl)
   obtain ⟨a1, C1, b1, p1, e3, s1, v1⟩ := Pr (by omega) htok hnum N S_ I (Q ++ [nm.1]) C (by omega) (by omega) hs
   have e4 := sT N S_ I (Q ++ [nm.1]) C1 s1 3 [125]
   rw [ao]
   simp only [dE, aM, beq_self_eq_true, Bool.not_false, Bool.and_self, cond_true, e3, ai, e4]
   cases hq : gF (N, S_, I, Q ++ [nm.1], C) ts with
   | error e =>
    have hX : aD (.ok ts) (gF (N, S_, I, Q ++ [nm.1], C)) = .error e := by simp only [aD, aO, hq, rest]
    rw [hX] at s1
    simp only [hX, isS]
    obtain ⟨M', rfl⟩ : ∃ m, M = m + 1 := ⟨M - 1, by omega⟩
    have hb1 : (b1 == 0) = false := by rw [s1.2.2.1]; exact s1.2.1
    obtain ⟨a2, b2, p2, e5, s2⟩ := uV N S_ I Q (C := C1) e1 e2 again46 nm (by omega) M' s1 false (by rw [hb1]; rfl)
    rw [hsc, hq]
    exact ⟨_, _, _, _, e5, s2, fun m r h => by cases h⟩
   | ok q =>
    obtain ⟨m', r⟩ := q
    have hX : aD (.ok ts) (gF (N, S_, I, Q ++ [nm.1], C)) = .ok r := by simp only [aD, aO, hq, rest]
    rw [hX] at s1
    simp only [hX, isS]
    have hm' := v1 ts m' r rfl hq
    obtain ⟨sh, g, r1, r2, sets, r3, _, _, _, _, hp, _⟩ := Ab hE hq
    have hC1 : C1 = C ++ [(IntKind.i64.wrap (((Q ++ [nm.1]).length : Int) - 1), g, sets)] := by
     simp only at hp
     rw [hm'] at hp
     simp only [Prod.mk.injEq, true_and] at hp
     exact hp
    have hC1l : C1.length = C.length + 1 := by rw [hC1]; simp
    have shr : r.length < ts.length := sh.2
    have hb1 : b1 = 0 ∧ p1 = 0 := by obtain ⟨_, _, _, _, h5, h6⟩ := s1; exact ⟨h5, h6⟩
    obtain ⟨rfl, rfl⟩ := hb1
    obtain ⟨a2, C2, b2, p2, e5, s2, v2⟩ := ih r C1 a1 M f (by omega) (by omega) (by omega) (by omega) s1
    rw [hsc, hq]
    simp only
    rw [hm']
    exact ⟨_, _, _, _, e5, s2, fun m r' h => ⟨(v2 m r' h).1, by have := (v2 m r' h).2; omega⟩⟩
  ·have hsc : fN (f + 1) (N, S_, I, Q ++ [nm.1], C) ts = .ok ((N, S_, I, Q ++ [nm.1], C), ts.tail) := by simp only [fN, hc, cond_true]
   obtain ⟨a2, b2, p2, e5, s2⟩ := uV N S_ I Q (C := C) e1 e2 again46 nm (by omega) M hs true (by simp)
   rw [hsc]
   refine ⟨_, _, _, _, e5, ?_, fun m r h => by cases h; exact ⟨rfl, by have := (ij hE (by decide) hc).2; omega⟩⟩
   have : aO (.ok ts) (aV [125]) = rest (.ok ((N, S_, I, Q ++ [nm.1], C), ts.tail) : Except Err (Mdl × List Tok)) := by
    obtain ⟨t, r, rfl⟩ := hE.ne
    simp only [aO, aV, rest, List.tail_cons]
    simp only [isH] at hc
    rw [hc]; rfl
   rw [← this]; exact s2
noncomputable def Big (m : Mdl) (ts : List Tok) : Prop := m.1.length + ts.length < 1000000000 ∧ m.2.1.length + ts.length < 1000000000 ∧ m.2.2.1.length + ts.length < 1000000000 ∧ m.2.2.2.1.length + ts.length < 1000000000 ∧ m.2.2.2.2.length + ts.length < 1000000000
theorem yi {e3 e4 : Int} (e1 e2 : Int) (m : Mdl) (h : St l (.error (e3, e4)) a b p) (M : Nat) : al (cG (l, e1, e2)) (M + 1) (a, m.1, m.2.1, m.2.2.1, m.2.2.2.1, m.2.2.2.2, b, p) = some (([], [], [], [], []), e3, e4) := by
 obtain ⟨⟨t, hx⟩, he, rfl, rfl⟩ := h
 rw [ao]
 simp only at he
 have hb : (b != 0) = true := by simp only [bne, he, Bool.not_false]
 simp only [cG, aM, he, jR, Bool.false_and, cond_false, fe, aB, hx, ai, ar, hb, cond_true]
 cases ((List.length m.1 : Int) == 0) <;> rfl
include hl htok hnum in
theorem Jc (e1 e2 : Int) : ∀ (n : Nat) (ts : List Tok) (m : Mdl) (a : Int) (M f : Nat), ts.length ≤ n → n + 2 ≤ M → ts.length < f → Big m ts → St l (.ok ts) a 0 0 →
  al (cG (l, e1, e2)) M (a, m.1, m.2.1, m.2.2.1, m.2.2.2.1, m.2.2.2.2, 0, 0) = some (xr (iH f m ts)) := by
 intro n
 induction n with
 | zero =>
  intro ts m a M f h1 _ _ _ hs
  obtain ⟨k, t, r, _, rfl, _⟩ := hs.ok
  simp at h1
 | succ n ih =>
  intro ts m a M f h1 h2 h3 hB hs
  obtain ⟨M, rfl⟩ : ∃ m, M = m + 1 := ⟨M - 1, by omega⟩
  obtain ⟨f, rfl⟩ : ∃ m, f = m + 1 := ⟨f - 1, by omega⟩
  obtain ⟨k, t, r, rfl, rfl, hd, he, _, _, hx, hm, hd1, hk⟩ := hs.ok
  obtain ⟨N, S_, I, Q, C⟩ := m
  obtain ⟨B1, B2, B3, B4, B5⟩ := hB
  simp only [List.length_cons] at B1 B2 B3 B4 B5 h1 h3
  have iv := sT N S_ I Q C hs 1 [118, 97, 114]
  have ip := sT N S_ I Q C hs 1 [112, 114, 111, 99]
  rw [ao]
  generalize hag : al (cG (l, e1, e2)) M = again
  simp only [cG, aM, beq_self_eq_true, cN, hx, ai, Bool.true_and]
  have hsi : iH (f + 1) (N, S_, I, Q, C) (t :: r) = (bif t.1 == 4 then (bif N.isEmpty then .error (2, t.2.2.2) else .ok (N, S_, I, Q, C))
   else bif isT 1 [118, 97, 114] t then (match jg (N, S_, I, Q, C) r with
    | .error e => .error e
    | .ok (m', r') => iH f m' r')
   else bif isT 1 [112, 114, 111, 99] t then (match kO (N, S_, I, Q, C) r with
    | .error e => .error e
    | .ok (m', r') => iH f m' r')
   else .error (2, t.2.2.2)) := by
   simp only [iH]
   all_goals (cases jg (N, S_, I, Q, C) r <;> cases kO (N, S_, I, Q, C) r <;> rfl)
  cases c4 : (t.1 == 4)
  case true =>
   have c4' : (t.1 != 4) = false := by simp only [bne, c4, Bool.not_true]
   rw [hsi, c4]
   simp only [c4', cond_false, cond_true]
   have hne : ((List.length N : Int) == 0) = N.isEmpty := by cases N with
    | nil => rfl
    | cons x r => simp only [List.length_cons, List.isEmpty_cons]; exact beq_eq_false_iff_ne.2 (by omega)
   rw [hne]
   cases N.isEmpty
   ·simp only [cond_false, fe, bne_self_eq_false, xr]
   ·simp only [cond_true, aB, hx, ai, jO, fe, xr]; rfl
  have c4' : (t.1 != 4) = true := by simp only [bne, c4, Bool.not_false]
  simp only [isS, isH] at iv ip
  simp only [c4', cond_true, iv, ip, ai]
  have hE1 : Pa.Ends r := he.tail (by simpa using c4)
  have hs1 : St l (.ok r) ((k + 1 : Nat) : Int) 0 0 := ⟨k + 1, rfl, hd1, hE1, rfl, rfl⟩
  have wk : IntKind.i64.wrap ((k : Int) + 1) = ((k + 1 : Nat) : Int) := bU (by omega)
  obtain ⟨M', hM'⟩ : ∃ m, M = m + 1 := ⟨M - 1, by omega⟩
  cases cv : isT 1 [118, 97, 114] t
  ·cases cp : isT 1 [112, 114, 111, 99] t
   · -- neither
    rw [hsi, c4, cv, cp]
    simp only [cond_false, Bool.not_false, Bool.and_self, cond_true, aB, hx, ai, jO, fl, show ((2 : Int) == 0) = false from rfl, fk, fj, aM]
    rw [← hag, hM']
    exact yi (e3 := 2) (e4 := t.2.2.2) e1 e2 (N, S_, I, Q, C) ⟨⟨t, hx⟩, rfl, rfl, rfl⟩ M'
   · -- a process
    rw [hsi, c4, cv, cp]
    simp only [cond_false, Bool.not_true, Bool.not_false, Bool.and_false, cond_true, fl, beq_self_eq_true, fk, fj, wk, aM]
    obtain ⟨nm, a1, b1, p1, e3, s1, v1⟩ := E6 (by omega) N S_ I Q C hs1 (by omega) (by omega) false
    have k1 : az (List.length Q + List.length ([nm] : List Str)) 16 = true := cJ (by simp; omega) (by simp; omega)
    obtain ⟨a2, b2, p2, e4, s2⟩ := pn (by omega) N S_ I (Q ++ [nm]) C s1 [123]
    have e5 := sT N S_ I (Q ++ [nm]) C s2 3 [125]
    simp only [e3, ai, cQ k1, e4, e5]
    cases hq : aO (aD (.ok r) (cS false N Q)) (aV [123]) with
    | error e =>
     rw [hq] at s2
     have hb1 : (b2 == 0) = false := by rw [s2.2.2.1]; exact s2.2.1
     obtain ⟨a3, b3, p3, e6, s3⟩ := uV N S_ I Q (C := C) e1 e2 again (nm, a1, b1, p1) (by omega) 18446744073709551615 s2 false (by rw [hb1]; rfl)
     simp only [isS]
     rw [show aq = 18446744073709551615 + 1 from rfl, e6]
     have hp : kO (N, S_, I, Q, C) r = .error e := by
      simp only [kO]
      simp only [aD, aO] at hq
      cases q1 : cS false N Q r with
      | error e' => rw [q1] at hq; simp only [rest] at hq ⊢; cases hq; rfl
      | ok q =>
       rw [q1] at hq; simp only [rest] at hq ⊢
       rw [hq]
     rw [hp]
     simp only [aO] at s3
     obtain ⟨ee1, ee2⟩ := e
     rw [← hag, hM']
     exact yi e1 e2 (N, S_, I, Q ++ [nm], C) s3 M'
    | ok r2 =>
     rw [hq] at s2
     obtain ⟨r1, hr1, hr2⟩ : ∃ r1, cS false N Q r = .ok (nm, r1) ∧ aV [123] r1 = .ok r2 := by
      simp only [aD, aO] at hq
      cases q1 : cS false N Q r with
      | error e' => rw [q1] at hq; cases hq
      | ok q =>
       obtain ⟨nm', r1⟩ := q
       rw [q1] at hq; simp only [rest] at hq
       have := v1 r nm' r1 rfl q1
       subst this
       exact ⟨r1, rfl, hq⟩
     have hb : b2 = 0 ∧ p2 = 0 := by obtain ⟨_, _, _, _, h5, h6⟩ := s2; exact ⟨h5, h6⟩
     obtain ⟨rfl, rfl⟩ := hb
     have sh1 := (xo hE1 hr1).1
     have sh2 := gi sh1.1 hr2
     have l1 : r1.length < r.length := sh1.2
     have l2 : r2.length < r1.length := sh2.2
     have hp : kO (N, S_, I, Q, C) r = fN (r2.length + 1) (N, S_, I, Q ++ [nm], C) r2 := by simp only [kO, hr1, hr2]
     have hle : r2.length ≤ l.length := by obtain ⟨k2, _, h, _⟩ := s2; rw [← h]; simp
     obtain ⟨a3, C3, b3, p3, e6, s3, v3⟩ := MV hl htok hnum N S_ I Q (by omega) (by omega) e1 e2 again (nm, a1, b1, p1) r2.length r2 C a2 aq (r2.length + 1) (Nat.le_refl _) (by show _ ≤ 2 ^ 64; omega) (by omega) (by omega) s2
     simp only [isS]
     rw [e6, hp]
     cases hcm : fN (r2.length + 1) (N, S_, I, Q ++ [nm], C) r2 with
     | error e =>
      rw [hcm] at s3
      simp only [rest] at s3
      obtain ⟨ee1, ee2⟩ := e
      rw [← hag, hM']
      exact yi e1 e2 (N, S_, I, Q ++ [nm], C3) s3 M'
     | ok q =>
      obtain ⟨m', r'⟩ := q
      rw [hcm] at s3
      simp only [rest] at s3
      obtain ⟨hm', hlen⟩ := v3 m' r' hcm
      have sh3 := Lw _ _ _ _ sh2.1 hcm
      have l3 : r'.length < r2.length := sh3.2
      have hb : b3 = 0 ∧ p3 = 0 := by obtain ⟨_, _, _, _, h5, h6⟩ := s3; exact ⟨h5, h6⟩
      obtain ⟨rfl, rfl⟩ := hb
      simp only
      rw [← hag, hm']
      have hQl : (Q ++ [nm]).length = Q.length + 1 := by simp
      exact ih r' (N, S_, I, Q ++ [nm], C3) a3 M f (by omega) (by omega) (by omega) ⟨by simp only; omega, by simp only; omega, by simp only; omega, by simp only; omega, by simp only; omega⟩ s3
  · -- a variable
   have cp : isT 1 [112, 114, 111, 99] t = false := by
    unfold isT at cv ⊢
    simp only [Bool.and_eq_true, beq_iff_eq] at cv
    rw [cv.2]
    simp
   rw [hsi, c4, cv]
   simp only [cond_false, Bool.not_true, Bool.false_and, cond_true, fl, beq_self_eq_true, fk, cp, wk, aM]
   obtain ⟨a1, N', S', I', b1, p1, e3, s1, v1⟩ := Ol (by omega) N S_ I Q C (by omega) (by omega) (by omega) (by omega) hs1
   simp only [e3, ai, fj, cond_false]
   cases hq : jg (N, S_, I, Q, C) r with
   | error e =>
    simp only [aD, aO, hq, rest] at s1
    obtain ⟨ee1, ee2⟩ := e
    rw [← hag, hM']
    exact yi e1 e2 (N', S', I', Q, C) s1 M'
   | ok q =>
    obtain ⟨m', r'⟩ := q
    simp only [aD, aO, hq, rest] at s1
    have hm' := v1 r m' r' rfl hq
    obtain ⟨sh, name, lo, hi, first, hp, _⟩ := EZ hE1 hq
    have l1 : r'.length < r.length := sh.2
    have hb : b1 = 0 ∧ p1 = 0 := by obtain ⟨_, _, _, _, h5, h6⟩ := s1; exact ⟨h5, h6⟩
    obtain ⟨rfl, rfl⟩ := hb
    simp only
    simp only at hp
    rw [hm'] at hp
    simp only [Prod.mk.injEq, and_true] at hp
    obtain ⟨hp1, hp2, hp3⟩ := hp
    have q1 : N'.length = N.length + 1 := by rw [hp1]; simp
    have q2 : S'.length = S_.length + 1 := by rw [hp2]; simp
    have q3 : I'.length = I.length + 1 := by rw [hp3]; simp
    rw [← hag, hm']
    exact ih r' (N', S', I', Q, C) a1 M f (by omega) (by omega) (by omega) ⟨by simp only; omega, by simp only; omega, by simp only; omega, by simp only; omega, by simp only; omega⟩ s1
end
theorem JI {text : Str} {l : List Tok} (ht : dm text = some (l, 0, 0)) (hl : l.length < 500000000) (htok : ∀ t ∈ l, dH t) (hnum : ∀ t ∈ l, oT t) (he : Pa.Ends l) :
  cL text = some (xr (sys l)) := by
 unfold cL
 rw [ht, ai]
 simp only [bne_self_eq_false, cond_false]
 exact Jc (by omega) htok hnum 0 0 l.length l ([], [], [], [], []) 0 aq (l.length + 1) (Nat.le_refl _) (by show _ ≤ 2 ^ 64; omega) (by omega) ⟨by simp; omega, by simp; omega, by simp; omega, by simp; omega, by simp; omega⟩ ⟨0, rfl, rfl, he, rfl, rfl⟩
end Sy
end Go.Proofs.YtpnogcmollnjeaaGreatDoor
namespace Go.Proofs.YtpnogcmollnjeaaGreatDoor
namespace Sy
open Pa
theorem Lr (text : Str) : cL text = some (xr (xl text)) := by
 unfold xl
 by_cases h : 65536 < text.length
 ·rw [if_pos h]
  unfold cL
  rw [Lx.ue]
  unfold Lx.tokens
  rw [if_pos h]
  rfl
 ·rw [if_neg h]
  have ht : dm text = some (Lx.res (Lx.lex text)) := by rw [Lx.ue, Lx.He (by omega)]
  cases hl : Lx.lex text with
  | ok l =>
   rw [hl] at ht
   have hg := CE hl
   exact JI ht (by have := hg.len; omega) hg.ok hg.num hg.ends
  | error e =>
   rw [hl] at ht
   have hne : (e.1 != 0) = true := bne_iff_ne.2 (BM _ _ _ _ hl)
   unfold cL
   rw [ht, ai]
   simp only [Lx.res, hne, cond_true, xr]
end Sy
end Go.Proofs.YtpnogcmollnjeaaGreatDoor
namespace Go.Proofs.YtpnogcmollnjeaaGreatDoor
namespace Sp
theorem Ft (d : Nat) (h : d < 10) : Lx.dig (UInt8.ofNat (48 + d)) = d ∧ Lx.isDigit (UInt8.ofNat (48 + d)) = true := by
 have : d = 0 ∨ d = 1 ∨ d = 2 ∨ d = 3 ∨ d = 4 ∨ d = 5 ∨ d = 6 ∨ d = 7 ∨ d = 8 ∨ d = 9 := by omega
 rcases this with rfl | rfl | rfl | rfl | rfl | rfl | rfl | rfl | rfl | rfl <;> exact ⟨rfl, rfl⟩
theorem xy : ∀ (N n : Nat), n ≤ N → Lx.di 0 (Lib.decDigits n) = n ∧ (Lib.decDigits n).all Lx.isDigit = true ∧ Lib.decDigits n ≠ [] := by
 intro N
 induction N with
 | zero =>
  intro n h
  obtain rfl : n = 0 := by omega
  rw [Lib.decDigits, dif_pos (by omega)]
  exact ⟨rfl, rfl, by simp⟩
 | succ N ih =>
  intro n h
  rw [Lib.decDigits]
  split
  ·rename_i hn
   obtain ⟨h1, h2⟩ := Ft n hn
   refine ⟨?_, by simp only [List.all_cons, h2, List.all_nil, Bool.and_self], by simp⟩
   show 10 * 0 + Lx.dig (UInt8.ofNat (48 + n)) = n
   rw [h1]; omega
  ·rename_i hn
   obtain ⟨h1, h2⟩ := Ft (n % 10) (by omega)
   obtain ⟨i1, i2, _⟩ := ih (n / 10) (by omega)
   refine ⟨?_, by simp only [List.all_append, i2, List.all_cons, h2, List.all_nil, Bool.and_self], by simp⟩
   unfold Lx.di at *
   rw [List.foldl_append, i1]
   show 10 * ((n / 10 : Nat) : Int) + Lx.dig (UInt8.ofNat (48 + n % 10)) = n
   rw [h1]; omega
theorem Fu {m n : Nat} (h : Lib.decDigits m = Lib.decDigits n) : m = n := by
 have h1 := (xy m m (Nat.le_refl _)).1
 have h2 := (xy n n (Nat.le_refl _)).1
 rw [h, h2] at h1
 omega
theorem w5 {c : UInt8} (h : Lx.isDigit c = true) : c ≠ 45 ∧ c ≠ 32 := by
 constructor <;> (intro e; subst e; cases h)
theorem y4 (n : Nat) : ∀ c ∈ Lib.decDigits n, Lx.isDigit c = true := fun c hc => List.all_eq_true.1 (xy n n (Nat.le_refl _)).2.1 c hc
theorem KN {x y : Int} (h : Lib.itoa x = Lib.itoa y) : x = y := by
 have hh : ∀ (m n : Nat), Lib.decDigits m ≠ 45 :: Lib.decDigits n := fun m n e => by
  have := y4 m 45 (by rw [e]; simp)
  exact (w5 this).1 rfl
 unfold Lib.itoa at h
 split at h <;> split at h
 ·have := Fu (List.cons.inj h).2
  omega
 ·exact absurd h.symm (hh _ _)
 ·exact absurd h (hh _ _)
 ·have := Fu h
  omega
theorem Ay (x : Int) : ∀ c ∈ Lib.itoa x, c ≠ 32 := by
 intro c hc
 unfold Lib.itoa at hc
 split at hc
 ·rcases List.mem_cons.1 hc with rfl | hc
  ·decide
  ·exact (w5 (y4 _ c hc)).2
 ·exact (w5 (y4 _ c hc)).2
theorem rn : ∀ (k u : Nat), u < 10 ^ (k + 1) → Lib.nDigits u ≤ k + 1
 | 0, u, h => by rw [Lib.nDigits_small (by simpa using h)]; omega
 | k + 1, u, h => by
  by_cases hu : u < 10
  ·rw [Lib.nDigits_small hu]; omega
  ·rw [Lib.nDigits_big hu]
   have := rn k (u / 10) (by rw [Nat.div_lt_iff_lt_mul (by omega), ← Nat.pow_succ]; exact h)
   omega
theorem A5 {n : Int} (h0 : -9223372036854775808 ≤ n) (h1 : n ≤ 9223372036854775807) : (Lib.itoa n).length ≤ 20 := by
 unfold Lib.itoa
 split
 ·rw [List.length_cons, Lib.decDigits_length]
  have := rn 18 n.natAbs (by omega)
  omega
 ·rw [Lib.decDigits_length]
  have := rn 18 n.toNat (by omega)
  omega
noncomputable def dc (v : List Int) : Str := v.flatMap fun n => Lib.itoa n ++ [32]
theorem Ng {a b r s : Str} (ha : ∀ c ∈ a, c ≠ 32) (hb : ∀ c ∈ b, c ≠ 32) (h : a ++ 32 :: r = b ++ 32 :: s) : a = b ∧ r = s := by
 induction a generalizing b with
 | nil =>
  cases b with
  | nil => simp only [List.nil_append, List.cons.injEq, true_and] at h; exact ⟨rfl, h⟩
  | cons c b => simp only [List.nil_append, List.cons_append, List.cons.injEq] at h; exact absurd h.1.symm (hb c (by simp))
 | cons c a ih =>
  cases b with
  | nil => simp only [List.nil_append, List.cons_append, List.cons.injEq] at h; exact absurd h.1 (ha c (by simp))
  | cons d b =>
   simp only [List.cons_append, List.cons.injEq] at h
   obtain ⟨rfl, h⟩ := h
   obtain ⟨rfl, h2⟩ := ih (fun c hc => ha c (List.mem_cons_of_mem _ hc)) (fun c hc => hb c (List.mem_cons_of_mem _ hc)) h
   exact ⟨rfl, h2⟩
theorem Dc : ∀ {a b : List Int}, dc a = dc b → a = b
 | [], [], _ => rfl
 | [], y :: b, h => by
  simp only [dc, List.flatMap_nil, List.flatMap_cons] at h
  have := congrArg List.length h
  simp at this
 | x :: a, [], h => by
  simp only [dc, List.flatMap_nil, List.flatMap_cons] at h
  have := congrArg List.length h
  simp at this
 | x :: a, y :: b, h => by
  simp only [dc, List.flatMap_cons, List.append_assoc, List.singleton_append] at h
  obtain ⟨h1, h2⟩ := Ng (Ay x) (Ay y) h
  rw [KN h1, Dc h2]
theorem KS (a b : List Int) : dc (a ++ b) = dc a ++ dc b := by simp [dc]
theorem Be (s : Str) : strOf (bytesOf s) = s := by
 induction s with
 | nil => rfl
 | cons c s ih =>
  simp only [strOf, bytesOf, List.map_cons, List.map_map] at ih ⊢
  rw [ih]; simp
theorem wA (a b : Str) : bytesOf (a ++ b) = bytesOf a ++ bytesOf b := by simp [bytesOf]
theorem nC (s : Str) : (bytesOf s).length = s.length := by simp [bytesOf]
noncomputable def I64 (v : List Int) : Prop := ∀ n ∈ v, -9223372036854775808 ≤ n ∧ n ≤ 9223372036854775807
theorem Kl {v : List Int} (h : I64 v) : (dc v).length ≤ 21 * v.length := by
 induction v with
 | nil => simp [dc]
 | cons n v ih =>
  have h1 := h n (by simp)
  have := A5 h1.1 h1.2
  have := ih (fun m hm => h m (List.mem_cons_of_mem _ hm))
  simp only [dc, List.flatMap_cons, List.length_append, List.length_cons, List.length_nil] at *
  omega
theorem copy_eq (f : Bool) (l : List Int) : dW f l = some true := by cases f <;> rfl
theorem PJ {s : Str} {l : List Int} (f : Bool) (h : l.length + s.length ≤ 140737488355328) : dy s f l = some ((s.length : Int), true, l ++ bytesOf s) := by
 unfold dy
 rw [copy_eq, ai, Sy.cQ (Sy.cJ (by omega) (by omega))]
theorem PL {l : List Int} (c : Int) (f : Bool) (h : l.length + 1 ≤ 140737488355328) : dY c f l = some (true, l ++ [c]) := by
 unfold dY
 rw [copy_eq, ai, Sy.cQ (Sy.cJ (by simp; omega) (by simp; omega))]
theorem H8 (f : Bool) {s : Str} (h : bytesOf s ≠ []) : fa f (bytesOf s) = some s := by
 have e : strOf (bytesOf s) = s := Be s
 cases hb : bytesOf s with
 | nil => exact absurd hb h
 | cons c l =>
  rw [hb] at e
  unfold fa
  rw [show idx (c :: l) 0 = some c from rfl, ai, Sy.cQ (by simp), e]
theorem Oy {x : Int} (h : yW x = true) : Bx x = some (Lib.itoa x) := Sy.cQ h _
theorem AT (v : List Int) (hv : I64 v) (hl : v.length < 1000000000) (hne : v ≠ []) : ∀ (r pre : List Int), v = pre ++ r → ∀ (M : Nat) (f : Bool), r.length < M →
  al (mf v) M (f, bytesOf (dc pre), (pre.length : Int)) = some (dc v)
 | [], pre, h, M, f, hM => by
  obtain ⟨m, rfl⟩ : ∃ m, M = m + 1 := ⟨M - 1, by simp at hM; omega⟩
  rw [ao]
  have e : pre = v := by simpa using h.symm
  subst e
  simp only [mf, decide_eq_false (show ¬ ((pre.length : Int) < (List.length pre : Int)) by omega), cond_false]
  rw [H8, ai]
  cases pre with
  | nil => exact absurd rfl hne
  | cons x r =>
   intro e
   have : (bytesOf (dc (x :: r))).length ≠ 0 := by rw [nC]; simp [dc]
   rw [e] at this
   exact this rfl
 | x :: r, pre, h, M, f, hM => by
  obtain ⟨m, rfl⟩ : ∃ m, M = m + 1 := ⟨M - 1, by omega⟩
  rw [ao]
  have hx := hv x (by rw [h]; simp)
  have hlen : pre.length + r.length + 1 = v.length := by rw [h]; simp; omega
  have hi : yW x = true := Dw.2 hx
  have hp : I64 pre := fun n hn => hv n (by rw [h]; exact List.mem_append_left _ hn)
  have hb := Kl hp
  have hxl := A5 hx.1 hx.2
  have ih := AT v hv hl hne r (pre ++ [x]) (by rw [h]; simp) m true (by simp at hM; omega)
  rw [show ((pre ++ [x]).length : Int) = ((pre.length + 1 : Nat) : Int) by simp] at ih
  have e1 : bytesOf (dc (pre ++ [x])) = (bytesOf (dc pre) ++ bytesOf (Lib.itoa x)) ++ [32] := by
   rw [KS, wA]
   simp only [dc, List.flatMap_cons, List.flatMap_nil, List.append_nil, wA, List.append_assoc]
   rfl
  rw [e1] at ih
  simp only [mf, Sy.iz h, cond_true, Sy.mid h, ai, Oy hi]
  rw [PJ f (by rw [nC]; omega), ai]
  simp only
  rw [PL 32 true (by rw [List.length_append, nC, nC]; omega), ai]
  simp only [Pa.bU (show pre.length < 4611686018427387904 by omega)]
  exact ih
theorem Nv {v : List Int} (hv : I64 v) (hl : v.length < 1000000000) (hne : v ≠ []) : uf v = some (dc v) :=
 AT v hv hl hne v [] rfl aq false (by show v.length < 2 ^ 64; omega)
/-! sets of states -/
noncomputable def nt (l : List (List Int)) (v : List Int) : List (List Int) := if l.contains v then l else l ++ [v]
noncomputable def rB (acc l : List (List Int)) : List (List Int) := l.foldl nt acc
noncomputable def Seen (l : List (List Int)) (at_ : Option (List (Str × Bool))) : Prop := (at_ = none → l = []) ∧ ∀ v, kN at_ (dc v) false = l.contains v
theorem Jl : Seen [] none := ⟨fun _ => rfl, fun _v => rfl⟩
theorem IH (l : List (Str × Bool)) (k k' : Str) : (mh (mG l k true) k').getD false = ((k' == k) || (mh l k').getD false) := by
 induction l with
 | nil =>
  simp only [mG, mh]
  cases hk : (k' == k) <;> rfl
 | cons p l ih =>
  simp only [mG]
  cases h1 : (k == p.1)
  ·simp only [cond_false, mh]
   cases h2 : (k' == p.1)
   ·simp only [cond_false]; exact ih
   ·simp only [cond_true]
    have e1 : k' = p.1 := by simpa using h2
    have e2 : (k' == k) = false := by
     rw [beq_eq_false_iff_ne] at h1 ⊢
     intro e; exact h1 (by rw [← e, e1])
    rw [e2, Bool.false_or]
  ·simp only [cond_true, mh]
   have e1 : k = p.1 := by simpa using h1
   cases h2 : (k' == k)
   ·simp only [cond_false, Bool.false_or]
    have : (k' == p.1) = false := by rw [← e1]; exact h2
    rw [this]; rfl
   ·rfl
theorem add_eq {v : List Int} {l : List (List Int)} {at_ : Option (List (Str × Bool))} (hv : I64 v) (hl : v.length < 1000000000) (hne : v ≠ []) (hll : l.length < 1000000000) (hs : Seen l at_) :
  ∃ at', fB v l at_ = some (nt l v, at') ∧ Seen (nt l v) at' := by
 have k1 : az (List.length l + List.length ([v] : List (List Int))) 24 = true := Sy.cJ (by simp; omega) (by simp; omega)
 have key : ∀ mp : List (Str × Bool), Seen l (some mp) → ∃ at', kW v l (some mp) = some (nt l v, at') ∧ Seen (nt l v) at' := fun mp hs => by
  unfold kW
  rw [Nv hv hl hne, ai, hs.2 v]
  unfold nt
  cases hc : l.contains v
  ·simp only [Bool.not_false, cond_true, ai, Sy.cQ k1, Bool.false_eq_true, if_false]
   refine ⟨_, rfl, (fun h => by cases h), fun u => ?_⟩
   have h1 := hs.2 u
   unfold kN at h1 ⊢
   simp only [Option.getD_some] at h1 ⊢
   rw [IH, h1]
   have e : (dc u == dc v) = (u == v) := by
    by_cases h : u = v
    ·rw [h]; simp
    ·rw [beq_eq_false_iff_ne.2 h, beq_eq_false_iff_ne.2 (fun e => h (Dc e))]
   rw [e]
   simp only [List.contains_eq_any_beq, List.any_append, List.any_cons, List.any_nil, Bool.or_false]
   rw [Bool.or_comm]
  ·simp only [Bool.not_true, cond_false, if_true]
   exact ⟨_, rfl, hs⟩
 unfold fB
 cases at_ with
 | none =>
  simp only [Option.isNone_none, cond_true]
  refine key [] ⟨(fun h => by cases h), fun u => ?_⟩
  exact hs.2 u
 | some mp =>
  simp only [Option.isNone_some, cond_false]
  exact key mp hs
theorem Cy (l : List (List Int)) (v : List Int) : (nt l v).length ≤ l.length + 1 := by
 unfold nt; split <;> simp
theorem JL {l : List (List Int)} {v u : List Int} : u ∈ nt l v ↔ u ∈ l ∨ u = v := by
 unfold nt
 split
 ·rename_i h
  have : v ∈ l := by simpa using h
  constructor
  ·exact .inl
  ·rintro (h | rfl)
   ·exact h
   ·exact this
 ·simp
theorem D9 : ∀ (m l : List (List Int)), (rB l m).length ≤ l.length + m.length
 | [], l => by simp [rB]
 | v :: m, l => by
  have := D9 m (nt l v)
  have := Cy l v
  simp only [rB, List.foldl_cons, List.length_cons] at *
  omega
theorem Cd {u : List Int} : ∀ {m l : List (List Int)}, u ∈ rB l m ↔ u ∈ l ∨ u ∈ m
 | [], l => by simp [rB]
 | v :: m, l => by
  have := Cd (u := u) (m := m) (l := nt l v)
  simp only [rB, List.foldl_cons] at *
  rw [this, JL]
  simp only [List.mem_cons]
  constructor
  ·rintro ((h | h) | h)
   ·exact .inl h
   ·exact .inr (.inl h)
   ·exact .inr (.inr h)
  ·rintro (h | h | h)
   ·exact .inl (.inl h)
   ·exact .inl (.inr h)
   ·exact .inr h
end Sp
end Go.Proofs.YtpnogcmollnjeaaGreatDoor
namespace Go.Proofs.YtpnogcmollnjeaaGreatDoor
namespace Sp
noncomputable def fits : List (Int × Int) → List Int → Bool
 | s :: S, n :: w => (decide (s.1 ≤ n) && decide (n ≤ s.2)) && fits S w
 | _, _ => true
noncomputable def zZ (v w : List Int) (s : Int × Ex) : List Int := w.set s.1.toNat (ev v s.2)
noncomputable def GC (v : List Int) (c : Sy.Cmd) : List Int := c.2.2.foldl (zZ v) v
theorem CM (v w : List Int) (s : Int × Ex) : (zZ v w s).length = w.length := by simp [zZ]
theorem AU (v : List Int) : ∀ (l : List (Int × Ex)) (w : List Int), (l.foldl (zZ v) w).length = w.length
 | [], w => rfl
 | s :: l, w => by rw [List.foldl_cons, AU v l, CM]
theorem HF (v : List Int) (c : Sy.Cmd) : (GC v c).length = v.length := AU _ _ _
noncomputable def fin (S : List (Int × Int)) (w : List Int) : List Int × Int := bif fits S w then (w, 0) else ([], 6)
noncomputable def enI (v : List Int) : Nat → List Sy.Cmd → List Int
 | _, [] => []
 | k, c :: r => if ev v c.2.1 = 1 then (k : Int) :: enI v (k + 1) r else enI v (k + 1) r
noncomputable def enC (v : List Int) (l : List Sy.Cmd) : List Sy.Cmd := l.filter fun c => decide (ev v c.2.1 = 1)
noncomputable def gQ (cmds : List Sy.Cmd) (v : List Int) (i : Int) : List Int := match cmds[i.toNat]? with | some c => GC v c | none => v
noncomputable def Gv (S : List (Int × Int)) (cmds : List Sy.Cmd) (v : List Int) (k : Int) : List Int × Int :=
 if k < 0 ∨ (cmds.length : Int) ≤ k then ([], 10) else fin S (gQ cmds v k)
noncomputable def goes (v : List Int) (cmds : List Sy.Cmd) : List (List Int) := (enC v cmds).map (GC v)
noncomputable def F7 (S : List (Int × Int)) (v : List Int) (ws : List (List Int)) : List (List Int) × Int :=
 if ws = [] then ([v], 0) else bif ws.all (fits S) then (rB [] ws, 0) else ([], 6)
noncomputable def tC (S : List (Int × Int)) (cmds : List Sy.Cmd) (v : List Int) : List (List Int) × Int := F7 S v (goes v cmds)
structure SafeS (S : List (Int × Int)) (C : List Sy.Cmd) : Prop where
 pos : 1 ≤ S.length
 few : S.length ≤ 16
 field : ∀ f ∈ S, Sy.vz f
 cmds : C.length ≤ 300
 guard : ∀ c ∈ C, c.2.1.sz < 1000000
 sets : ∀ c ∈ C, c.2.2.length ≤ 65537 ∧ ∀ s ∈ c.2.2, 0 ≤ s.1 ∧ s.1 < S.length ∧ s.2.sz < 1000000
structure InS (S : List (Int × Int)) (v : List Int) : Prop where
 len : v.length = S.length
 fit : fits S v = true
theorem D8 : ∀ {S : List (Int × Int)} {v : List Int}, v.length = S.length → (∀ f ∈ S, Sy.vz f) → fits S v = true → I64 v
 | [], [], _, _, _ => fun n hn => by cases hn
 | [], _ :: _, h, _, _ => by simp at h
 | _ :: _, [], h, _, _ => by simp at h
 | s :: S, x :: w, h, hS, hf => by
  simp only [fits, Bool.and_eq_true, decide_eq_true_eq] at hf
  have h1 := hS s (by simp)
  intro n hn
  rcases List.mem_cons.1 hn with rfl | hn
  ·have := h1.lo; have := h1.hi; omega
  ·exact D8 (by simpa using h) (fun f hf => hS f (List.mem_cons_of_mem _ hf)) hf.2 n hn
theorem InS.i64 {S : List (Int × Int)} {cmds : List Sy.Cmd} {v : List Int} (h : InS S v) (hs : SafeS S cmds) : I64 v := D8 h.len hs.field h.fit
theorem InS.ne {S : List (Int × Int)} {cmds : List Sy.Cmd} {v : List Int} (h : InS S v) (hs : SafeS S cmds) : v ≠ [] := fun e => by
 have := h.len; have := hs.pos; subst e; simp at *; omega
theorem InS.short {S : List (Int × Int)} {cmds : List Sy.Cmd} {v : List Int} (h : InS S v) (hs : SafeS S cmds) : v.length < 1000000000 := by
 have := h.len; have := hs.few; omega
/-! within the ranges -/
theorem OX (s : Int × Int) (n : Int) : jI s n = some (decide (s.1 ≤ n) && decide (n ≤ s.2)) := rfl
theorem Fc (S : List (Int × Int)) (w : List Int) : ∀ (r pre : List Int) (rs ps : List (Int × Int)), w = pre ++ r → S = ps ++ rs → ps.length = pre.length → rs.length = r.length → w.length < 1000 →
  ∀ M, r.length < M → al (jF S w) M (pre.length : Int) = some (bif fits rs r then 0 else 5)
 | [], pre, rs, ps, h, hS, hl, hr, hw, M, hM => by
  obtain ⟨m, rfl⟩ : ∃ m, M = m + 1 := ⟨M - 1, by simp at hM; omega⟩
  rw [ao]
  simp only [jF, Sy.j9 h, cond_false]
  have : rs = [] := List.eq_nil_of_length_eq_zero hr
  subst this; rfl
 | x :: r, pre, [], ps, h, hS, hl, hr, hw, M, hM => by simp at hr
 | x :: r, pre, s :: rs, ps, h, hS, hl, hr, hw, M, hM => by
  obtain ⟨m, rfl⟩ : ∃ m, M = m + 1 := ⟨M - 1, by omega⟩
  rw [ao]
  have e1 : idx S (pre.length : Int) = some s := by rw [← hl]; exact Sy.mid hS
  have hlen : pre.length + r.length + 1 = w.length := by rw [h]; simp; omega
  have ih := Fc S w r (pre ++ [x]) rs (ps ++ [s]) (by rw [h]; simp) (by rw [hS]; simp) (by simp; omega) (by simpa using hr) hw m (by simp at hM; omega)
  rw [show ((pre ++ [x]).length : Int) = ((pre.length + 1 : Nat) : Int) by simp] at ih
  simp only [jF, Sy.iz h, cond_true, Sy.mid h, ai, e1, OX, Pa.bU (show pre.length < 4611686018427387904 by omega), ih, fits]
  cases h1 : (decide (s.1 ≤ x) && decide (x ≤ s.2))
  ·rfl
  ·simp only [Bool.not_true, cond_false, Bool.true_and]
theorem LX (S : List (Int × Int)) (w : List Int) (hl : w.length = S.length) (hw : w.length < 1000) : gr S w = some (bif fits S w then 0 else 5) := by
 unfold gr
 rw [show ((List.length w : Int) != (List.length S : Int)) = false by rw [hl]; simp, cond_false]
 exact Fc S w w [] S [] rfl rfl rfl hl.symm hw aq (by show w.length < 2 ^ 64; omega)
/-! a fired command -/
theorem BT {α : Type} (l : List α) (i : Int) (h0 : 0 ≤ i) (h1 : i < l.length) : ∃ x, idx l i = some x ∧ l[i.toNat]? = some x := by
 have h : i.toNat < l.length := by omega
 refine ⟨l[i.toNat], ?_, List.getElem?_eq_getElem h⟩
 unfold idx
 rw [if_pos h0]
 exact List.getElem?_eq_getElem h
theorem AF (m : Sy.Mdl) (v : List Int) (e : Sy.Cmd) (hn : v.length = m.2.1.length) (hv : v.length < 1000) (he : e.2.2.length ≤ 65537) (hs : ∀ s ∈ e.2.2, 0 ≤ s.1 ∧ s.1 < m.2.1.length ∧ s.2.sz < 1000000) :
  ∀ (r pre : List (Int × Ex)), e.2.2 = pre ++ r → ∀ (w : List Int) (M : Nat), w.length = v.length → r.length < M →
   al (mK m v e) M (w, (pre.length : Int)) = some (fin m.2.1 (r.foldl (zZ v) w))
 | [], pre, h, w, M, hw, hM => by
  obtain ⟨k, rfl⟩ : ∃ k, M = k + 1 := ⟨M - 1, by simp at hM; omega⟩
  rw [ao]
  simp only [mK, Sy.j9 h, cond_false, List.foldl_nil, fin]
  rw [LX m.2.1 w (by omega) (by omega), ai]
  cases hf : fits m.2.1 w <;> rfl
 | s :: r, pre, h, w, M, hw, hM => by
  obtain ⟨k, rfl⟩ : ∃ k, M = k + 1 := ⟨M - 1, by omega⟩
  rw [ao]
  obtain ⟨h0, h1, h2⟩ := hs s (by rw [h]; simp)
  have hlen : pre.length + r.length + 1 = e.2.2.length := by rw [h]; simp; omega
  obtain ⟨x, hx, _⟩ := BT w s.1 h0 (by omega)
  have ih := AF m v e hn hv he hs r (pre ++ [s]) (by rw [h]; simp) (zZ v w s) k (by rw [CM, hw]) (by simp at hM; omega)
  rw [show ((pre ++ [s]).length : Int) = ((pre.length + 1 : Nat) : Int) by simp] at ih
  simp only [mK, Sy.iz h, cond_true, Sy.mid h, ai]
  rw [zb s.2 (by omega) v]
  simp only [ai, hx, Pa.bU (show pre.length < 4611686018427387904 by omega)]
  exact ih
theorem DE (v : List Int) (h : v.length < 1000000000) : bO v = some v := by
 unfold bO
 rw [Sy.cQ (Sy.cJ (by simp; omega) (by simp; omega)), List.nil_append]
 cases v with
 | nil => simp [zd, both]
 | cons x r => rfl
theorem NV {m : Sy.Mdl} {v : List Int} (hm : SafeS m.2.1 m.2.2.2.2) (hn : v.length = m.2.1.length) (k : Int) : qS m v k = some (Gv m.2.1 m.2.2.2.2 v k) := by
 have hv : v.length < 1000 := by have := hm.few; omega
 unfold qS
 simp only [aM]
 unfold Gv
 by_cases hk : k < 0 ∨ (m.2.2.2.2.length : Int) ≤ k
 ·rw [if_pos hk]
  rw [show (decide (k < 0) || decide ((List.length m.2.2.2.2 : Int) ≤ k)) = true by rw [Bool.or_eq_true, decide_eq_true_eq, decide_eq_true_eq]; exact hk, cond_true]
 ·rw [if_neg hk]
  rw [show (decide (k < 0) || decide ((List.length m.2.2.2.2 : Int) ≤ k)) = false by rw [Bool.eq_false_iff]; intro h; rw [Bool.or_eq_true, decide_eq_true_eq, decide_eq_true_eq] at h; exact hk h, cond_false]
  obtain ⟨c, hc, hc2⟩ := BT m.2.2.2.2 k (by omega) (by omega)
  rw [DE v (by omega), ai, hc, ai]
  have hmem : c ∈ m.2.2.2.2 := List.mem_of_getElem? hc2
  have := AF m v c hn hv (hm.sets c hmem).1 (hm.sets c hmem).2 c.2.2 [] rfl v aq rfl (by have := (hm.sets c hmem).1; show _ < 2 ^ 64; omega)
  rw [show (0 : Int) = ((([] : List (Int × Ex)).length : Nat) : Int) from rfl, this]
  unfold gQ
  rw [hc2]
  rfl
/-! the commands that may fire -/
theorem E3 (m : Sy.Mdl) (v : List Int) (hm : SafeS m.2.1 m.2.2.2.2) : ∀ (r pre : List Sy.Cmd), m.2.2.2.2 = pre ++ r → ∀ (out : List Int) (M : Nat), out.length ≤ pre.length → r.length < M →
  al (jB m v) M (out, (pre.length : Int)) = some (out ++ enI v pre.length r)
 | [], pre, h, out, M, ho, hM => by
  obtain ⟨k, rfl⟩ : ∃ k, M = k + 1 := ⟨M - 1, by simp at hM; omega⟩
  rw [ao]
  simp only [jB, Sy.j9 h, cond_false, enI, List.append_nil]
 | c :: r, pre, h, out, M, ho, hM => by
  obtain ⟨k, rfl⟩ : ∃ k, M = k + 1 := ⟨M - 1, by omega⟩
  rw [ao]
  have hlen : pre.length + r.length + 1 = m.2.2.2.2.length := by rw [h]; simp; omega
  have h3 := hm.cmds
  have hg := hm.guard c (by rw [h]; simp)
  simp only [jB, Sy.iz h, cond_true, Sy.mid h, ai]
  rw [zb c.2.1 (by omega) v, ai]
  have ih := fun out ho => E3 m v hm r (pre ++ [c]) (by rw [h]; simp) out k ho (by simp at hM; omega)
  rw [show ((pre ++ [c]).length : Int) = ((pre.length + 1 : Nat) : Int) by simp, show (pre ++ [c]).length = pre.length + 1 by simp] at ih
  simp only [Pa.bU (show pre.length < 4611686018427387904 by omega), enI]
  by_cases he : ev v c.2.1 = 1
  ·rw [if_pos he, show (ev v c.2.1 == 1) = true by simpa using he, cond_true, Sy.cQ (Sy.cJ (by simp; omega) (by simp; omega)), ih _ (by simp; omega), List.append_assoc]
   rfl
  ·rw [if_neg he, show (ev v c.2.1 == 1) = false by simpa using he, cond_false, ih _ (by omega)]
theorem Pz {m : Sy.Mdl} {v : List Int} (hm : SafeS m.2.1 m.2.2.2.2) : pQ m v = some (enI v 0 m.2.2.2.2) :=
 E3 m v hm m.2.2.2.2 [] rfl [] aq (Nat.le_refl _) (by have := hm.cmds; show _ < 2 ^ 64; omega)
theorem Ac (v : List Int) : ∀ (r : List Sy.Cmd) (k : Nat), (enI v k r).length = (enC v r).length
 | [], k => rfl
 | c :: r, k => by
  unfold enI enC
  rw [List.filter_cons]
  by_cases he : ev v c.2.1 = 1
  ·rw [if_pos he, if_pos (by simpa using he), List.length_cons, List.length_cons, Ac v r]; rfl
  ·rw [if_neg he, if_neg (by simpa using he), Ac v r]; rfl
theorem Fb {v : List Int} {i : Int} : ∀ {r : List Sy.Cmd} {k : Nat}, i ∈ enI v k r → ∃ (j : Nat) (c : Sy.Cmd), i = ((k + j : Nat) : Int) ∧ r[j]? = some c ∧ ev v c.2.1 = 1
 | [], k, h => by simp [enI] at h
 | c :: r, k, h => by
  unfold enI at h
  have rec_ : i ∈ enI v (k + 1) r → ∃ (j : Nat) (d : Sy.Cmd), i = ((k + j : Nat) : Int) ∧ (c :: r)[j]? = some d ∧ ev v d.2.1 = 1 := fun h => by
   obtain ⟨j, d, h1, h2, h3⟩ := Fb h
   exact ⟨j + 1, d, by rw [h1]; omega, by simpa using h2, h3⟩
  by_cases he : ev v c.2.1 = 1
  ·rw [if_pos he] at h
   rcases List.mem_cons.1 h with rfl | h
   ·exact ⟨0, c, rfl, rfl, he⟩
   ·exact rec_ h
  ·rw [if_neg he] at h
   exact rec_ h
theorem EV (v : List Int) (cmds : List Sy.Cmd) : ∀ (r pre : List Sy.Cmd), cmds = pre ++ r → (enI v pre.length r).map (gQ cmds v) = goes v r
 | [], pre, h => rfl
 | c :: r, pre, h => by
  have ih := EV v cmds r (pre ++ [c]) (by rw [h]; simp)
  rw [show (pre ++ [c]).length = pre.length + 1 by simp] at ih
  unfold enI goes enC
  rw [List.filter_cons]
  by_cases he : ev v c.2.1 = 1
  ·rw [if_pos he, if_pos (by simpa using he), List.map_cons, List.map_cons, ih]
   unfold gQ
   rw [show ((pre.length : Int)).toNat = pre.length from rfl, show cmds[pre.length]? = some c by rw [h]; simp]
   rfl
  ·rw [if_neg he, if_neg (by simpa using he), ih]; rfl
theorem LI (v : List Int) (cmds : List Sy.Cmd) : (goes v cmds).length ≤ cmds.length := by
 unfold goes enC
 rw [List.length_map]
 exact List.length_filter_le _ _
theorem Pn {v : List Int} {cmds : List Sy.Cmd} {i : Int} (h : i ∈ enI v 0 cmds) : 0 ≤ i ∧ i < cmds.length := by
 obtain ⟨j, c, rfl, h2, _⟩ := Fb h
 have := (List.getElem?_eq_some_iff.1 h2).1
 omega
theorem IZ {S : List (Int × Int)} {cmds : List Sy.Cmd} (v : List Int) : (tC S cmds v).1.length ≤ cmds.length + 1 := by
 unfold tC F7
 split
 ·simp
 ·cases ha : (goes v cmds).all (fits S)
  ·simp
  ·have := D9 (goes v cmds) []
   have := LI v cmds
   simp at *; omega
end Sp
end Go.Proofs.YtpnogcmollnjeaaGreatDoor
namespace Go.Proofs.YtpnogcmollnjeaaGreatDoor
namespace Sp
theorem La {v : List Int} {S : List (Int × Int)} {C : List Sy.Cmd} (hm : SafeS S C) (hv : InS S v) {l : List (List Int)} {at_ : Option (List (Str × Bool))} (hs : Seen l at_) (k : List (List Int) → Option (List (Str × Bool)) → Option ((List (List Int)) × Int)) (hk : ∀ l a, k l a = some (l, 0)) :
  (bif ((List.length l : Int) == 0) then ((bO v).bind fun r76 => (fB r76 l at_).bind fun r81 => k r81.1 r81.2) else some (l, 0)) = some (if l = [] then [v] else l, 0) := by
 by_cases h : l = []
 ·subst h
  rw [show ((List.length ([] : List (List Int)) : Int) == 0) = true from rfl, cond_true, DE v (hv.short hm), ai]
  obtain ⟨at', h4, _⟩ := add_eq (hv.i64 hm) (hv.short hm) (hv.ne hm) (show ([] : List (List Int)).length < 1000000000 by simp) hs
  rw [h4, ai, hk]
  rfl
 ·have e : ((List.length l : Int) == 0) = false := by
   rw [beq_eq_false_iff_ne]
   intro e
   exact h (List.eq_nil_of_length_eq_zero (by omega))
  rw [e, cond_false, if_neg h]
theorem Aq (m : Sy.Mdl) (v : List Int) (hm : SafeS m.2.1 m.2.2.2.2) (hv : InS m.2.1 v) (L : List Int) (hL : ∀ i ∈ L, 0 ≤ i ∧ i < m.2.2.2.2.length) (hLl : L.length ≤ 300) :
  ∀ (r pre : List Int), L = pre ++ r → ∀ (c : Int) (l : List (List Int)) (at_ : Option (List (Str × Bool))) (M : Nat), Seen l at_ → l.length ≤ pre.length → r.length < M →
   al (l6 v (m.1, m.2.1, m.2.2.1, m.2.2.2.1, m.2.2.2.2, v) L) M ((pre.length : Int), c, l, at_) =
    some (if (r.map (gQ m.2.2.2.2 v)).all (fits m.2.1) = true then (if rB l (r.map (gQ m.2.2.2.2 v)) = [] then [v] else rB l (r.map (gQ m.2.2.2.2 v)), 0) else ([], 6))
 | [], pre, h, c, l, at_, M, hs, hl, hM => by
  obtain ⟨k, rfl⟩ : ∃ k, M = k + 1 := ⟨M - 1, by simp at hM; omega⟩
  rw [ao]
  simp only [l6, Sy.j9 h, cond_false]
  exact La hm hv hs (fun l _ => some (l, 0)) (fun _ _ => rfl)
 | i :: r, pre, h, c, l, at_, M, hs, hl, hM => by
  obtain ⟨k, rfl⟩ : ∃ k, M = k + 1 := ⟨M - 1, by omega⟩
  rw [ao]
  have hlen : pre.length + r.length + 1 = L.length := by rw [h]; simp; omega
  obtain ⟨hi0, hi1⟩ := hL i (by rw [h]; simp)
  simp only [l6, Sy.iz h, cond_true, Sy.mid h, ai, Bool.not_true, Bool.not_false, cond_false]
  rw [show (m.1, m.2.1, m.2.2.1, m.2.2.2.1, m.2.2.2.2) = m from rfl, NV hm hv.len i]
  unfold Gv
  rw [if_neg (by omega), ai]
  unfold fin
  rw [List.map_cons, List.all_cons]
  obtain ⟨c', _, hc⟩ := BT m.2.2.2.2 i hi0 hi1
  have hfl : (gQ m.2.2.2.2 v i).length = m.2.1.length := by unfold gQ; rw [hc, ← hv.len]; exact HF v c'
  cases hf : fits m.2.1 (gQ m.2.2.2.2 v i)
  ·rw [Bool.false_and, if_neg (by decide)]
   rfl
  ·have hin : InS m.2.1 (gQ m.2.2.2.2 v i) := ⟨hfl, hf⟩
   obtain ⟨at', h1, h2⟩ := add_eq (hin.i64 hm) (hin.short hm) (hin.ne hm) (show l.length < 1000000000 by omega) hs
   have hl2 := Cy l (gQ m.2.2.2.2 v i)
   have hq := Aq m v hm hv L hL hLl r (pre ++ [i]) (by rw [h]; simp) c (nt l (gQ m.2.2.2.2 v i)) at' k h2 (by simp; omega) (by simp at hM; omega)
   rw [show ((pre ++ [i]).length : Int) = ((pre.length + 1 : Nat) : Int) by simp] at hq
   rw [cond_true, show ((0 : Int) != 0) = false from rfl, cond_false]
   simp only [h1, ai, Pa.bU (show pre.length < 4611686018427387904 by omega)]
   rw [hq, Bool.true_and]
   rfl
theorem No {m : Sy.Mdl} {v : List Int} (hm : SafeS m.2.1 m.2.2.2.2) (hv : InS m.2.1 v) : q5 m v = some (tC m.2.1 m.2.2.2.2 v) := by
 have hlen : (enI v 0 m.2.2.2.2).length ≤ 300 := by
  rw [Ac]
  have := List.length_filter_le (fun c : Sy.Cmd => decide (ev v c.2.1 = 1)) m.2.2.2.2
  have := hm.cmds
  unfold enC; omega
 have hq := Aq m v hm hv (enI v 0 m.2.2.2.2) (fun i hi => Pn hi) hlen (enI v 0 m.2.2.2.2) [] rfl 0 [] none aq Jl (Nat.le_refl _) (by show _ < 2 ^ 64; omega)
 have hmap : (enI v 0 m.2.2.2.2).map (gQ m.2.2.2.2 v) = goes v m.2.2.2.2 := EV v m.2.2.2.2 m.2.2.2.2 [] rfl
 rw [hmap] at hq
 unfold q5 tO
 rw [ai]
 simp only
 rw [show (m.1, m.2.1, m.2.2.1, m.2.2.2.1, m.2.2.2.2) = m from rfl, Pz hm, ai]
 rw [show ((([] : List Int).length : Nat) : Int) = 0 from rfl] at hq
 rw [hq]
 congr 1
 unfold tC F7
 cases ha : (goes v m.2.2.2.2).all (fits m.2.1)
 ·have hg : goes v m.2.2.2.2 ≠ [] := fun e => by rw [e] at ha; cases ha
  rw [if_neg hg, if_neg (by decide)]
  rfl
 ·rw [if_pos rfl, cond_true]
  by_cases hg : goes v m.2.2.2.2 = []
  ·rw [if_pos hg, if_pos (by rw [hg]; rfl)]
  ·rw [if_neg hg, if_neg]
   intro e
   cases hgo : goes v m.2.2.2.2 with
   | nil => exact hg hgo
   | cons x r =>
    have : x ∈ rB [] (x :: r) := Cd.2 (.inr (by simp))
    rw [hgo] at e
    rw [e] at this
    cases this
end Sp
end Go.Proofs.YtpnogcmollnjeaaGreatDoor
namespace Go.Proofs.YtpnogcmollnjeaaGreatDoor
namespace Sy
open Pa
noncomputable def Er {α : Type} (x : Except Err α) : Prop := ∀ e, x = .error e → e.1 ≠ 0
theorem Er.ok {α : Type} {a : α} : Er (.ok a : Except Err α) := fun e h => by cases h
theorem Er.lit {α : Type} {e : Err} (h : e.1 ≠ 0) : Er (.error e : Except Err α) := fun e' he => by cases he; exact h
theorem Er.bif {α : Type} {c : Bool} {a b : Except Err α} (ha : c = true → Er a) (hb : c = false → Er b) : Er (bif c then a else b) := by cases c; exact hb rfl; exact ha rfl
theorem Er.of {α : Type} {x : Except Err α} (h : Er x) {e : Err} (he : x = .error e) {β : Type} : Er (.error e : Except Err β) := .lit (h e he)
theorem Jn {names : List Str} {ts : List Tok} : Er (q6 names ts) := fun e h => by
 unfold q6 at h
 split at h
 ·rename_i hx
  have h1 := Classical.choose_spec hx
  rw [h] at h1
  rcases h1.err e rfl with h | h | h <;> omega
 ·cases h; decide
theorem qd {x : Str} {ts : List Tok} : Er (aV x ts) := by
 unfold aV
 split
 ·exact .lit (by decide)
 ·exact .bif (fun _ => .ok) (fun _ => .lit (show (2 : Int) ≠ 0 by decide))
theorem BR {full : Bool} {names procs : List Str} {ts : List Tok} : Er (cS full names procs ts) := by
 unfold cS
 split
 ·exact .lit (by decide)
 ·exact .bif (fun _ => .lit (show (2 : Int) ≠ 0 by decide)) fun _ => .bif (fun _ => .lit (show (3 : Int) ≠ 0 by decide)) fun _ => .bif (fun _ => .lit (show (9 : Int) ≠ 0 by decide)) fun _ => .ok
theorem C4 {neg : Bool} {ts : List Tok} : Er (jG neg ts) := by
 unfold jG
 split
 ·exact .lit (by decide)
 ·exact .bif (fun _ => .lit (show (2 : Int) ≠ 0 by decide)) fun _ => .ok
theorem zT {ts : List Tok} : Er (db ts) := .bif (fun _ => C4) fun _ => C4
theorem Mt {m : Mdl} {ts : List Tok} : Er (jg m ts) := by
 unfold jg
 split
 ·rename_i h; exact BR.of h
 ·split
  ·rename_i h; exact zT.of h
  ·split
   ·rename_i h; exact zT.of h
   ·split
    ·rename_i h; exact zT.of h
    ·split
     ·rename_i h; exact qd.of h
     ·exact .bif (fun _ => .lit (show (5 : Int) ≠ 0 by decide)) fun _ => .ok
theorem CF {want : Int} {names : List Str} {ts : List Tok} : Er (bW want names ts) := by
 unfold bW
 split
 ·rename_i h; exact Jn.of h
 ·exact .bif (fun h => .lit (by simpa using h)) fun _ => .bif (fun _ => .lit (show (4 : Int) ≠ 0 by decide)) fun _ => .ok
theorem DS {names : List Str} : ∀ (f : Nat) (acc : List (Int × Ex)) (ts : List Tok), Er (cD names f acc ts)
 | 0, _, _ => .lit (show (2 : Int) ≠ 0 by decide)
 | f + 1, acc, ts => by
  unfold cD
  split
  ·exact .lit (by decide)
  ·refine .bif (fun _ => .lit (show (2 : Int) ≠ 0 by decide)) fun _ => .bif (fun _ => .lit (show (3 : Int) ≠ 0 by decide)) fun _ => ?_
   split
   ·rename_i h; exact qd.of h
   ·split
    ·rename_i h; exact CF.of h
    ·exact .bif (fun _ => DS f _ _) fun _ => .ok
theorem Nr {m : Mdl} {ts : List Tok} : Er (gF m ts) := by
 unfold gF
 refine .bif (fun _ => .lit (show (9 : Int) ≠ 0 by decide)) fun _ => ?_
 split
 ·rename_i h; exact CF.of h
 ·split
  ·rename_i h; exact qd.of h
  ·split
   ·rename_i h; exact (DS _ _ _).of h
   ·split
    ·rename_i h; exact qd.of h
    ·exact .ok
theorem DU : ∀ (f : Nat) (m : Mdl) (ts : List Tok), Er (fN f m ts)
 | 0, _, _ => .lit (show (2 : Int) ≠ 0 by decide)
 | f + 1, m, ts => by
  unfold fN
  refine .bif (fun _ => .ok) fun _ => ?_
  split
  ·rename_i h; exact Nr.of h
  ·exact DU f _ _
theorem Ku {m : Mdl} {ts : List Tok} : Er (kO m ts) := by
 unfold kO
 split
 ·rename_i h; exact BR.of h
 ·split
  ·rename_i h; exact qd.of h
  ·exact DU _ _ _
theorem vj : ∀ (f : Nat) (m : Mdl) (ts : List Tok), Er (iH f m ts)
 | 0, _, _ => .lit (show (2 : Int) ≠ 0 by decide)
 | f + 1, m, ts => by
  unfold iH
  split
  ·exact .lit (by decide)
  ·refine .bif (fun _ => .bif (fun _ => .lit (show (2 : Int) ≠ 0 by decide)) fun _ => .ok) fun _ => .bif (fun _ => ?_) fun _ => .bif (fun _ => ?_) fun _ => .lit (show (2 : Int) ≠ 0 by decide)
   ·split
    ·rename_i h; exact Mt.of h
    ·exact vj f _ _
   ·split
    ·rename_i h; exact Ku.of h
    ·exact vj f _ _
theorem LN {text : Str} {e : Err} (h : xl text = .error e) : e.1 ≠ 0 := by
 unfold xl at h
 split at h
 ·cases h; decide
 ·split at h
  ·exact vj _ _ _ e h
  ·rename_i hl
   cases h
   exact BM _ _ _ _ hl
end Sy
end Go.Proofs.YtpnogcmollnjeaaGreatDoor
namespace Go.Proofs.YtpnogcmollnjeaaGreatDoor
namespace Sp
/-! rows alike -/
/-! the place of a state in a row -/
/-! within the ranges, as the document says it -/
noncomputable def inB (S : List (Int × Int)) (v : List Int) : Bool := decide (v.length = S.length) && fits S v
theorem gJ {S : List (Int × Int)} {v : List Int} : inB S v = true ↔ InS S v := by
 unfold inB
 rw [Bool.and_eq_true, decide_eq_true_eq]
 exact ⟨fun h => ⟨h.1, h.2⟩, fun h => ⟨h.len, h.fit⟩⟩
/-! what the document's walk needs -/
structure PH (S : List (Int × Int)) (C : List Sy.Cmd) : Prop extends SafeS S C where
 rguard : ∀ c ∈ C, dM (S.length : Int) c.2.1 = true ∧ (rt c.2.1).1 = 2
 rsets : ∀ c ∈ C, ∀ s ∈ c.2.2, dM (S.length : Int) s.2 = true ∧ (rt s.2).1 = 1
theorem MM {m : Sy.Mdl} (h : Sy.Wf m) : PH m.2.1 m.2.2.2.2 := by
 have hs := h.schema
 have h1 := h.some_
 have h2 := h.names
 have h3 := h.cmds
 refine { pos := by omega, few := by omega, field := h.fields, cmds := by omega, guard := fun c hc => ?_, sets := fun c hc => ⟨(h.cmd c hc).len, fun s hs2 => ?_⟩, rguard := fun c hc => ?_, rsets := fun c hc s hs2 => ?_ }
 ·have := (h.cmd c hc).sz; omega
 ·have k := (h.cmd c hc).sets s hs2
  have := k.var; have := k.sz
  refine ⟨by omega, by omega, by omega⟩
 ·have k := h.cmd c hc
  rw [hs]
  exact ⟨k.may, k.typ.2⟩
 ·have k := (h.cmd c hc).sets s hs2
  rw [hs]
  exact ⟨k.may, k.typ.2⟩
theorem Fj : ∀ {S : List (Int × Int)} {v : List Int}, (∀ (i : Nat) (f : Int × Int) (n : Int), S[i]? = some f → v[i]? = some n → f.1 ≤ n ∧ n ≤ f.2) → fits S v = true
 | [], [], _ => rfl
 | [], _ :: _, _ => rfl
 | _ :: _, [], _ => rfl
 | s :: S, x :: v, h => by
  have h0 := h 0 s x rfl rfl
  simp only [fits, Bool.and_eq_true, decide_eq_true_eq]
  exact ⟨h0, Fj fun i f n h1 h2 => h (i + 1) f n (by simpa using h1) (by simpa using h2)⟩
theorem MS {m : Sy.Mdl} (h : Sy.Wf m) : InS m.2.1 m.2.2.1 := ⟨by rw [h.init, h.schema], Fj h.first⟩
/-! the system of a text -/
theorem Jj (text : Str) : ∃ q, eX text = some q ∧ (q.2 = true → Sy.Wf q.1) := by
 unfold eX
 by_cases h : (600 : Int) < (text.length : Int)
 ·rw [decide_eq_true h, cond_true]
  exact ⟨_, rfl, fun h => by cases h⟩
 ·rw [decide_eq_false h, cond_false, Sy.Lr, ai]
  refine ⟨_, rfl, fun h => ?_⟩
  cases hs : Sy.xl text with
  | ok m =>
   exact Sy.H3 hs
  | error e =>
   rw [hs] at h
   exact absurd (by simpa [Sy.xr] using h) (Sy.LN hs)
end Sp
end Go.Proofs.YtpnogcmollnjeaaGreatDoor
namespace Go.Proofs.YtpnogcmollnjeaaGreatDoor
namespace Ls
open Sp
/-! witnesses of few states -/
abbrev Las := List (List Int) × List (List Int)
noncomputable def DB (l : Las) (most : Int) : Bool := decide ((l.1.length : Int) ≤ most) && decide ((l.2.length : Int) ≤ most) && (l.1.all (fun v => decide (v.length ≤ 40)) && l.2.all (fun v => decide (v.length ≤ 40)))
theorem OO (l : Las) (hl : l.2.length < 1000000) : ∀ (r pre : List (List Int)), l.2 = pre ++ r → ∀ M, r.length < M → al (fM l) M (pre.length : Int) = some (r.all fun v => decide (v.length ≤ 40))
 | [], pre, h, M, hM => by
  obtain ⟨m, rfl⟩ : ∃ m, M = m + 1 := ⟨M - 1, by simp at hM; omega⟩
  rw [ao]
  simp only [fM, Sy.j9 h, cond_false, List.all_nil]
 | x :: r, pre, h, M, hM => by
  obtain ⟨m, rfl⟩ : ∃ m, M = m + 1 := ⟨M - 1, by omega⟩
  rw [ao]
  have hlen : pre.length + r.length + 1 = l.2.length := by rw [h]; simp; omega
  have ih := OO l hl r (pre ++ [x]) (by rw [h]; simp) m (by simp at hM; omega)
  rw [show ((pre ++ [x]).length : Int) = ((pre.length + 1 : Nat) : Int) by simp] at ih
  simp only [fM, Sy.iz h, cond_true, Sy.mid h, ai, Pa.bU (show pre.length < 4611686018427387904 by omega), ih, List.all_cons]
  by_cases e : x.length ≤ 40
  ·rw [decide_eq_true e, decide_eq_false (by omega)]; rfl
  ·rw [decide_eq_false e, decide_eq_true (by omega)]; rfl
theorem O5 (l : Las) (h1 : l.1.length < 1000000) (hl : l.2.length < 1000000) : ∀ (r pre : List (List Int)), l.1 = pre ++ r → ∀ M, r.length < M → al (fJ l) M (pre.length : Int) = some (r.all (fun v => decide (v.length ≤ 40)) && l.2.all fun v => decide (v.length ≤ 40))
 | [], pre, h, M, hM => by
  obtain ⟨m, rfl⟩ : ∃ m, M = m + 1 := ⟨M - 1, by simp at hM; omega⟩
  rw [ao]
  simp only [fJ, Sy.j9 h, cond_false, List.all_nil, Bool.true_and]
  exact OO l hl l.2 [] rfl aq (by show _ < 2 ^ 64; omega)
 | x :: r, pre, h, M, hM => by
  obtain ⟨m, rfl⟩ : ∃ m, M = m + 1 := ⟨M - 1, by omega⟩
  rw [ao]
  have hlen : pre.length + r.length + 1 = l.1.length := by rw [h]; simp; omega
  have ih := O5 l h1 hl r (pre ++ [x]) (by rw [h]; simp) m (by simp at hM; omega)
  rw [show ((pre ++ [x]).length : Int) = ((pre.length + 1 : Nat) : Int) by simp] at ih
  simp only [fJ, Sy.iz h, cond_true, Sy.mid h, ai, Pa.bU (show pre.length < 4611686018427387904 by omega), ih, List.all_cons]
  by_cases e : x.length ≤ 40
  ·rw [decide_eq_true e, decide_eq_false (by omega)]; rfl
  ·rw [decide_eq_false e, decide_eq_true (by omega)]; rfl
theorem Pg (l : Las) (most : Int) (hm : most ≤ 100) : fD l most = some (DB l most) := by
 unfold fD DB
 simp only [aM]
 by_cases h1 : (l.1.length : Int) ≤ most
 ·by_cases h2 : (l.2.length : Int) ≤ most
  ·rw [decide_eq_false (show ¬ most < (l.1.length : Int) by omega), decide_eq_false (show ¬ most < (l.2.length : Int) by omega), decide_eq_true h1, decide_eq_true h2]
   exact O5 l (by omega) (by omega) l.1 [] rfl aq (by show _ < 2 ^ 64; omega)
  ·rw [decide_eq_true (show most < (l.2.length : Int) by omega), decide_eq_false h2, Bool.or_true, Bool.and_false]
   rfl
 ·rw [decide_eq_true (show most < (l.1.length : Int) by omega), decide_eq_false h1]
  rfl
structure Small (l : Las) (n : Nat) : Prop where
 stem : l.1.length ≤ n
 cyc : l.2.length ≤ n
 rows1 : ∀ v ∈ l.1, v.length ≤ 40
 rows2 : ∀ v ∈ l.2, v.length ≤ 40
theorem Nl {l : Las} {n : Nat} (h : DB l (n : Int) = true) : Small l n := by
 unfold DB at h
 simp only [Bool.and_eq_true, decide_eq_true_eq, List.all_eq_true] at h
 exact ⟨by omega, by omega, h.2.1, h.2.2⟩
/-! rows one behind the other -/
theorem O3 (L : List (List (List Int))) (hl : L.length < 1000000) : ∀ (r pre : List (List (List Int))), L = pre ++ r → ∀ (acc : List (List Int)) (M : Nat), acc.length + r.flatten.length < 1000000 → r.length < M → al (ew L) M (acc, (pre.length : Int)) = some (acc ++ r.flatten)
 | [], pre, h, acc, M, ha, hM => by
  obtain ⟨m, rfl⟩ : ∃ m, M = m + 1 := ⟨M - 1, by simp at hM; omega⟩
  rw [ao]
  simp only [ew, Sy.j9 h, cond_false, List.flatten_nil, List.append_nil]
 | x :: r, pre, h, acc, M, ha, hM => by
  obtain ⟨m, rfl⟩ : ∃ m, M = m + 1 := ⟨M - 1, by omega⟩
  rw [ao]
  have hlen : pre.length + r.length + 1 = L.length := by rw [h]; simp; omega
  simp only [List.flatten_cons, List.length_append] at ha
  have ih := O3 L hl r (pre ++ [x]) (by rw [h]; simp) (acc ++ x) m (by rw [List.length_append]; omega) (by simp at hM; omega)
  rw [show ((pre ++ [x]).length : Int) = ((pre.length + 1 : Nat) : Int) by simp] at ih
  simp only [ew, Sy.iz h, cond_true, Sy.mid h, ai, Pa.bU (show pre.length < 4611686018427387904 by omega)]
  rw [Sy.cQ (Sy.cJ (by omega) (by omega)), ih]
  simp
theorem Og (L : List (List (List Int))) (hl : L.length < 1000000) (hL : L.flatten.length < 1000000) : ∀ (r pre : List (List (List Int))), L = pre ++ r → ∀ (M : Nat), r.length < M → al (er L) M ((pre.flatten.length : Int), (pre.length : Int)) = some L.flatten
 | [], pre, h, M, hM => by
  obtain ⟨m, rfl⟩ : ∃ m, M = m + 1 := ⟨M - 1, by simp at hM; omega⟩
  rw [ao]
  have e : pre = L := by rw [h]; simp
  simp only [er, Sy.j9 h, cond_false]
  rw [e]
  have hg : yt (L.flatten.length : Int) = some [] := by
   unfold yt
   rw [decide_eq_true (show (0 : Int) ≤ (L.flatten.length : Int) by omega), Sy.cQ (by rw [Bool.true_and]; exact Sy.cJ (by rw [Int.toNat_natCast]; omega) (by rw [Int.toNat_natCast]; omega))]
  rw [hg, ai]
  have := O3 L hl L [] rfl [] aq (by simpa using hL) (by show _ < 2 ^ 64; omega)
  rw [show ((([] : List (List (List Int))).length : Nat) : Int) = 0 from rfl] at this
  rw [this, List.nil_append]
 | x :: r, pre, h, M, hM => by
  obtain ⟨m, rfl⟩ : ∃ m, M = m + 1 := ⟨M - 1, by omega⟩
  rw [ao]
  have hlen : pre.length + r.length + 1 = L.length := by rw [h]; simp; omega
  have hf : pre.flatten.length + x.length ≤ L.flatten.length := by rw [h]; simp only [List.flatten_append, List.flatten_cons, List.length_append]; omega
  have ih := Og L hl hL r (pre ++ [x]) (by rw [h]; simp) m (by simp at hM; omega)
  rw [show ((pre ++ [x]).length : Int) = ((pre.length + 1 : Nat) : Int) by simp, show ((pre ++ [x]).flatten.length : Int) = (pre.flatten.length : Int) + (x.length : Int) by simp] at ih
  have hw : IntKind.i64.wrap ((pre.flatten.length : Int) + (x.length : Int)) = (pre.flatten.length : Int) + (x.length : Int) := w64 (by omega)
  simp only [er, Sy.iz h, cond_true, Sy.mid h, ai, Pa.bU (show pre.length < 4611686018427387904 by omega), hw, ih]
  rw [decide_eq_false (by omega), cond_false]
theorem An (L : List (List (List Int))) (hl : L.length < 1000000) (hL : L.flatten.length < 1000000) : fu L = some L.flatten := by
 have := Og L hl hL L [] rfl aq (by show _ < 2 ^ 64; omega)
 exact this
/-! ranges of all states -/
noncomputable def inB (S : List (Int × Int)) (v : List Int) : Bool := decide (v.length = S.length) && fits S v
theorem gJ {S : List (Int × Int)} {v : List Int} : inB S v = true ↔ InS S v := by
 unfold inB
 rw [Bool.and_eq_true, decide_eq_true_eq]
 exact ⟨fun h => ⟨h.1, h.2⟩, fun h => ⟨h.len, h.fit⟩⟩
theorem Nq : @uF = @gr := rfl
theorem PT {S : List (Int × Int)} (hS : S.length < 1000) (v : List Int) (N I P C) : me v N S I P C = some (inB S v) := by
 unfold me
 rw [Nq]
 by_cases hl : v.length = S.length
 ·rw [LX S v hl (by omega), ai]
  unfold inB
  rw [decide_eq_true hl, Bool.true_and]
  cases fits S v <;> rfl
 ·unfold gr inB
  rw [show ((List.length v : Int) != (List.length S : Int)) = true by simp; omega, cond_true, ai, decide_eq_false hl]
  rfl
theorem DG {S : List (Int × Int)} (hS : S.length < 1000) (l : List (List Int)) (hl : l.length < 1000000) (N I P C) : ∀ (r pre : List (List Int)), l = pre ++ r → ∀ M, r.length < M → al (fc l N S I P C) M (pre.map (inB S), (pre.length : Int)) = some (l.map (inB S))
 | [], pre, h, M, hM => by
  obtain ⟨m, rfl⟩ : ∃ m, M = m + 1 := ⟨M - 1, by simp at hM; omega⟩
  rw [ao]
  simp only [fc, Sy.j9 h, cond_false]
  rw [h, List.append_nil]
 | x :: r, pre, h, M, hM => by
  obtain ⟨m, rfl⟩ : ∃ m, M = m + 1 := ⟨M - 1, by omega⟩
  rw [ao]
  have hlen : pre.length + r.length + 1 = l.length := by rw [h]; simp; omega
  have ih := DG hS l hl N I P C r (pre ++ [x]) (by rw [h]; simp) m (by simp at hM; omega)
  rw [show ((pre ++ [x]).length : Int) = ((pre.length + 1 : Nat) : Int) by simp, List.map_append, List.map_cons, List.map_nil] at ih
  simp only [fc, Sy.iz h, cond_true, Sy.mid h, ai, PT hS, Pa.bU (show pre.length < 4611686018427387904 by omega)]
  rw [Sy.cQ (Sy.cJ (by simp; omega) (by simp; omega)), ih]
theorem oN (l : List Bool) (hl : l.length < 1000000) : ∀ (r pre : List Bool), l = pre ++ r → ∀ M, r.length < M → ∃ i : Int, al (dU l false) M (pre.length : Int) = some i ∧ (decide (0 ≤ i)) = r.contains false
 | [], pre, h, M, hM => by
  obtain ⟨m, rfl⟩ : ∃ m, M = m + 1 := ⟨M - 1, by simp at hM; omega⟩
  rw [ao]
  simp only [dU, Sy.j9 h, cond_false]
  exact ⟨_, rfl, rfl⟩
 | x :: r, pre, h, M, hM => by
  obtain ⟨m, rfl⟩ : ∃ m, M = m + 1 := ⟨M - 1, by omega⟩
  rw [ao]
  have hlen : pre.length + r.length + 1 = l.length := by rw [h]; simp; omega
  obtain ⟨i, h1, h2⟩ := oN l hl r (pre ++ [x]) (by rw [h]; simp) m (by simp at hM; omega)
  rw [show ((pre ++ [x]).length : Int) = ((pre.length + 1 : Nat) : Int) by simp] at h1
  simp only [dU, Sy.iz h, cond_true, Sy.mid h, ai, Pa.bU (show pre.length < 4611686018427387904 by omega), h1]
  cases x
  ·exact ⟨_, rfl, by simp⟩
  ·exact ⟨i, rfl, by rw [h2]; simp⟩
theorem Ip (l : List Bool) (hl : l.length < 1000000) : dX l false = some (l.contains false) := by
 unfold dX ig
 obtain ⟨i, h1, h2⟩ := oN l hl l [] rfl aq (by show _ < 2 ^ 64; omega)
 rw [show ((([] : List Bool).length : Nat) : Int) = 0 from rfl] at h1
 rw [h1, ai, h2]
/-! alike, and among -/
theorem yV (a b : List Int) (hl : a.length = b.length) (ha : a.length < 1000000000) : ∀ (r pre s : List Int), a = pre ++ r → b = pre ++ s → ∀ M, r.length < M → al (eO a b) M (pre.length : Int) = some (r == s)
 | [], pre, s, h, h2, M, hM => by
  obtain ⟨m, rfl⟩ : ∃ m, M = m + 1 := ⟨M - 1, by simp at hM; omega⟩
  rw [ao]
  have : s = [] := List.eq_nil_of_length_eq_zero (by rw [h, h2] at hl; simp only [List.length_append, List.length_nil] at hl; omega)
  subst this
  simp only [eO, Sy.j9 h, cond_false]
  rfl
 | x :: r, pre, [], h, h2, M, hM => by rw [h, h2] at hl; simp at hl
 | x :: r, pre, y :: s, h, h2, M, hM => by
  obtain ⟨m, rfl⟩ : ∃ m, M = m + 1 := ⟨M - 1, by omega⟩
  rw [ao]
  have hlen : pre.length + r.length + 1 = a.length := by rw [h]; simp; omega
  simp only [eO, Sy.iz h, cond_true, Sy.mid h, Sy.mid h2, ai]
  by_cases e : x = y
  ·subst e
   have ih := yV a b hl ha r (pre ++ [x]) s (by rw [h]; simp) (by rw [h2]; simp) m (by simp at hM; omega)
   rw [show ((pre ++ [x]).length : Int) = ((pre.length + 1 : Nat) : Int) by simp] at ih
   rw [show (x != x) = false by simp, cond_false, Pa.bU (show pre.length < 4611686018427387904 by omega), ih]
   simp
  ·rw [show (x != y) = true by simpa using e, cond_true, show ((x :: r) == (y :: s)) = false by simp [e]]
theorem Cq (a b : List Int) (ha : a.length < 1000000000) : eo a b = some (a == b) := by
 unfold eo
 by_cases hl : a.length = b.length
 ·rw [show ((List.length a : Int) != (List.length b : Int)) = false by rw [hl]; simp, cond_false]
  exact yV a b hl ha a [] b rfl rfl aq (by show _ < 2 ^ 64; omega)
 ·rw [show ((List.length a : Int) != (List.length b : Int)) = true by simp; omega, cond_true, beq_eq_false_iff_ne.2 (fun e => hl (by rw [e]))]
theorem ym (l : List (List Int)) (y : List Int) (hy : y.length < 1000000000) (hl : l.length < 1000000) : ∀ (r pre : List (List Int)), l = pre ++ r → ∀ M, r.length < M → ∃ i : Int, al (dz l y) M (pre.length : Int) = some i ∧ (decide (0 ≤ i)) = r.contains y
 | [], pre, h, M, hM => by
  obtain ⟨m, rfl⟩ : ∃ m, M = m + 1 := ⟨M - 1, by simp at hM; omega⟩
  rw [ao]
  simp only [dz, Sy.j9 h, cond_false]
  exact ⟨_, rfl, rfl⟩
 | x :: r, pre, h, M, hM => by
  obtain ⟨m, rfl⟩ : ∃ m, M = m + 1 := ⟨M - 1, by omega⟩
  rw [ao]
  have hlen : pre.length + r.length + 1 = l.length := by rw [h]; simp; omega
  obtain ⟨i, h1, h2⟩ := ym l y hy hl r (pre ++ [x]) (by rw [h]; simp) m (by simp at hM; omega)
  rw [show ((pre ++ [x]).length : Int) = ((pre.length + 1 : Nat) : Int) by simp] at h1
  simp only [dz, Sy.iz h, cond_true, Sy.mid h, ai, mb, Cq y x hy, Pa.bU (show pre.length < 4611686018427387904 by omega), h1]
  by_cases e : y = x
  ·rw [show (y == x) = true by simpa using e, cond_true]
   exact ⟨_, rfl, by rw [e]; simp⟩
  ·rw [show (y == x) = false by simpa using e, cond_false]
   exact ⟨i, rfl, by rw [h2, List.contains_cons, show (y == x) = false by simpa using e, Bool.false_or]⟩
theorem Lc (l : List (List Int)) (y : List Int) (hy : y.length < 1000000000) (hl : l.length < 1000000) : dB l y = some (l.contains y) := by
 unfold dB fZ
 obtain ⟨i, h1, h2⟩ := ym l y hy hl l [] rfl aq (by show _ < 2 ^ 64; omega)
 rw [show ((([] : List (List Int)).length : Nat) : Int) = 0 from rfl] at h1
 rw [h1, ai, h2]
/-! steps and ways -/
noncomputable def vM (m : Sy.Mdl) (x y : List Int) : Bool := ((tC m.2.1 m.2.2.2.2 x).2 == 0) && (tC m.2.1 m.2.2.2.2 x).1.contains y
noncomputable def chain (m : Sy.Mdl) : List Int → List (List Int) → Bool
 | _, [] => true
 | x, y :: r => vM m x y && chain m y r
noncomputable def y6 (m : Sy.Mdl) : List (List Int) → Bool
 | [] => false
 | x :: r => (x == m.2.2.1) && chain m x r
noncomputable def mJ (m : Sy.Mdl) (l : Las) : Bool := match l.2 with
 | [] => false
 | c :: _ => (l.1 ++ l.2).all (inB m.2.1) && y6 m (l.1 ++ l.2 ++ [c])
theorem PV {m : Sy.Mdl} (hm : SafeS m.2.1 m.2.2.2.2) {x : List Int} (hx : InS m.2.1 x) (y : List Int) (hy : y.length < 1000000000) : mo x y m.1 m.2.1 m.2.2.1 m.2.2.2.1 m.2.2.2.2 = some (vM m x y) := by
 have hfew := IZ (S := m.2.1) (cmds := m.2.2.2.2) x
 have hc := hm.cmds
 unfold mo vM
 rw [show (m.1, m.2.1, m.2.2.1, m.2.2.2.1, m.2.2.2.2) = m from rfl, No hm hx, ai]
 simp only [aM]
 rw [Lc _ y hy (by omega), pq]
 cases ((tC m.2.1 m.2.2.2.2 x).2 == 0) <;> rfl
theorem xM {m : Sy.Mdl} (hm : SafeS m.2.1 m.2.2.2.2) (l : List (List Int)) (hl : l.length < 1000000) (hi : ∀ v ∈ l, InS m.2.1 v) : ∀ (r pre : List (List Int)) (x : List Int), l = pre ++ x :: r → ∀ M, r.length < M →
  al (iA l m.1 m.2.1 m.2.2.1 m.2.2.2.1 m.2.2.2.2) M ((pre.length + 1 : Nat) : Int) = some (chain m x r)
 | [], pre, x, h, M, hM => by
  obtain ⟨k, rfl⟩ : ∃ k, M = k + 1 := ⟨M - 1, by simp at hM; omega⟩
  rw [ao]
  have hlen : l.length = pre.length + 1 := by rw [h]; simp
  simp only [iA]
  rw [decide_eq_false (by omega), cond_false, chain]
 | y :: r, pre, x, h, M, hM => by
  obtain ⟨k, rfl⟩ : ∃ k, M = k + 1 := ⟨M - 1, by omega⟩
  rw [ao]
  have hlen : l.length = pre.length + r.length + 2 := by rw [h]; simp; omega
  have ih := xM hm l hl hi r (pre ++ [x]) y (by rw [h]; simp) k (by simp at hM; omega)
  rw [show (pre ++ [x]).length = pre.length + 1 by simp] at ih
  have e1 : idx l (IntKind.i64.wrap (((pre.length + 1 : Nat) : Int) - 1)) = some x := by
   rw [w64 (by omega), show ((pre.length + 1 : Nat) : Int) - 1 = (pre.length : Int) by omega]
   exact Sy.mid h
  have e2 : idx l ((pre.length + 1 : Nat) : Int) = some y := by
   have h' : l = (pre ++ [x]) ++ y :: r := by rw [h]; simp
   have := Sy.mid h'
   rwa [show (pre ++ [x]).length = pre.length + 1 by simp] at this
  have hx := hi x (by rw [h]; simp)
  have hy := hi y (by rw [h]; simp)
  simp only [iA]
  rw [decide_eq_true (by omega), cond_true, e1, ai, e2, ai, PV hm hx y (hy.short hm), ai, Pa.bU (show pre.length + 1 < 4611686018427387904 by omega), ih, chain]
  cases vM m x y <;> rfl
theorem NG {S : List (Int × Int)} (l : List (List Int)) : (l.map (inB S)).contains false = !(l.all (inB S)) := by
 induction l with
 | nil => rfl
 | cons x r ih =>
  rw [List.map_cons, List.contains_cons, ih, List.all_cons]
  cases inB S x <;> cases r.all (inB S) <;> rfl
theorem BO {m : Sy.Mdl} (hm : SafeS m.2.1 m.2.2.2.2) {l : Las} {n : Nat} (hs : l.1.length + l.2.length ≤ n) (hn : n < 100000) (hr : ∀ v ∈ l.1 ++ l.2, v.length < 1000000000) : eA m l = some (mJ m l) := by
 obtain ⟨st, cy⟩ := l
 simp only at hs hr
 unfold eA
 simp only
 cases cy with
 | nil => rfl
 | cons c r =>
  rw [show mJ m (st, c :: r) = ((st ++ (c :: r)).all (inB m.2.1) && y6 m (st ++ (c :: r) ++ [c])) from rfl]
  simp only [List.length_cons] at hs
  rw [show ((List.length (c :: r) : Int) == 0) = false by simp; omega, cond_false]
  rw [Sy.cQ (show dL 0 1 (List.length (c :: r)) = true by unfold dL; simp; omega), show bw (c :: r) 0 1 = [c] from rfl]
  have hcat : ([st, c :: r, [c]] : List (List (List Int))).flatten = st ++ (c :: r) ++ [c] := by simp
  rw [An _ (by simp) (by rw [hcat]; simp; omega), ai, hcat]
  have hS : m.2.1.length < 1000 := by have := hm.few; omega
  unfold jx
  have hmap := DG hS (st ++ (c :: r) ++ [c]) (by simp; omega) m.1 m.2.2.1 m.2.2.2.1 m.2.2.2.2 (st ++ (c :: r) ++ [c]) [] rfl aq (by simp; show _ < 2 ^ 64; omega)
  rw [show ((([] : List (List Int)).length : Nat) : Int) = 0 from rfl, List.map_nil] at hmap
  rw [hmap, ai, Ip _ (by simp; omega), ai, NG]
  have hall : (st ++ (c :: r) ++ [c]).all (inB m.2.1) = (st ++ (c :: r)).all (inB m.2.1) := by
   rw [List.all_append]
   cases h : (st ++ (c :: r)).all (inB m.2.1)
   ·rfl
   ·rw [Bool.true_and]
    rw [List.all_append, List.all_cons] at h
    simp only [Bool.and_eq_true] at h
    simp [h.2.1]
  rw [hall]
  cases h : (st ++ (c :: r)).all (inB m.2.1)
  ·rfl
  ·have hin : ∀ v ∈ st ++ (c :: r) ++ [c], InS m.2.1 v := fun v hv => gJ.1 (List.all_eq_true.1 (hall.trans h) v hv)
   obtain ⟨x, q, hxq⟩ : ∃ x q, st ++ (c :: r) ++ [c] = x :: q := by
    cases st with
    | nil => exact ⟨_, _, rfl⟩
    | cons a b => exact ⟨_, _, rfl⟩
   have hlq : (x :: q).length < 1000000 := by rw [← hxq]; simp; omega
   rw [hxq] at hin ⊢
   rw [y6]
   simp only [Bool.not_true, Bool.not_false, cN, Bool.false_or, aM, Bool.true_and]
   rw [show idx (x :: q) 0 = some x from rfl, ai, Cq x m.2.2.1 ((hin x (by simp)).short hm), ai]
   cases hx : x == m.2.2.1
   ·rfl
   ·have := xM hm (x :: q) hlq hin q [] x rfl aq (by simp at hlq; show _ < 2 ^ 64; omega)
    rw [show ((([] : List (List Int)).length + 1 : Nat) : Int) = 1 from rfl] at this
    simp only [Bool.not_true, cond_false, Bool.true_and]
    unfold na
    rw [this, ai]
theorem NK {l : Las} {n : Nat} (hs : l.1.length + l.2.length ≤ n) (hn : n < 100000) : kf l = some (l.1 ++ l.2, (l.1.length : Int)) := by
 unfold kf
 have hcat : ([l.1, l.2] : List (List (List Int))).flatten = l.1 ++ l.2 := by simp
 rw [An _ (by simp) (by rw [hcat]; simp; omega), ai, hcat]
theorem Ly {m : Sy.Mdl} {l : Las} (h : mJ m l = true) : l.2 ≠ [] := fun e => by
 unfold mJ at h
 rw [e] at h
 cases h
noncomputable def yv (m : Sy.Mdl) (e : Ex) (l : Las) : Bool := mJ m l && !rd (sm (l.1 ++ l.2) l.1.length e) 0
theorem BS {vars : Int} {m : Sy.Mdl} (hm : SafeS m.2.1 m.2.2.2.2) {l : Las} {n : Nat} (hs : l.1.length + l.2.length ≤ n) (hn : n < 100000) (hr : ∀ v ∈ l.1 ++ l.2, v.length < 1000000000) {e : Ex} (hf : Fm vars e) : fg m e l = some (yv m e l) := by
 unfold fg yv
 rw [BO hm hs hn hr, ai]
 cases h : mJ m l
 ·simp only [jR, aM]
  rfl
 ·have hc := Ly h
  have hp : 0 < l.2.length := List.length_pos_iff.2 hc
  simp only [cN, aM]
  rw [NK hs hn, ai, K4 (V := l.1 ++ l.2) (lp := l.1.length) (by simp; omega) (by simp; omega) hf, ai]
end Ls
end Go.Proofs.YtpnogcmollnjeaaGreatDoor
namespace Go.Proofs.YtpnogcmollnjeaaGreatDoor
theorem CQ (k : Ex × Int → Option Bool) (e : Ex) (vars : Int) (hk : ∀ x ∈ e.l, k (x, vars) = some (dM vars x)) (hl : e.l.length < 4611686018427387904) :
  ∀ (r pre : List Ex), e.l = pre ++ r → ∀ (M : Nat), r.length < M → al (ei k e vars (e.l.length : Int)) M (pre.length : Int) = some (kq vars r)
 | [], pre, h, M, hM => by
  obtain ⟨m, rfl⟩ : ∃ m, M = m + 1 := ⟨M - 1, by simp at hM; omega⟩
  rw [ao]
  simp only [ei, DJ h, cond_false, kq]
 | x :: r, pre, h, M, hM => by
  obtain ⟨m, rfl⟩ : ∃ m, M = m + 1 := ⟨M - 1, by omega⟩
  rw [ao]
  have hx := hk x (by rw [h]; simp)
  have hlen : pre.length < 4611686018427387904 := by rw [h] at hl; simp at hl; omega
  have ih := CQ k e vars hk hl r (pre ++ [x]) (by rw [h]; simp) m (by simp at hM; omega)
  rw [show ((pre ++ [x]).length : Int) = ((pre.length + 1 : Nat) : Int) by simp] at ih
  simp only [ei, Cn h, cond_true, sB h, ai, hx, sg hlen, kq]
  cases dM vars x
  ·rfl
  ·simp only [Bool.not_true, cond_false, Bool.true_and]; exact ih
theorem Of (k : Ex × Int → Option Bool) (e : Ex) (vars want : Int) (hk : ∀ x ∈ e.l, k (x, vars) = some (dM vars x)) (hl : e.l.length < 4611686018427387904) :
  fT k e vars want = some (kl e.op e.n (e.l.length : Int) want vars && kq vars e.l) := by
 have loop : ((e.l.length : Int) != want) = false → al (ei k e vars want) aq 0 = some (kq vars e.l) := fun hw => by
  have hw : (e.l.length : Int) = want := by simpa using hw
  rw [← hw]
  exact CQ k e vars hk hl e.l [] rfl aq (by show e.l.length < 2 ^ 64; omega)
 unfold fT kl
 simp only [aM]
 generalize decide (e.op < 1) = c1
 generalize decide (24 < e.op) = c2
 generalize ((e.l.length : Int) != want) = c3 at *
 generalize ((e.op == 1) && (decide (e.n < 0) || decide (1073741824 < e.n)) || (e.op == 2) && (decide (e.n < 0) || decide (vars ≤ e.n)) || decide (2 < e.op) && e.n != 0) = c4
 cases c1 <;> cases c2 <;> cases c3 <;> cases c4 <;> first | exact loop rfl | rfl
theorem PX (k : Ex × Int → Option Bool) (e : Ex) (vars : Int) : dC k e vars = fT k e vars (fC e.op) := by
 unfold dC jh lT fC
 generalize (e.op == 1) = c1
 generalize (e.op == 2) = c2
 generalize (e.op == 13) = c3
 generalize (e.op == 14) = c4
 generalize (e.op == 6) = c5
 generalize (e.op == 15) = c6
 generalize (e.op == 20) = c7
 generalize (e.op == 21) = c8
 generalize (e.op == 22) = c9
 cases c1
 ·cases c2
  ·cases c3
   ·cases c4
    ·cases c5
     ·cases c6
      ·cases c7
       ·cases c8
        ·cases c9 <;> rfl
        ·rfl
       ·rfl
      ·rfl
     ·rfl
    ·rfl
   ·rfl
  ·rfl
 ·rfl
theorem Lg : ∀ (N : Nat) (e : Ex) (vars : Int), e.sz ≤ N → e.sz < 4611686018427387904 → al (fun k (s : Ex × Int) => dC k s.1 s.2) N (e, vars) = some (dM vars e) := by
 intro N
 induction N with
 | zero => intro e _ h; have := kC e; omega
 | succ N ih =>
  intro e vars h hb
  rw [ao]
  show dC _ e vars = _
  have hl := sJ e
  rw [PX, Of _ e vars _ (fun x hx => ih x vars (by have := iB hx; omega) (by have := iB hx; omega)) (by omega), zw]
theorem Oh (e : Ex) (h : e.sz < 4611686018427387904) (vars : Int) : iw e vars = some (dM vars e) := Lg aq e vars (by show e.sz ≤ 2 ^ 64; omega) h
end Go.Proofs.YtpnogcmollnjeaaGreatDoor
namespace Go.Proofs.YtpnogcmollnjeaaGreatDoor
theorem AE (k : Ex × Int → Option Int) (e : Ex) (most : Int) (hk : ∀ x ∈ e.l, ∀ m, ∃ d, k (x, m) = some d) (hl : e.l.length < 4611686018427387904) :
  ∀ (r pre : List Ex), e.l = pre ++ r → ∀ (M : Nat) (d : Int), r.length < M → ∃ v, al (dT k e most) M (d, (pre.length : Int)) = some v
 | [], pre, h, M, d, hM => by
  obtain ⟨m, rfl⟩ : ∃ m, M = m + 1 := ⟨M - 1, by simp at hM; omega⟩
  rw [ao]
  simp only [dT, DJ h, aM, Bool.false_and, cond_false]
  exact ⟨_, rfl⟩
 | x :: r, pre, h, M, d, hM => by
  obtain ⟨m, rfl⟩ : ∃ m, M = m + 1 := ⟨M - 1, by omega⟩
  rw [ao]
  obtain ⟨dx, hx⟩ := hk x (by rw [h]; simp) (IntKind.i64.wrap (most - 1))
  have hlen : pre.length < 4611686018427387904 := by rw [h] at hl; simp at hl; omega
  have ih := fun d => AE k e most hk hl r (pre ++ [x]) (by rw [h]; simp) m d (by simp at hM; omega)
  rw [show ((pre ++ [x]).length : Int) = ((pre.length + 1 : Nat) : Int) by simp] at ih
  simp only [dT, Cn h, aM, Bool.true_and]
  cases decide (1 < most)
  ·simp only [cond_false]; exact ⟨_, rfl⟩
  ·simp only [cond_true, sB h, ai, hx, sg hlen]
   cases decide (d < IntKind.i64.wrap (1 + dx))
   ·simp only [cond_false]; exact ih _
   ·simp only [cond_true]; exact ih _
theorem IJ : ∀ (N : Nat) (e : Ex) (most : Int), e.sz ≤ N → e.sz < 4611686018427387904 → ∃ d, al (fun k (s : Ex × Int) => jb k s.1 s.2) N (e, most) = some d := by
 intro N
 induction N with
 | zero => intro e _ h; have := kC e; omega
 | succ N ih =>
  intro e most h hb
  rw [ao]
  show ∃ d, al (dT _ e most) aq (1, 0) = some d
  have hl := sJ e
  exact AE _ e most (fun x hx m => ih x m (by have := iB hx; omega) (by have := iB hx; omega)) (by omega) e.l [] rfl aq 1 (by show e.l.length < 2 ^ 64; omega)
theorem A0 (k : Ex × Int → Option Int) (e : Ex) (most : Int) (hk : ∀ x ∈ e.l, ∀ m, ∃ d, k (x, m) = some d) (hl : e.l.length < 4611686018427387904) :
  ∀ (r pre : List Ex), e.l = pre ++ r → ∀ (M : Nat) (d : Int), r.length < M → ∃ v, al (dN k e most) M (d, (pre.length : Int)) = some v
 | [], pre, h, M, d, hM => by
  obtain ⟨m, rfl⟩ : ∃ m, M = m + 1 := ⟨M - 1, by simp at hM; omega⟩
  rw [ao]
  simp only [dN, DJ h, aM, Bool.false_and, cond_false]
  exact ⟨_, rfl⟩
 | x :: r, pre, h, M, d, hM => by
  obtain ⟨m, rfl⟩ : ∃ m, M = m + 1 := ⟨M - 1, by omega⟩
  rw [ao]
  obtain ⟨dx, hx⟩ := hk x (by rw [h]; simp) most
  have hlen : pre.length < 4611686018427387904 := by rw [h] at hl; simp at hl; omega
  have ih := fun d => A0 k e most hk hl r (pre ++ [x]) (by rw [h]; simp) m d (by simp at hM; omega)
  rw [show ((pre ++ [x]).length : Int) = ((pre.length + 1 : Nat) : Int) by simp] at ih
  simp only [dN, Cn h, aM, Bool.true_and]
  cases decide (d < most)
  ·simp only [cond_false]; exact ⟨_, rfl⟩
  ·simp only [cond_true, sB h, ai, hx, sg hlen]; exact ih _
theorem IM : ∀ (N : Nat) (e : Ex) (most : Int), e.sz ≤ N → e.sz < 4611686018427387904 → ∃ d, al (fun k (s : Ex × Int) => je k s.1 s.2) N (e, most) = some d := by
 intro N
 induction N with
 | zero => intro e _ h; have := kC e; omega
 | succ N ih =>
  intro e most h hb
  rw [ao]
  show ∃ d, al (dN _ e most) aq (1, 0) = some d
  have hl := sJ e
  exact A0 _ e most (fun x hx m => ih x m (by have := iB hx; omega) (by have := iB hx; omega)) (by omega) e.l [] rfl aq 1 (by show e.l.length < 2 ^ 64; omega)
theorem LO (e : Ex) (h : e.sz < 4611686018427387904) : ∃ b, fE e = some b := by
 obtain ⟨d, hd⟩ := IJ aq e 45 (by show e.sz ≤ 2 ^ 64; omega) h
 obtain ⟨m, hm⟩ := IM aq e 300 (by show e.sz ≤ 2 ^ 64; omega) h
 refine ⟨decide (d < 45) && decide (m < 300), ?_⟩
 unfold fE hU gX
 rw [hd, hm]
 rfl
end Go.Proofs.YtpnogcmollnjeaaGreatDoor
namespace Go.Proofs.YtpnogcmollnjeaaGreatDoor
namespace Ls
open Sp
/-! which trees are formulas, as the document says it -/
theorem NN {e : Ex} (h : e.sz < 1152921504606846976) (vars : Int) : ∃ b, dR e vars = some b ∧ (b = true → Fm vars e) := by
 unfold dR
 obtain ⟨f, hf⟩ := LO e (by omega)
 rw [hf, ai, Oh e (by omega), ai]
 simp only [aM]
 cases f
 ·exact ⟨_, rfl, fun h => by cases h⟩
 ·cases hm : dM vars e
  ·exact ⟨_, rfl, fun h => by cases h⟩
  ·simp only [Bool.not_true, Bool.or_self, cond_false]
   rw [Dp e h, ai]
   refine ⟨_, rfl, fun hb => ?_⟩
   simp only [Bool.and_eq_true, beq_iff_eq, bne_iff_ne, ne_eq] at hb
   rw [← G7 e.sz e (Nat.le_refl _)] at hb
   exact ⟨hm, hb.1, hb.2, by omega⟩
/-! a formula's negation -/
noncomputable def neg (e : Ex) : Ex := .mk 15 0 0 [e]
theorem AM {m : Sy.Mdl} {e : Ex} {l : Las} (hw : mJ m l = false) : yv m e l = false := by unfold yv; rw [hw]; rfl
theorem GL : gu = some true := by kernel_rfl
theorem Small.rows {l : Las} {n : Nat} (h : Small l n) : ∀ v ∈ l.1 ++ l.2, v.length < 1000000000 := fun v hv => by
 rcases List.mem_append.1 hv with hv | hv
 ·have := h.rows1 v hv; omega
 ·have := h.rows2 v hv; omega
end Ls
end Go.Proofs.YtpnogcmollnjeaaGreatDoor
namespace Go.Proofs.YtpnogcmollnjeaaGreatDoor
namespace Ls
open Sp
theorem Jp {a : Int} (h0 : 0 ≤ a) (h1 : a ≤ 255) {n : Nat} (hn : 0 < n) : ∃ k : Nat, Int.tmod (IntKind.i64.wrap a) (n : Int) = (k : Int) ∧ k < n := by
 obtain ⟨b, rfl⟩ : ∃ b : Nat, a = b := ⟨a.toNat, by omega⟩
 refine ⟨b % n, ?_, Nat.mod_lt _ hn⟩
 rw [w64 (by omega), Int.tmod_eq_emod_of_nonneg h0]
 exact (Int.natCast_emod b n).symm
theorem NO {α : Type} (l : List α) (p : Nat) : bw l 0 (p : Int) = l.take p := by
 unfold bw
 simp
theorem Mp {α : Type} (l : List α) (p : Nat) : bw l (p : Int) (l.length : Int) = l.drop p := by
 unfold bw
 rw [show ((p : Int)).toNat = p from rfl, show ((l.length : Int)).toNat = l.length from rfl, List.take_of_length_le (by simp)]
theorem M4 {p n : Nat} (h : p ≤ n) : dL 0 (p : Int) n = true := by
 unfold dL; simp; omega
theorem MW {p n : Nat} (h : p ≤ n) : dL (p : Int) (n : Int) n = true := by
 unfold dL; simp; omega
theorem DN {m : Sy.Mdl} : ∀ {r : List (List Int)} {x : List Int}, chain m x r = true → ∀ (j : Nat) (a b : List Int), (x :: r)[j]? = some a → (x :: r)[j + 1]? = some b → vM m a b = true
 | [], x, _, j, a, b, _, h2 => by simp at h2
 | y :: r, x, h, 0, a, b, h1, h2 => by
  simp only [chain, Bool.and_eq_true] at h
  simp only [List.getElem?_cons_zero, Option.some.injEq, List.getElem?_cons_succ] at h1 h2
  subst h1; subst h2
  exact h.1
 | y :: r, x, h, j + 1, a, b, h1, h2 => by
  simp only [chain, Bool.and_eq_true] at h
  exact DN h.2 j a b (by simpa using h1) (by simpa using h2)
theorem F9 {m : Sy.Mdl} {l : Las} (h : mJ m l = true) : (∀ v ∈ l.1 ++ l.2, InS m.2.1 v) ∧ (l.1 ++ l.2)[0]? = some m.2.2.1 ∧ ∀ (j : Nat) (a b : List Int), (l.1 ++ l.2)[j]? = some a → (l.1 ++ l.2)[j + 1]? = some b → vM m a b = true := by
 obtain ⟨st, cy⟩ := l
 cases cy with
 | nil => cases h
 | cons c r =>
  rw [show mJ m (st, c :: r) = ((st ++ (c :: r)).all (inB m.2.1) && y6 m (st ++ (c :: r) ++ [c])) from rfl, Bool.and_eq_true] at h
  obtain ⟨h1, h2⟩ := h
  refine ⟨fun v hv => gJ.1 (List.all_eq_true.1 h1 v hv), ?_⟩
  simp only
  obtain ⟨x, q, hxq⟩ : ∃ x q, st ++ (c :: r) = x :: q := by
   cases st with
   | nil => exact ⟨_, _, rfl⟩
   | cons a b => exact ⟨_, _, rfl⟩
  rw [hxq] at h2 ⊢
  rw [List.cons_append, y6, Bool.and_eq_true] at h2
  obtain ⟨h3, h4⟩ := h2
  refine ⟨by simpa using h3, fun j a b ha hb => DN h4 j a b ?_ ?_⟩
  ·rw [← List.cons_append, List.getElem?_append_left (List.getElem?_eq_some_iff.1 ha).1]; exact ha
  ·rw [← List.cons_append, List.getElem?_append_left (List.getElem?_eq_some_iff.1 hb).1]; exact hb
theorem wayB_mk {m : Sy.Mdl} {l : List (List Int)} {p : Nat} {c : List Int} (hi : ∀ v ∈ l, InS m.2.1 v) {x : List Int} {r : List (List Int)} (hl : l = x :: r) (hx : x = m.2.2.1) (hc : chain m x (r ++ [c]) = true) (hp : l[p]? = some c) : mJ m (l.take p, l.drop p) = true := by
 obtain ⟨hpl, hpc⟩ := List.getElem?_eq_some_iff.1 hp
 have hd : l.drop p = c :: l.drop (p + 1) := by rw [List.drop_eq_getElem_cons hpl, hpc]
 unfold mJ
 simp only
 rw [hd]
 have e : l.take p ++ (c :: l.drop (p + 1)) = l := by rw [← hd, List.take_append_drop]
 simp only
 rw [e, Bool.and_eq_true]
 refine ⟨List.all_eq_true.2 (fun v hv => gJ.2 (hi v hv)), ?_⟩
 rw [hl, List.cons_append, y6, Bool.and_eq_true]
 exact ⟨by simpa using hx, hc⟩
abbrev WIn := Str × List Int × List Int × Int
end Ls
end Go.Proofs.YtpnogcmollnjeaaGreatDoor
namespace Go.Proofs.YtpnogcmollnjeaaGreatDoor
namespace Ls
open Sp
abbrev LIn := Str × Ex × Las × Int × Int
theorem Pf {m : Sy.Mdl} {A : List (List Int)} {n k : Nat} {v : List Int} (hk : k < A.length) (h : ¬ InS m.2.1 v ∨ (k = 0 ∧ v ≠ m.2.2.1)) : mJ m ((A.set k v).take n, (A.set k v).drop n) = false := by
 cases hw : mJ m ((A.set k v).take n, (A.set k v).drop n)
 ·rfl
 ·obtain ⟨h1, h2, _⟩ := F9 hw
  simp only [List.take_append_drop] at h1 h2
  rcases h with h | ⟨rfl, h⟩
  ·exact absurd (h1 v (List.mem_of_getElem? (List.getElem?_set_self hk))) h
  ·rw [List.getElem?_set_self hk] at h2
   exact absurd (Option.some.inj h2) h
theorem E7 {m : Sy.Mdl} {s : List (List Int)} : mJ m (s, []) = false := rfl
theorem y8 {w : LIn} {q : Sy.Mdl × Bool} (hm : SafeS q.1.2.1 q.1.2.2.2.2) (hs : Small w.2.2.1 20) (hf : Fm (q.1.1.length : Int) w.2.1) {k : Nat} (hk : k < (w.2.2.1.1 ++ w.2.2.1.2).length) {v : List Int} (hv : v.length ≤ 1000)
  (h : (v.length = q.1.2.2.1.length ∧ Int.tmod w.2.2.2.2 4 < 2) ∨ ¬ InS q.1.2.1 v ∨ (k = 0 ∧ v ≠ q.1.2.2.1)) : dG w true q (k : Int) v = some true := by
 unfold dG
 simp only [aM, List.nil_append]
 rw [show ((4 : Int) != 0) = true from rfl, Lx.iV]
 cases hb : ((v.length : Int) == (q.1.2.2.1.length : Int)) && decide (Int.tmod w.2.2.2.2 4 < 2)
 ·have h' : ¬ InS q.1.2.1 v ∨ (k = 0 ∧ v ≠ q.1.2.2.1) := by
   rcases h with h | h
   ·rw [h.1, decide_eq_true h.2] at hb
    simp at hb
   ·exact h
  generalize hA : w.2.2.1.1 ++ w.2.2.1.2 = A at hk ⊢
  have hix : idx A (k : Int) = some A[k] := by
   unfold idx
   rw [if_pos (by omega), show ((k : Int)).toNat = k from rfl, List.getElem?_eq_getElem hk]
  have hn : w.2.2.1.1.length ≤ A.length := by rw [← hA]; simp
  have hA40 : A.length ≤ 40 := by rw [← hA]; have := hs.stem; have := hs.cyc; simp; omega
  rw [cond_false, hix, ai]
  simp only [Int.toNat_natCast, List.length_set]
  rw [Sy.cQ (M4 hn), Sy.cQ (MW hn), NO]
  have e2 : bw (A.set k v) (w.2.2.1.1.length : Int) (A.length : Int) = (A.set k v).drop w.2.2.1.1.length := by
   have := Mp (A.set k v) w.2.2.1.1.length
   rwa [List.length_set] at this
  rw [e2]
  have hrow : ∀ u ∈ (A.set k v).take w.2.2.1.1.length ++ (A.set k v).drop w.2.2.1.1.length, u.length < 1000000000 := fun u hu => by
   rw [List.take_append_drop] at hu
   rcases List.mem_or_eq_of_mem_set hu with hu | rfl
   ·rw [← hA] at hu; exact hs.rows u hu
   ·omega
  have hlen : ((A.set k v).take w.2.2.1.1.length).length + ((A.set k v).drop w.2.2.1.1.length).length ≤ 1000 := by simp; omega
  have hw := Pf (m := q.1) (n := w.2.2.1.1.length) hk h'
  have v1 := BO hm (l := ((A.set k v).take w.2.2.1.1.length, (A.set k v).drop w.2.2.1.1.length)) hlen (by omega) hrow
  have v2 := BS hm (l := ((A.set k v).take w.2.2.1.1.length, (A.set k v).drop w.2.2.1.1.length)) hlen (by omega) hrow hf
  have hrow3 : ∀ u ∈ w.2.2.1.1 ++ ([] : List (List Int)), u.length < 1000000000 := fun u hu => by
   rw [List.append_nil] at hu
   have := hs.rows1 u hu; omega
  have hst := hs.stem
  have v3 := BO hm (l := (w.2.2.1.1, [])) (n := 1000) (by simp; omega) (by omega) hrow3
  have v4 := BS hm (l := (w.2.2.1.1, [])) (n := 1000) (by simp; omega) (by omega) hrow3 hf
  rw [hw] at v1
  rw [AM hw] at v2
  rw [E7] at v3
  rw [AM E7] at v4
  simp only [cN, v1, v2, v3, v4, ai, Bool.not_false, Bool.and_self]
 ·rfl
theorem Ow {a : Int} (h0 : 0 ≤ a) : 0 ≤ Int.tmod a 4 ∧ Int.tmod a 4 ≤ 3 := by
 rw [Int.tmod_eq_emod_of_nonneg h0]; omega
theorem HR (w : LIn) (hsz : w.2.1.sz ≤ 1048576) (hat : 0 ≤ w.2.2.2.1 ∧ w.2.2.2.1 ≤ 255) (hki : 0 ≤ w.2.2.2.2 ∧ w.2.2.2.2 ≤ 255) : eM w = some true := by
 unfold eM
 obtain ⟨q, hq, hw⟩ := Jj w.1
 rw [GL, ai, hq, ai]
 simp only [aM]
 cases h2 : q.2
 ·rfl
 simp only [Bool.not_true, Bool.not_false, cN, Bool.false_or]
 rw [Pg w.2.2.1 20 (by omega), ai]
 cases hf : DB w.2.2.1 20
 ·rfl
 simp only [Bool.not_true, Bool.false_or]
 by_cases hc : (w.2.2.1.2.length : Int) < 1
 ·rw [decide_eq_true hc]; rfl
 rw [decide_eq_false hc]
 simp only [Bool.not_false, cN, Bool.false_or]
 obtain ⟨b, hb, hb2⟩ := NN (e := w.2.1) (by omega) (q.1.1.length : Int)
 rw [hb, ai]
 cases b
 ·rfl
 have hfm := hb2 rfl
 have hwf := hw h2
 have hm := (MM hwf).toSafeS
 have hin := MS hwf
 have hl := Nl (n := 20) hf
 have hs1 := hl.stem
 have hs2 := hl.cyc
 simp only [Bool.not_true, cond_false, List.nil_append]
 have hA : (w.2.2.1.1 ++ w.2.2.1.2).length ≤ 40 := by simp; omega
 have hA0 : 0 < (w.2.2.1.1 ++ w.2.2.1.2).length := by simp; omega
 rw [Sy.cQ (Sy.cJ (by simp; omega) (by simp; omega)), Sy.cQ (Sy.cJ (by omega) (by omega)), Sy.cQ (by rw [bne_iff_ne]; omega)]
 obtain ⟨k, hk, hkl⟩ := Jp hat.1 hat.2 hA0
 rw [hk]
 have hix : idx (w.2.2.1.1 ++ w.2.2.1.2) (k : Int) = some (w.2.2.1.1 ++ w.2.2.1.2)[k] := by
  unfold idx
  rw [if_pos (by omega), show ((k : Int)).toNat = k from rfl, List.getElem?_eq_getElem hkl]
 rw [hix, ai]
 have hv40 : (w.2.2.1.1 ++ w.2.2.1.2)[k].length ≤ 40 := by
  rcases List.mem_append.1 (List.getElem_mem hkl) with h | h
  ·exact hl.rows1 _ h
  ·exact hl.rows2 _ h
 generalize (w.2.2.1.1 ++ w.2.2.1.2)[k] = v at hv40
 rw [Sy.cQ (Sy.cJ (by simp; omega) (by simp; omega))]
 obtain ⟨hk0, hk3⟩ := Ow hki.1
 have hil := hin.len
 have hip := hm.pos
 have hif := hm.few
 -- a vector of another length is none of the ranges
 have other : ∀ {u : List Int} {k : Nat}, k < (w.2.2.1.1 ++ w.2.2.1.2).length → u.length ≤ 1000 → Int.tmod w.2.2.2.2 4 < 2 → dG w true q (k : Int) u = some true := fun {u k} hk hu ht => by
  refine y8 hm hl hfm hk hu ?_
  by_cases e : u.length = q.1.2.2.1.length
  ·exact .inl ⟨e, ht⟩
  ·exact .inr (.inl (fun h => e (by rw [h.len, hil])))
 -- the first value of the ranges and of the system
 obtain ⟨f, S', hS⟩ : ∃ f S', q.1.2.1 = f :: S' := by
  cases hS : q.1.2.1 with
  | nil => rw [hS] at hip; simp at hip
  | cons f S' => exact ⟨f, S', rfl⟩
 obtain ⟨i0, I', hI⟩ : ∃ i I', q.1.2.2.1 = i :: I' := by
  cases hI : q.1.2.2.1 with
  | nil => rw [hI, hS] at hil; simp at hil
  | cons i I' => exact ⟨i, I', rfl⟩
 have hff := hm.field f (by rw [hS]; simp)
 have hlo := hff.lo
 have hhi := hff.hi
 have hfi := hin.fit
 rw [hS, hI] at hfi
 simp only [fits, Bool.and_eq_true, decide_eq_true_eq] at hfi
 by_cases c0 : Int.tmod w.2.2.2.2 4 = 0
 ·rw [c0, show ((0 : Int) == 0) = true from rfl, cond_true, Sy.cQ (Sy.cJ (by simp; omega) (by simp; omega))]
  exact other hkl (by simp; omega) (by omega)
 rw [show (Int.tmod w.2.2.2.2 4 == 0) = false by simpa using c0, cond_false]
 by_cases c1 : Int.tmod w.2.2.2.2 4 = 1
 ·rw [c1, show ((1 : Int) == 1) = true from rfl, cond_true]
  by_cases e : v.length = 0
  ·rw [show ((v.length : Int) == 0) = true by rw [e]; rfl, cond_true]
  ·rw [show ((v.length : Int) == 0) = false by simpa using e, cond_false, Sy.cQ (show dL 1 (v.length : Int) v.length = true by unfold dL; simp; omega)]
   exact other hkl (by unfold bw; simp; omega) (by omega)
 rw [show (Int.tmod w.2.2.2.2 4 == 1) = false by simpa using c1, cond_false]
 have hset : ∀ x : Int, (q.1.2.2.1.set 0 x).length ≤ 1000 := fun x => by simp; omega
 by_cases c2 : Int.tmod w.2.2.2.2 4 = 2
 ·rw [c2, show ((2 : Int) == 2) = true from rfl, cond_true, Sy.cQ (Sy.cJ (by simp; omega) (by simp; omega)), hS, show idx (f :: S') 0 = some f from rfl, ai]
  have hi0 : idx q.1.2.2.1 0 = some i0 := by rw [hI]; rfl
  rw [hi0, ai]
  rw [show (Int.toNat 0) = 0 from rfl, w64 (by omega)]
  refine y8 hm hl hfm hkl (hset _) (.inr (.inl fun h => ?_))
  have := h.fit
  rw [hS, hI, List.set_cons_zero] at this
  simp only [fits, Bool.and_eq_true, decide_eq_true_eq] at this
  omega
 rw [show (Int.tmod w.2.2.2.2 4 == 2) = false by simpa using c2, cond_false]
 have c3 : Int.tmod w.2.2.2.2 4 = 3 := by omega
 rw [c3, show ((3 : Int) == 3) = true from rfl, cond_true, Sy.cQ (Sy.cJ (by simp; omega) (by simp; omega))]
 have hi0 : idx q.1.2.2.1 0 = some i0 := by rw [hI]; rfl
 rw [hi0, ai, ai, show (Int.toNat 0) = 0 from rfl, w64 (by omega)]
 have := y8 (w := w) (q := q) hm hl hfm (k := 0) hA0 (hset (i0 + 1)) (.inr (.inr ⟨rfl, fun e => by
  rw [hI, List.set_cons_zero] at e
  have := (List.cons.inj e).1
  omega⟩))
 exact this
end Ls
end Go.Proofs.YtpnogcmollnjeaaGreatDoor
namespace Go.Proofs.YtpnogcmollnjeaaGreatDoor
open Go.Lib Go.ChangeAt Go.ChangeShapes Go.WideShapes Go.RowKit
theorem y9 {P : Program} {w : World} : ∀ (l : List (String × DataW Unit)) (ps : List MemPlace), DataW.LaidVars P w l ps → ∀ (i : Nat) (n : String) (d : DataW Unit), l[i]? = some (n, d) →
  ∃ g t cs fuel p, P.globalNamed n = some g ∧ (P.globals[g]?).map (·.type) = some t ∧ w.var? P n = some cs ∧ DataW.trod (fun _ => ()) P w 0 (fun _ => true) false fuel t cs.toList = some (d, p)
 | [], _, _, i, n, d, h => by simp at h
 | (n0, d0) :: l, ps, h, i, n, d, hi => by
  obtain ⟨g, t, cs, fuel, p, q, h1, h2, h3, h4, h5, _⟩ := h
  cases i with
  | zero =>
   simp only [List.getElem?_cons_zero, Option.some.injEq, Prod.mk.injEq] at hi
   obtain ⟨rfl, rfl⟩ := hi
   exact ⟨g, t, cs, fuel, p, h1, h2, h3, h4⟩
  | succ i => exact y9 l q h5 i n d (by simpa using hi)
theorem Bh {H : Type} {enc : TypeId × Value → H} {P : Program} {w : World} {base : Nat} {sp : Nat → Bool} {held : Bool} {fuel : Nat} {t e : TypeId} {n : Nat} {cs : List Value} {zs : List Str} {p : List MemPlace}
  (ht : P.underlying t = some (.array n e)) (he : P.underlying e = some .string) (hce : P.cellsOf e = 1) (hct : P.cellsOf t = n)
  (h : DataW.trod enc P w base sp held fuel t cs = some (.agg (zs.map fun z => .lit (.string z)), p)) : cs = zs.map S := by
 cases fuel with
 | zero => simp [DataW.trod] at h
 | succ fuel =>
  simp only [DataW.trod, ht, hce, hct, Nat.mul_one] at h
  split at h
  ·rename_i hl
   obtain ⟨xs, hm, hx⟩ := Option.map_eq_some_iff.1 h
   have hxs : xs.map (·.1) = zs.map fun z => (DataW.lit (.string z) : DataW H) := by
    have := congrArg Prod.fst hx
    simpa using this
   have hxl : xs.length = n := by simpa using mapM_length hm
   have hzl : zs.length = n := by
    have := congrArg List.length hxs
    simp at this
    omega
   apply List.ext_getElem?
   intro i
   by_cases hi : i < n
   ·obtain ⟨b, hb, hf⟩ := mapM_at hm i i (by simp [hi])
    obtain ⟨z, hc, rfl, _⟩ := DataW.trod_string he hf
    have h1 : cs[i]? = some (.string z) := by
     have := congrArg (·[0]?) hc
     simpa [List.getElem?_take, List.getElem?_drop] using this
    have h2 : (xs.map (·.1))[i]? = some (DataW.lit (.string z.data.toList) : DataW H) := by simp [hb]
    rw [hxs] at h2
    simp only [List.getElem?_map, Option.map_eq_some_iff, DataW.lit.injEq, Lit.string.injEq] at h2
    obtain ⟨z', hz', hz2⟩ := h2
    subst hz2
    simp [h1, hz', S]
   ·rw [List.getElem?_eq_none (by omega), List.getElem?_eq_none (by simp; omega)]
  ·cases h
theorem G2 {P : Program} {laid : List (String × DataW Unit)} {w : World} (hf : (laid.filter fun x => x.2.handleName?.isSome) = []) (h : laidMetH P laid w) : laidMet P laid w := by
 unfold laidMetH at h
 rw [hf] at h
 exact h
theorem gl_strs {P : Program} {laid : List (String × DataW Unit)} {w : World} {Γ : Ctx} (h : laidMet P laid w) (i : Nat) {n : String} {zs : List Str} {g : Nat} {t e : TypeId} {k : Nat}
  (hi : laid[i]? = some (n, .agg (zs.map fun z => .lit (.string z)))) (hg : P.globalNamed n = some g) (hty : (P.globals[g]?).map (·.type) = some t)
  (ht : P.underlying t = some (.array k e)) (he : P.underlying e = some .string) (hce : P.cellsOf e = 1) (hct : P.cellsOf t = k) (hM : ¬ Γ.M g) : (gl g (zs.map S)).P Γ.M w := by
 obtain ⟨ps, hl, _⟩ := h
 obtain ⟨g', t', cs, fuel, p, hg', ht', hv, hd⟩ := y9 _ _ hl i n _ hi
 obtain rfl := Option.some.inj (hg.symm.trans hg')
 obtain rfl := Option.some.inj (hty.symm.trans ht')
 have e1 := Bh ht he hce hct hd
 refine ⟨hM, ?_⟩
 unfold World.var? at hv
 rw [hg] at hv
 simp only [Option.bind_some] at hv
 split at hv
 ·rename_i c ty fr hb
  obtain rfl := Option.some.inj hv
  exact ⟨ty, fr, by rw [hb, ← e1]⟩
 ·cases hv
theorem M1 {P : Program} {laid : List (String × DataW Unit)} {w : World} {Γ : Ctx} (h : laidMet P laid w) (i : Nat) {n : String} {kd : IntKind} {zs : List Int} {g : Nat} {t e : TypeId} {k : Nat}
  (hi : laid[i]? = some (n, tabData kd zs)) (hg : P.globalNamed n = some g) (hty : (P.globals[g]?).map (·.type) = some t)
  (ht : P.underlying t = some (.array k e)) (he : P.underlying e = some (.int kd)) (hce : P.cellsOf e = 1) (hct : P.cellsOf t = k) (hM : ¬ Γ.M g) : (gl g (zs.map (Value.int kd))).P Γ.M w := by
 obtain ⟨ps, hl, _⟩ := h
 obtain ⟨g', t', cs, fuel, p, hg', ht', hv, hd⟩ := y9 _ _ hl i n _ hi
 obtain rfl := Option.some.inj (hg.symm.trans hg')
 obtain rfl := Option.some.inj (hty.symm.trans ht')
 have e1 := cells_of_tab ht he hce hct hd
 refine ⟨hM, ?_⟩
 unfold World.var? at hv
 rw [hg] at hv
 simp only [Option.bind_some] at hv
 split at hv
 ·rename_i c ty fr hb
  obtain rfl := Option.some.inj hv
  exact ⟨ty, fr, by rw [hb, ← e1]⟩
 ·cases hv
/-! the row at the start: nothing is owned -/
def NoM (Γ : Ctx) : Prop := ∀ b, ¬ Γ.M b
theorem Fg : NoM [] := fun b h => by obtain ⟨it, h, _⟩ := h; cases h
theorem De {it : Item} {Γ : Ctx} (hp : it.own = []) (h : NoM Γ) : NoM (it :: Γ) := fun b hb => by
 rcases Ctx.pB.1 hb with h1 | h1
 ·rw [hp] at h1; cases h1
 ·exact h b h1
theorem Is (w : World) : Sat [kept w (fun _ => False)] w := Sat.nil.add rfl ⟨dk.refl w, Nat.le_refl _, fun b _ _ => ⟨Fg b, rfl⟩⟩
theorem H2 (w : World) : NoM [kept w (fun _ => False)] := De rfl Fg
theorem Jk {w : World} {Γ : Ctx} (h : NoM Γ) : Mv (fun _ => False) w Γ.M w := ⟨Nat.le_refl _, fun b _ _ => ⟨h b, rfl⟩⟩
theorem Hz {w w' : World} {Γ : Ctx} {i : Nat} (h : Sat Γ w') (hi : Γ[i]? = some (kept w (fun _ => False))) : Below w.heap.size w w' := by
 obtain ⟨h1, h2, h3⟩ := h.kept hi
 exact ⟨h1.os, h1.tape, h1.output, h2, fun k hk => (h3 k hk (fun h => h)).2⟩
end Go.Proofs.YtpnogcmollnjeaaGreatDoor
namespace Go.Proofs.YtpnogcmollnjeaaGreatDoor
open Go.Lib Go.ChangeAt Go.ChangeShapes Go.WideShapes Go.RowKit
theorem ye {Y : Type} (R : Nat → Y → Ex → Prop) : ∀ (ys : List Y), (∀ i y, ys[i]? = some y → ∃ e, R i y e) → ∃ l : List Ex, l.length = ys.length ∧ ∀ i y e, ys[i]? = some y → l[i]? = some e → R i y e
 | [], _ => ⟨[], rfl, fun i y e h => by simp at h⟩
 | y :: ys, h => by
  obtain ⟨e, he⟩ := h 0 y rfl
  obtain ⟨l, hl, hr⟩ := ye (fun i => R (i + 1)) ys (fun i y hy => h (i + 1) y (by simpa using hy))
  refine ⟨e :: l, by simp [hl], fun i y' e' hy hx => ?_⟩
  cases i with
  | zero =>
   simp only [List.getElem?_cons_zero, Option.some.injEq] at hy hx
   subst hy; subst hx; exact he
  | succ i => exact hr i y' e' (by simpa using hy) (by simpa using hx)
theorem IC {H : Type} : ∀ (l : List Ex) (ds : List (DataW H)), l.length = ds.length → (∀ (i : Nat) (e : Ex) (d : DataW H), l[i]? = some e → ds[i]? = some d → e.sz ≤ Rows.uptoBulk d) → szL l ≤ Rows.uptoBulkAll ds
 | [], [], _, _ => Nat.le_refl _
 | e :: l, d :: ds, hl, h => by
  have h1 := h 0 e d rfl rfl
  have h2 := IC l ds (by simpa using hl) (fun i e d he hd => h (i + 1) e d (by simpa using he) (by simpa using hd))
  simp only [szL, Rows.uptoBulkAll]
  omega
 | [], _ :: _, h, _ => by simp at h
 | _ :: _, [], h, _ => by simp at h
theorem wS {H : Type} (d : DataW H) : 1 ≤ Rows.uptoBulk d := by
 cases d with
 | lit l => cases l <;> simp [Rows.uptoBulk]
 | nil => simp [Rows.uptoBulk]
 | ptr d => simp [Rows.uptoBulk]
 | slice elems spare => simp [Rows.uptoBulk]
 | agg parts => simp [Rows.uptoBulk]
 | iface t d => simp [Rows.uptoBulk]
 | map entries => simp [Rows.uptoBulk]
 | held h => simp [Rows.uptoBulk]
theorem nO {H : Type} {d : DataW H} : ∀ {l : List (DataW H)}, d ∈ l → Rows.uptoBulk d ≤ Rows.uptoBulkAll l
 | x :: r, h => by
  simp only [Rows.uptoBulkAll]
  rcases List.mem_cons.1 h with rfl | h
  ·omega
  ·have := nO h; omega
structure H7 (P : Program) (t : TypeId) : Prop where
 fields : ∃ (fs : Array Field) (f0 f1 f2 f3 : Field), P.underlying t = some (.struct fs) ∧ fs.size = 4 ∧ fs[0]? = some f0 ∧ fs[1]? = some f1 ∧ fs[2]? = some f2 ∧ fs[3]? = some f3 ∧
  (f0.offset = 0 ∧ P.underlying f0.type = some (.int .i64) ∧ P.cellsOf f0.type = 1) ∧ (f1.offset = 1 ∧ P.underlying f1.type = some (.int .i64) ∧ P.cellsOf f1.type = 1) ∧
  (f2.offset = 2 ∧ P.underlying f2.type = some (.int .i64) ∧ P.cellsOf f2.type = 1) ∧ (f3.offset = 3 ∧ P.underlying f3.type = some (.slice t) ∧ P.cellsOf f3.type = 1)
 cells : P.cellsOf t = 4
theorem O9 {P : Program} {w : World} {base : Nat} {t : TypeId} {v : Value} {fs : Array Field} (ht : P.underlying t = some (.struct fs)) (h : Value.okWide P w .any base t v) :
  ∃ cs, v = .agg cs ∧ cs.size = P.cellsOf t ∧ Row.okWide P w .any base t cs := by
 unfold Value.okWide at h
 rw [ht] at h
 exact h
theorem Gk {w : World} {a : Addr} {v : Value} (h : w.cell? a = some v) : a.spot = none ∧ ∃ cs e fr, w.heap[a.block]? = some (.cells cs e fr) ∧ cs[a.off]? = some v := by
 unfold World.cell? at h
 split at h
 ·rename_i cs e fr hb
  split at h
  ·cases h
  ·rename_i hs
   exact ⟨by simpa using hs, cs, e, fr, hb, h⟩
 ·cases h
theorem Gn {H : Type} {enc : TypeId × Value → H} {P : Program} {W : World} {t : TypeId} (L : H7 P t) : ∀ (fuel : Nat) (cs : List Value) (x : DataW H × List MemPlace),
  DataW.trod enc P W 0 (fun _ => true) true fuel t cs = some x → ∃ e, mI (fun _ => False) W cs e ∧ e.sz ≤ Rows.uptoBulk x.1 := by
 intro fuel
 induction fuel using Nat.strongRecOn with
 | ind fuel ih =>
 intro cs x h
 obtain ⟨⟨fs, f0, f1, f2, f3, hT, hsz, g0, g1, g2, g3, ⟨o0, u0, c0⟩, ⟨o1, u1, c1⟩, ⟨o2, u2, c2⟩, ⟨o3, u3, c3⟩⟩, hc⟩ := L
 obtain ⟨xs, n, rfl, rfl, hl, hxs, hf⟩ := DataW.trod_struct hT h
 rw [hc] at hl
 rw [hsz] at hxs
 obtain ⟨a0, a1, a2, a3, rfl⟩ : ∃ a0 a1 a2 a3, cs = [a0, a1, a2, a3] := by
  match cs, hl with
  | [a, b, c, d], _ => exact ⟨a, b, c, d, rfl⟩
 obtain ⟨x0, x1, x2, x3, rfl⟩ : ∃ a0 a1 a2 a3, xs = [a0, a1, a2, a3] := by
  match xs, hxs with
  | [a, b, c, d], _ => exact ⟨a, b, c, d, rfl⟩
 have t0 := hf 0 f0 g0
 have t1 := hf 1 f1 g1
 have t2 := hf 2 f2 g2
 have t3 := hf 3 f3 g3
 rw [o0, c0] at t0; rw [o1, c1] at t1; rw [o2, c2] at t2; rw [o3, c3] at t3
 simp only [List.drop_zero, List.take_succ_cons, List.take_zero, List.drop_succ_cons, List.getElem?_cons_zero, List.getElem?_cons_succ] at t0 t1 t2 t3
 obtain ⟨z0, e0, _, _⟩ := DataW.trod_int u0 t0
 obtain ⟨z1, e1, _, _⟩ := DataW.trod_int u1 t1
 obtain ⟨z2, e2, _, _⟩ := DataW.trod_int u2 t2
 obtain rfl : a0 = .int .i64 z0 := by simpa using e0
 obtain rfl : a1 = .int .i64 z1 := by simpa using e1
 obtain rfl : a2 = .int .i64 z2 := by simpa using e2
 have hb : ∀ d, x3.1 = d → Rows.uptoBulk d + 1 ≤ Rows.uptoBulk (DataW.agg ([x0, x1, x2, x3].map (·.1))) := fun d hd => by
  subst hd
  have := nO (d := x3.1) (l := [x0, x1, x2, x3].map (·.1)) (by simp)
  simp only [Rows.uptoBulk]
  omega
 rcases DataW.trod_slice u3 t3 with ⟨h3, hx3⟩ | ⟨a, len, cap, elems, rest, m, rfl, h3, hx3, _, hlc, _, hlen, hel, hsp, _⟩
 ·obtain rfl : a3 = .slice none 0 0 := by simpa using h3
  refine ⟨.mk z0 z1 z2 [], .nil z0 z1 z2 none, ?_⟩
  have := hb _ rfl
  have := wS x3.1
  simp only [Ex.sz, szL]
  omega
 ·obtain rfl : a3 = .slice (some a) len cap := by simpa using h3
  obtain ⟨hrl, hre⟩ := hsp rfl
  rw [hc] at hel hre
  -- all of it is there
  have cell : ∀ i, i < cap → ∃ us y, W.cells? 0 (a.add (i * 4)) 4 = some us ∧ us.length = 4 ∧ (∀ j, j < 4 → W.cell? ((a.add (i * 4)).add j) = us[j]?) ∧ DataW.trod enc P W 0 (fun _ => true) true m t us = some y ∧ (i < len → elems[i]? = some y) := fun i hi => by
   by_cases hil : i < len
   ·obtain ⟨y, hy⟩ : ∃ y, elems[i]? = some y := ⟨elems[i]'(by omega), List.getElem?_eq_getElem _⟩
    have := hel i hil
    rw [hy, Option.bind_eq_some_iff] at this
    obtain ⟨us, h1, h2⟩ := this
    obtain ⟨_, h3, h4⟩ := World.cells?_some h1
    exact ⟨us, y, h1, h3, h4, h2, fun _ => hy⟩
   ·obtain ⟨y, hy⟩ : ∃ y, rest[i - len]? = some y := ⟨rest[i - len]'(by omega), List.getElem?_eq_getElem _⟩
    have := hre (i - len) (by omega)
    rw [hy, Option.bind_eq_some_iff] at this
    obtain ⟨us, h1, h2⟩ := this
    have e : len + (i - len) = i := by omega
    rw [e] at h1
    obtain ⟨_, h3, h4⟩ := World.cells?_some h1
    exact ⟨us, y, h1, h3, h4, h2, fun h => absurd h hil⟩
  by_cases hcap : cap = 0
  ·subst hcap
   obtain rfl : len = 0 := by omega
   refine ⟨.mk z0 z1 z2 [], .nil z0 z1 z2 (some a), ?_⟩
   have := hb _ rfl
   have := wS x3.1
   simp only [Ex.sz, szL]
   omega
  ·obtain ⟨us0, _, _, hl0, hc0, _⟩ := cell 0 (by omega)
   have h00 := hc0 0 (by omega)
   rw [List.getElem?_eq_getElem (by omega)] at h00
   obtain ⟨hs, cs', e', fr, hblk, _⟩ := Gk h00
   have hs' : a.spot = none := by simpa [Addr.add] using hs
   have hblk' : W.heap[a.block]? = some (.cells cs' e' fr) := by simpa [Addr.add] using hblk
   obtain ⟨b, off, sp⟩ := a
   simp only at hs' hblk'
   subst hs'
   have at_ : ∀ i j, ((⟨b, off, none⟩ : Addr).add (i * 4)).add j = ⟨b, off + i * 4 + j, none⟩ := fun i j => by
    unfold Addr.add
    split <;> split <;> simp_all
   have cellx : ∀ i, i < cap → ∃ us y, us.length = 4 ∧ (∀ j, j < 4 → cs'[off + i * 4 + j]? = us[j]?) ∧ DataW.trod enc P W 0 (fun _ => true) true m t us = some y ∧ (i < len → elems[i]? = some y) := fun i hi => by
    obtain ⟨us, y, _, h3, h4, h5, h6⟩ := cell i hi
    refine ⟨us, y, h3, fun j hj => ?_, h5, h6⟩
    have := h4 j hj
    rw [at_] at this
    simpa [World.cell?, hblk'] using this
   have hsize : off + cap * 4 ≤ cs'.size := by
    obtain ⟨us, _, h3, h4, _⟩ := cellx (cap - 1) (by omega)
    have := h4 3 (by omega)
    rw [List.getElem?_eq_getElem (by omega)] at this
    have := (Array.getElem?_eq_some_iff.1 this).1
    omega
   have hel' : ∀ i y, elems[i]? = some y → ∃ e, (mI (fun _ => False) W (((cs'.toList.drop off).drop (i * 4)).take 4) e ∧ e.sz ≤ Rows.uptoBulk y.1) := fun i y hy => by
    have hi : i < len := by rw [← hlen]; exact (List.getElem?_eq_some_iff.1 hy).1
    obtain ⟨us, y', h3, h4, h5, h6⟩ := cellx i (by omega)
    obtain rfl : y' = y := by have := h6 hi; rw [hy] at this; exact (Option.some.inj this).symm
    have hus : ((cs'.toList.drop off).drop (i * 4)).take 4 = us := by
     apply List.ext_getElem?
     intro j
     by_cases hj : j < 4
     ·rw [List.getElem?_take, if_pos hj, List.getElem?_drop, List.getElem?_drop, ← h4 j hj]
      simp [Nat.add_assoc]
     ·rw [List.getElem?_take, if_neg hj, List.getElem?_eq_none (by omega)]
    rw [hus]
    exact ih m (by omega) us y' h5
   obtain ⟨l, hll, hR⟩ := ye (fun i y e => mI (fun _ => False) W (((cs'.toList.drop off).drop (i * 4)).take 4) e ∧ e.sz ≤ Rows.uptoBulk y.1) elems hel'
   have hll' : l.length = len := by omega
   refine ⟨.mk z0 z1 z2 l, ?_, ?_⟩
   ·rw [← hll']
    refine .some z0 z1 z2 l b off cap cs' e' fr (fun h => h) hblk' (by omega) (by omega) ?_ (fun i hi => ?_)
    ·simp only [List.length_take, List.length_drop, Array.length_toList]
     omega
    ·obtain ⟨y, hy⟩ : ∃ y, elems[i]? = some y := ⟨elems[i]'(by omega), List.getElem?_eq_getElem _⟩
     have := (hR i y l[i] hy (List.getElem?_eq_getElem _)).1
     rw [List.drop_take, List.take_take]
     have e4 : min 4 (l.length * 4 - i * 4) = 4 := by omega
     rw [e4]
     exact this
   ·have h1 := IC l (elems.map (·.1)) (by simp [hll]) (fun i e d he hd => by
     rw [List.getElem?_map, Option.map_eq_some_iff] at hd
     obtain ⟨y, hy, rfl⟩ := hd
     exact (hR i y e hy he).2)
    have h2 : x3.1 = .slice (elems.map (·.1)) (rest.map (·.1)) := by rw [hx3]
    have h3 := hb _ h2
    simp only [Ex.sz]
    have h4 : Rows.uptoBulk (DataW.slice (elems.map (·.1)) (rest.map (·.1))) = Rows.uptoBulkAll (elems.map (·.1)) + Rows.uptoBulkAll (rest.map (·.1)) + 1 := by simp only [Rows.uptoBulk]
    omega
end Go.Proofs.YtpnogcmollnjeaaGreatDoor
namespace Go.Proofs.YtpnogcmollnjeaaGreatDoor
open Go.Lib Go.ChangeAt Go.ChangeShapes Go.WideShapes Go.RowKit
open Go.ChangeMaps (open_string)
def kI : Ty → List (Option TypeId)
 | .p a b => kI a ++ kI b
 | .l _ | .ex => [none]
 | _ => []
def OA : Ty → Pt
 | .i k => .int k
 | .bo => .bool
 | .s => .str
 | .l t => .sli t
 | t => .dat t (kI t)
def Dom (Q : Nat → Prop) : (t : Ty) → t.T → Prop
 | .i k, x => (Lit.int k x).wf = true
 | .s, x => x.length ≤ 9223372036854775807
 | .p a b, x => Dom Q a x.1 ∧ Dom Q b x.2
 | .l t, x => (List.length (α := t.T) x ≤ 9223372036854775807 ∧ Q (List.length (α := t.T) x)) ∧ ∀ y : t.T, List.Mem y x → Dom Q t y
 | .ex, x => Q x.sz
 | _, _ => True
/-! the program's types and codes -/
def ug (P : Program) (t : TypeId) : Bool := (match P.underlying t with
 | some (.int .i64) => true
 | _ => false) && P.cellsOf t == 1
def exB (P : Program) (t : TypeId) : Bool := (match P.underlying t with
 | some (.struct fs) => (match fs.toList with
  | [f0, f1, f2, f3] => f0.offset == 0 && ug P f0.type && (f1.offset == 1 && ug P f1.type) && (f2.offset == 2 && ug P f2.type) && (f3.offset == 3 && P.cellsOf f3.type == 1 && (match P.underlying f3.type with
   | some (.slice e) => e == t
   | _ => false))
  | _ => false)
 | _ => false) && P.cellsOf t == 4
def vN (P : Program) (fit : TypeId → Ty → Bool) (tot : Nat) : List Field → Nat → Ty → Bool
 | [], _, _ => false
 | [f], off, t => f.offset == off && off + P.cellsOf f.type == tot && P.cellsOf f.type == t.rep.n && fit f.type t
 | f :: g :: fs, off, t => match t with
  | .p a b => f.offset == off && P.cellsOf f.type == a.rep.n && fit f.type a && vN P fit tot (g :: fs) (off + P.cellsOf f.type) b
  | _ => false
def fits (P : Program) : Nat → TypeId → Ty → Bool
 | 0, _, _ => false
 | n + 1, i, t => match P.underlying i with
  | some (.int k) => (match t with
   | .i k' => decide (k = k')
   | _ => false)
  | some .bool => (match t with
   | .bo => true
   | _ => false)
  | some .string => (match t with
   | .s => true
   | _ => false)
  | some (.slice e) => (match t with
   | .l u => P.cellsOf e == u.rep.n && Nat.blt 0 u.rep.n && fits P n e u
   | _ => false)
  | some (.struct fs) => (match t with
   | .ex => exB P i
   | .p a b => vN P (fits P n) (P.cellsOf i) fs.toList 0 (.p a b)
   | _ => false)
  | _ => false
theorem lh {P : Program} {t : TypeId} (h : ug P t = true) : P.underlying t = some (.int .i64) ∧ P.cellsOf t = 1 := by
 unfold ug at h
 simp only [Bool.and_eq_true, beq_iff_eq] at h
 refine ⟨?_, h.2⟩
 revert h
 split
 ·rename_i h; intro _; exact h
 ·intro h; cases h.1
theorem OM {P : Program} {t : TypeId} (h : exB P t = true) : H7 P t := by
 unfold exB at h
 simp only [Bool.and_eq_true, beq_iff_eq] at h
 obtain ⟨h1, h2⟩ := h
 split at h1
 ·rename_i fs hfs
  split at h1
  ·rename_i f0 f1 f2 f3 hl
   simp only [Bool.and_eq_true, beq_iff_eq] at h1
   obtain ⟨⟨⟨⟨a0, b0⟩, a1, b1⟩, a2, b2⟩, ⟨a3, c3⟩, b3⟩ := h1
   have g : ∀ i : Nat, fs[i]? = [f0, f1, f2, f3][i]? := fun i => by rw [← hl, Array.getElem?_toList]
   have u3 : P.underlying f3.type = some (.slice t) := by
    revert b3
    split
    ·rename_i e he
     intro hb
     rw [he, (by simpa using hb : e = t)]
    ·intro hb; cases hb
   refine ⟨⟨fs, f0, f1, f2, f3, hfs, ?_, g 0, g 1, g 2, g 3, ⟨a0, (lh b0).1, (lh b0).2⟩, ⟨a1, (lh b1).1, (lh b1).2⟩, ⟨a2, (lh b2).1, (lh b2).2⟩, ⟨a3, u3, c3⟩⟩, h2⟩
   rw [← Array.length_toList, hl]; rfl
  ·cases h1
 ·cases h1
theorem KU {w : World} {a : Addr} {v : Value} (h : w.cell? a = some v) : a.spot = none ∧ ∃ cs e fr, w.heap[a.block]? = some (.cells cs e fr) ∧ cs[a.off]? = some v := by
 unfold World.cell? at h
 split at h
 ·rename_i cs e fr hb
  split at h
  ·cases h
  ·rename_i hs
   exact ⟨by simpa using hs, cs, e, fr, hb, h⟩
 ·cases h
theorem wH {Y α : Type} (R : Nat → Y → α → Prop) : ∀ (ys : List Y), (∀ i y, ys[i]? = some y → ∃ e, R i y e) → ∃ l : List α, l.length = ys.length ∧ ∀ i y e, ys[i]? = some y → l[i]? = some e → R i y e
 | [], _ => ⟨[], rfl, fun i y e h => by simp at h⟩
 | y :: ys, h => by
  obtain ⟨e, he⟩ := h 0 y rfl
  obtain ⟨l, hl, hr⟩ := wH (fun i => R (i + 1)) ys (fun i y hy => h (i + 1) y (by simpa using hy))
  refine ⟨e :: l, by simp [hl], fun i y' e' hy hx => ?_⟩
  cases i with
  | zero =>
   simp only [List.getElem?_cons_zero, Option.some.injEq] at hy hx
   subst hy; subst hx; exact he
  | succ i => exact hr i y' e' (by simpa using hy) (by simpa using hx)
theorem wB {H : Type} : ∀ (l : List (DataW H)), l.length ≤ Rows.uptoBulkAll l
 | [] => Nat.zero_le _
 | d :: l => by
  have := wB l
  have := wS d
  simp only [List.length_cons, Rows.uptoBulkAll]
  omega
theorem Ii {H α : Type} {enc : TypeId × Value → H} {P : Program} {W : World} {t e : TypeId} {A : Rep α} {Q : Nat → Prop} {D : α → Prop} (ht : P.underlying t = some (.slice e)) (hA : P.cellsOf e = A.n) (hn : 0 < A.n)
  (fuel : Nat) (cs : List Value) (x : DataW H × List MemPlace) (hQ : ∀ n, n ≤ Rows.uptoBulk x.1 → Q n)
  (he : ∀ (fuel : Nat) (us : List Value) (y : DataW H × List MemPlace), (∀ n, n ≤ Rows.uptoBulk y.1 → Q n) → DataW.trod enc P W 0 (fun _ => true) true fuel e us = some y → ∃ z, A.rd (fun _ => False) W us z ∧ D z)
  (h : DataW.trod enc P W 0 (fun _ => true) true fuel t cs = some x) :
  ∃ (u : SLV) (zs : List α), cs = [sl u] ∧ SRd A (fun _ => False) W (sl u) zs ∧ (zs.length ≤ 9223372036854775807 ∧ Q zs.length) ∧ ∀ z ∈ zs, D z := by
 rcases DataW.trod_slice ht h with ⟨h3, _⟩ | ⟨a, len, cap, elems, rest, m, rfl, h3, hx, _, hlc, hmx, hlen, hel, hsp, _⟩
 ·exact ⟨(none, 0, 0), [], h3, SRd.nil, ⟨by simp, hQ _ (Nat.zero_le _)⟩, by simp⟩
 ·obtain ⟨hrl, hre⟩ := hsp rfl
  rw [hA] at hel hre
  have hmx : cap ≤ 9223372036854775807 := hmx
  have hb : Rows.uptoBulk x.1 = Rows.uptoBulkAll (elems.map (·.1)) + Rows.uptoBulkAll (rest.map (·.1)) + 1 := by rw [hx]; simp only [Rows.uptoBulk]
  have hlb : len ≤ Rows.uptoBulk x.1 := by
   have := wB (elems.map (·.1))
   simp only [List.length_map] at this
   omega
  have hQe : ∀ y ∈ elems, ∀ n, n ≤ Rows.uptoBulk y.1 → Q n := fun y hy n hn => hQ n (by
   have := nO (d := y.1) (l := elems.map (·.1)) (List.mem_map.2 ⟨y, hy, rfl⟩)
   omega)
  have cell : ∀ i, i < cap → ∃ us y, us.length = A.n ∧ (∀ j, j < A.n → W.cell? ((a.add (i * A.n)).add j) = us[j]?) ∧ DataW.trod enc P W 0 (fun _ => true) true m e us = some y ∧ (i < len → elems[i]? = some y) := fun i hi => by
   by_cases hil : i < len
   ·obtain ⟨y, hy⟩ : ∃ y, elems[i]? = some y := ⟨elems[i]'(by omega), List.getElem?_eq_getElem _⟩
    have := hel i hil
    rw [hy, Option.bind_eq_some_iff] at this
    obtain ⟨us, h1, h2⟩ := this
    obtain ⟨_, h3, h4⟩ := World.cells?_some h1
    exact ⟨us, y, h3, h4, h2, fun _ => hy⟩
   ·obtain ⟨y, hy⟩ : ∃ y, rest[i - len]? = some y := ⟨rest[i - len]'(by omega), List.getElem?_eq_getElem _⟩
    have := hre (i - len) (by omega)
    rw [hy, Option.bind_eq_some_iff, show len + (i - len) = i by omega] at this
    obtain ⟨us, h1, h2⟩ := this
    obtain ⟨_, h3, h4⟩ := World.cells?_some h1
    exact ⟨us, y, h3, h4, h2, fun h => absurd h hil⟩
  by_cases hcap : cap = 0
  ·subst hcap
   obtain rfl : len = 0 := by omega
   exact ⟨(some a, 0, 0), [], h3, SRd.emp, ⟨by simp, hQ _ (Nat.zero_le _)⟩, by simp⟩
  ·obtain ⟨us0, _, hl0, hc0, _⟩ := cell 0 (by omega)
   have h00 := hc0 0 hn
   rw [List.getElem?_eq_getElem (by omega)] at h00
   obtain ⟨hs, cs', e', fr, hblk, _⟩ := KU h00
   have hs' : a.spot = none := by simpa [Addr.add] using hs
   have hblk' : W.heap[a.block]? = some (.cells cs' e' fr) := by simpa [Addr.add] using hblk
   obtain ⟨b, off, sp⟩ := a
   simp only at hs' hblk'
   subst hs'
   have at_ : ∀ i j, ((⟨b, off, none⟩ : Addr).add (i * A.n)).add j = ⟨b, off + i * A.n + j, none⟩ := fun i j => by
    unfold Addr.add
    split <;> split <;> simp_all
   have cellx : ∀ i, i < cap → ∃ us y, us.length = A.n ∧ (∀ j, j < A.n → cs'[off + i * A.n + j]? = us[j]?) ∧ DataW.trod enc P W 0 (fun _ => true) true m e us = some y ∧ (i < len → elems[i]? = some y) := fun i hi => by
    obtain ⟨us, y, h3, h4, h5, h6⟩ := cell i hi
    refine ⟨us, y, h3, fun j hj => ?_, h5, h6⟩
    have := h4 j hj
    rw [at_] at this
    simpa [World.cell?, hblk'] using this
   have hsize : off + cap * A.n ≤ cs'.size := by
    obtain ⟨us, _, h3, h4, _⟩ := cellx (cap - 1) (by omega)
    have := h4 (A.n - 1) (by omega)
    rw [List.getElem?_eq_getElem (by omega)] at this
    have := (Array.getElem?_eq_some_iff.1 this).1
    have e1 : cap * A.n = (cap - 1) * A.n + A.n := by
     have : cap = (cap - 1) + 1 := by omega
     conv => lhs; rw [this]
     rw [Nat.add_mul, Nat.one_mul]
    omega
   have hel' : ∀ i y, elems[i]? = some y → ∃ z, (A.rd (fun _ => False) W (((cs'.toList.drop off).drop (i * A.n)).take A.n) z ∧ D z) := fun i y hy => by
    have hi : i < len := by rw [← hlen]; exact (List.getElem?_eq_some_iff.1 hy).1
    obtain ⟨us, y', h3, h4, h5, h6⟩ := cellx i (by omega)
    obtain rfl : y' = y := by have := h6 hi; rw [hy] at this; exact (Option.some.inj this).symm
    have hus : ((cs'.toList.drop off).drop (i * A.n)).take A.n = us := by
     apply List.ext_getElem?
     intro j
     by_cases hj : j < A.n
     ·rw [List.getElem?_take, if_pos hj, List.getElem?_drop, List.getElem?_drop, ← h4 j hj]
      simp [Nat.add_assoc]
     ·rw [List.getElem?_take, if_neg hj, List.getElem?_eq_none (by omega)]
    rw [hus]
    exact he m us y' (hQe y' (List.mem_of_getElem? hy)) h5
   obtain ⟨l, hll, hR⟩ := wH (fun i y z => A.rd (fun _ => False) W (((cs'.toList.drop off).drop (i * A.n)).take A.n) z ∧ D z) elems hel'
   have hll' : l.length = len := by omega
   have get : ∀ i (hi : i < l.length), A.rd (fun _ => False) W (((cs'.toList.drop off).drop (i * A.n)).take A.n) l[i] ∧ D l[i] := fun i hi => by
    obtain ⟨y, hy⟩ : ∃ y, elems[i]? = some y := ⟨elems[i]'(by omega), List.getElem?_eq_getElem _⟩
    exact hR i y l[i] hy (List.getElem?_eq_getElem _)
   refine ⟨(some ⟨b, off, none⟩, len, cap), l, h3, .inr ⟨b, off, cap, cs', e', fr, by rw [hll']; rfl, (fun h => h), hblk', by omega, hsize, ?_⟩, ⟨by omega, hQ _ (by omega)⟩, fun z hz => ?_⟩
   ·have hle : l.length * A.n ≤ cap * A.n := Nat.mul_le_mul_right _ (by omega)
    refine ⟨?_, fun i hi => ?_⟩
    ·simp only [List.length_take, List.length_drop, Array.length_toList]
     omega
    ·have h1 : i * A.n + A.n ≤ l.length * A.n := by rw [← Nat.succ_mul]; exact Nat.mul_le_mul_right _ hi
     rw [List.drop_take, List.take_take, Nat.min_eq_left (by omega)]
     exact (get i hi).1
   ·obtain ⟨i, hi, rfl⟩ := List.getElem_of_mem hz
    exact (get i hi).2
theorem EO {H : Type} {enc : TypeId × Value → H} {P : Program} {W : World} {Q : Nat → Prop} : ∀ (n : Nat) (i : TypeId) (t : Ty), fits P n i t = true → ∀ (fuel : Nat) (cs : List Value) (x : DataW H × List MemPlace),
  (∀ n, n ≤ Rows.uptoBulk x.1 → Q n) → DataW.trod enc P W 0 (fun _ => true) true fuel i cs = some x → ∃ z : t.T, t.rep.rd (fun _ => False) W cs z ∧ Dom Q t z := by
 intro n
 induction n with
 | zero => intro i t h; cases h
 | succ n ih =>
 intro i t hf fuel cs x hQ h
 unfold fits at hf
 split at hf
 ·rename_i k hu
  split at hf
  ·obtain ⟨z, h1, _, h3⟩ := DataW.trod_int hu h
   have e := of_decide_eq_true hf
   subst e
   exact ⟨z, h1, h3⟩
  ·cases hf
 ·rename_i hu
  split at hf
  ·obtain ⟨z, h1, _⟩ := DataW.trod_bool hu h
   exact ⟨z, h1, trivial⟩
  ·cases hf
 ·rename_i hu
  split at hf
  ·obtain ⟨⟨⟨z⟩⟩, h1, _, h3⟩ := DataW.trod_string hu h
   exact ⟨z, h1, h3⟩
  ·cases hf
 ·rename_i e hu
  split at hf
  ·rename_i u
   simp only [Bool.and_eq_true, beq_iff_eq, Nat.blt_eq] at hf
   obtain ⟨⟨h1, h2⟩, h3⟩ := hf
   obtain ⟨p, zs, a1, a2, a3, a4⟩ := Ii (A := u.rep) (Q := Q) (D := Dom Q u) hu h1 h2 fuel cs x hQ (fun fuel us y hy h => ih e u h3 fuel us y hy h) h
   exact ⟨zs, ⟨p, a1, a2⟩, a3, a4⟩
  ·cases hf
 ·rename_i fs hu
  have key : ∀ t : Ty, vN P (fits P n) (P.cellsOf i) fs.toList 0 t = true → ∃ z : t.T, t.rep.rd (fun _ => False) W cs z ∧ Dom Q t z := fun t hf => by
   obtain ⟨xs, m, _, hx, hl, hxs, hfl⟩ := DataW.trod_struct hu h
   have hb : Rows.uptoBulk x.1 = Rows.uptoBulkAll (xs.map (·.1)) + 1 := by rw [hx]; simp only [Rows.uptoBulk]
   have hQe : ∀ y ∈ xs, ∀ n, n ≤ Rows.uptoBulk y.1 → Q n := fun y hy n hn => hQ n (by
    have := nO (d := y.1) (l := xs.map (·.1)) (List.mem_map.2 ⟨y, hy, rfl⟩)
    omega)
   have one : ∀ (j : Nat) (f : Field) (t : Ty), fs.toList[j]? = some f → fits P n f.type t = true → ∃ z : t.T, t.rep.rd (fun _ => False) W ((cs.drop f.offset).take (P.cellsOf f.type)) z ∧ Dom Q t z := fun j f t hj ht => by
    have hj' : fs[j]? = some f := by simpa using hj
    have h1 := hfl j f hj'
    have hjl : j < xs.length := by rw [hxs]; exact (Array.getElem?_eq_some_iff.1 hj').1
    rw [List.getElem?_eq_getElem hjl] at h1
    exact ih f.type t ht m _ _ (hQe _ (List.getElem_mem _)) h1
   have go : ∀ (r : List Field) (j off : Nat) (t : Ty), fs.toList.drop j = r → vN P (fits P n) (P.cellsOf i) r off t = true → ∃ z : t.T, t.rep.rd (fun _ => False) W (cs.drop off) z ∧ Dom Q t z := fun r => by
    induction r with
    | nil => intro j off t _ h; cases h
    | cons f r ihr =>
     intro j off t hr hf
     have hj : fs.toList[j]? = some f := by
      have := congrArg (·[0]?) hr
      simpa [List.getElem?_drop] using this
     have hr' : fs.toList.drop (j + 1) = r := by
      rw [← List.drop_drop, hr]; rfl
     cases r with
     | nil =>
      simp only [vN, Bool.and_eq_true, beq_iff_eq] at hf
      obtain ⟨⟨⟨h1, h2⟩, h3⟩, h4⟩ := hf
      obtain ⟨z, z1, z2⟩ := one j f t hj h4
      rw [h1, List.take_of_length_le (by simp; omega)] at z1
      exact ⟨z, z1, z2⟩
     | cons g r =>
      unfold vN at hf
      split at hf
      ·rename_i a b
       simp only [Bool.and_eq_true, beq_iff_eq] at hf
       obtain ⟨⟨⟨h1, h2⟩, h3⟩, h4⟩ := hf
       obtain ⟨z, z1, z2⟩ := one j f a hj h3
       obtain ⟨y, y1, y2⟩ := ihr (j + 1) _ b hr' h4
       rw [h1] at z1
       refine ⟨(z, y), ⟨_, _, ?_, z1, y1⟩, z2, y2⟩
       rw [← List.drop_drop]; exact (List.take_append_drop ..).symm
      ·cases hf
   obtain ⟨z, z1, z2⟩ := go fs.toList 0 0 t rfl hf
   exact ⟨z, by simpa using z1, z2⟩
  split at hf
  ·obtain ⟨e, h1, h2⟩ := Gn (OM hf) fuel cs x h
   exact ⟨e, h1, hQ _ h2⟩
  ·exact key _ hf
  ·cases hf
 ·cases hf
def gI (W : World) (I : Its) : Prop := ∀ it ∈ I, it.1 = false ∧ it.2.bR = true ∧ ∀ M, Mv (fun _ => False) W M W → it.2.P M W
theorem gI.nil {W : World} : gI W [] := fun it h => by cases h
theorem gI.app {W : World} {I J : Its} (h : gI W I) (k : gI W J) : gI W (I ++ J) := fun it hit => by
 rcases List.mem_append.1 hit with h1 | h1
 ·exact h it h1
 ·exact k it h1
theorem gI.one {W : World} {α : Type} {A : Rep α} {p : SLV} {l : List α} (h : SRd A (fun _ => False) W (sl p) l) : gI W [(false, uk true A p l false)] := fun it hit => by
 rcases List.mem_singleton.1 hit with rfl
 exact ⟨rfl, rfl, fun M hm _ => ⟨h.mv hm, fun h => by cases h⟩⟩
theorem tE {W : World} : ∀ (t : Ty) (cs : List Value) (x : t.T), t.rep.rd (fun _ => False) W cs x → ∀ (o : List (Option TypeId)) (N : List Nm), ∃ I N', wP t x cs (kI t ++ o) N I N' o ∧ gI W I
 | .i k, cs, x, h, o, N => ⟨[], N, ⟨h, rfl, rfl, rfl⟩, .nil⟩
 | .bo, cs, x, h, o, N => ⟨[], N, ⟨h, rfl, rfl, rfl⟩, .nil⟩
 | .s, cs, x, h, o, N => ⟨[], N, ⟨h, rfl, rfl, rfl⟩, .nil⟩
 | .un, cs, x, h, o, N => ⟨[], N, ⟨h, rfl, rfl, rfl⟩, .nil⟩
 | .n, cs, x, h, o, N => absurd h id
 | .mp _ _, cs, x, h, o, N => absurd h id
 | .p a b, cs, x, h, o, N => by
  obtain ⟨c1, c2, h1, h2, h3⟩ := h
  obtain ⟨I1, N1, s1, g1⟩ := tE a c1 x.1 h2 (kI b ++ o) N
  obtain ⟨I2, N2, s2, g2⟩ := tE b c2 x.2 h3 o N1
  refine ⟨I1 ++ I2, N2, ⟨c1, c2, N1, I1, I2, kI b ++ o, ?_, s2, h1, rfl⟩, g1.app g2⟩
  rw [show kI (.p a b) ++ o = kI a ++ (kI b ++ o) by simp [kI]]
  exact s1
 | .l t, cs, x, h, o, N => by
  obtain ⟨p, h1, h2⟩ := h
  exact ⟨_, _, ⟨⟨0, p, ⟨0, 0, none⟩, none, .bool false, ⟨.un, ()⟩⟩, h1, rfl, .inl ⟨rfl, rfl⟩⟩, .one h2⟩
 | .ex, cs, x, h, o, N => by
  obtain ⟨p, h1, h2⟩ := sX h
  exact ⟨_, _, ⟨⟨0, p, ⟨0, 0, none⟩, none, .bool false, ⟨.un, ()⟩⟩, h1, rfl, .inl ⟨rfl, rfl⟩⟩, .one h2⟩
def Arg (W : World) (t : Ty) (v : Value) (z : t.T) : Prop := ∀ N : List Nm, ∃ I N', Sem (OA t) v none none N [⟨t, z⟩] I [] N' ∧ gI W I
theorem EI {H : Type} {enc : TypeId × Value → H} {P : Program} {W : World} {Q : Nat → Prop} {base : Nat} {n : Nat} {i : TypeId} (t : Ty) (hf : fits P n i t = true) {v : Value} {d : DataW H} {ps : List MemPlace}
  (hw : Value.okWide P W .any base i v) (hQ : ∀ n, n ≤ Rows.uptoBulk d → Q n) (h : DataW.Trod enc P W 0 (fun _ => true) true i v d ps) : ∃ z : t.T, Arg W t v z ∧ Dom Q t z := by
 have hk := h
 obtain ⟨fuel, hx⟩ := h
 obtain ⟨z, h1, h2⟩ := EO n i t hf fuel _ _ hQ hx
 refine ⟨z, ?_, h2⟩
 cases n with
 | zero => cases hf
 | succ n =>
 unfold fits at hf
 split at hf
 ·rename_i k hu
  split at hf
  ·have e := of_decide_eq_true hf
   subst e
   obtain ⟨y, rfl, _⟩ := open_int hu hw hk
   have : y = z := by
    have h1 : ([.int k y] : List Value) = [.int k z] := h1
    injection h1 with h1 _
    injection h1
   subst this
   exact fun N => ⟨[], N, ⟨y, rfl, rfl, rfl, rfl, rfl⟩, .nil⟩
  ·cases hf
 ·rename_i hu
  split at hf
  ·obtain ⟨y, rfl, _⟩ := open_bool hu hw hk
   have : y = z := by
    have h1 : ([.bool y] : List Value) = [.bool z] := h1
    injection h1 with h1 _
    injection h1
   subst this
   exact fun N => ⟨[], N, ⟨y, rfl, rfl, rfl, rfl, rfl⟩, .nil⟩
  ·cases hf
 ·rename_i hu
  split at hf
  ·obtain ⟨⟨⟨y⟩⟩, rfl, _⟩ := open_string hu hw hk
   have : y = z := by
    have h1 : ([S y] : List Value) = [S z] := h1
    injection h1 with h1 _
    injection h1 with h1
    injection h1 with h1
    injection h1
   subst this
   exact fun N => ⟨[], N, ⟨y, rfl, rfl, rfl, rfl, rfl⟩, .nil⟩
  ·cases hf
 ·rename_i e hu
  split at hf
  ·rename_i u
   obtain ⟨a, len, cap, rfl⟩ := okWide_slice hu hw
   obtain ⟨p, e1, h3⟩ := h1
   have e2 : Value.slice a len cap = sl p := by simpa [Value.cells] using e1
   rw [e2]
   exact fun N => ⟨_, _, ⟨⟨0, p, ⟨0, 0, none⟩, none, .bool false, ⟨.un, ()⟩⟩, z, rfl, rfl, rfl, rfl, rfl⟩, .one h3⟩
  ·cases hf
 ·rename_i fs hu
  obtain ⟨cs, rfl, _, _⟩ := O9 hu hw
  split at hf
  ·obtain ⟨p, e1, h3⟩ := sX h1
   exact fun N => ⟨_, _, ⟨cs.toList, z, [], by simp, rfl, ⟨⟨0, p, ⟨0, 0, none⟩, none, .bool false, ⟨.un, ()⟩⟩, e1, rfl, .inl ⟨rfl, rfl⟩⟩, rfl⟩, .one h3⟩
  ·rename_i a b
   exact fun N => by
    obtain ⟨I, N', s, g⟩ := tE (.p a b) _ z h1 [] N
    exact ⟨I, N', ⟨cs.toList, z, [], by simp, rfl, by simpa [Value.cells] using s, rfl⟩, g⟩
  ·cases hf
 ·cases hf
def Jg (W : World) (ps : List Pt) (vs : List Value) (D : List Dyn) : Prop := ∀ N : List Nm, ∃ I N', lY ps vs [] N D I [] N' ∧ gI W I
theorem J4 {W : World} : Jg W [] [] [] := fun N => ⟨[], N, ⟨rfl, rfl, rfl, rfl, rfl⟩, .nil⟩
theorem HV {W : World} {t : Ty} {v : Value} {z : t.T} {ps : List Pt} {vs : List Value} {D : List Dyn} (h : Arg W t v z) (k : Jg W ps vs D) : Jg W (OA t :: ps) (v :: vs) (⟨t, z⟩ :: D) := fun N => by
 obtain ⟨I1, N1, s1, g1⟩ := h N
 obtain ⟨I2, N2, s2, g2⟩ := k N1
 exact ⟨I1 ++ I2, N2, ⟨v, vs, [⟨t, z⟩], D, I1, I2, [], [], N1, rfl, s1, s2, rfl, rfl, rfl⟩, g1.app g2⟩
theorem KG {W : World} {I : Its} {Γ : Ctx} (g : gI W I) (hn : NoM Γ) (h : Sat Γ W) : Sat (cb I ++ Γ) W := qh h _ (fun it hit => by
 obtain ⟨x, hx, rfl⟩ := List.mem_map.1 hit
 exact ⟨(g x hx).2.1, (g x hx).2.2 _ (Jk hn)⟩)
end Go.Proofs.YtpnogcmollnjeaaGreatDoor
namespace Go.Proofs.YtpnogcmollnjeaaGreatDoor
namespace Ls
theorem Hw {x : Int} (h : (Lit.int .u8 x).wf = true) : 0 ≤ x ∧ x ≤ 255 := by
 simp only [Lit.wf, Bool.and_eq_true, decide_eq_true_eq] at h
 exact h
theorem Ox (w : LIn) (h : Dom (fun n => n ≤ 1048576) (.p .s (.p .ex (.p (.p (.l (.l (.i .i64))) (.l (.l (.i .i64)))) (.p (.i .u8) (.i .u8))))) w) : eM w = some true :=
 HR w h.2.1 (Hw h.2.2.2.1) (Hw h.2.2.2.2)
end Ls
end Go.Proofs.YtpnogcmollnjeaaGreatDoor
