/-
  Own texts for the statement LassoRound, cut down to what it needs: TrRSys3, TrRSys4, TrToks, StA, StB1, StN, SysErr, StC1, LsW, TrMay, TrFew, LsE0, LsR, KFr, KFx, KArg, LsRt. (cut and joined by a program)
-/
import Derived.Test.YtpnogcmollnjeaaGreatDoorLassoRoundA
import Derived.Test.YtpnogcmollnjeaaGreatDoorLassoRoundB
import Derived.Test.YtpnogcmollnjeaaGreatDoorLassoRoundC
import Derived.Test.YtpnogcmollnjeaaGreatDoorLassoRoundD
import Derived.Test.YtpnogcmollnjeaaGreatDoorLassoRoundE
import Derived.Test.YtpnogcmollnjeaaGreatDoorLassoRoundF
import Derived.Lib.LaidTab
import Derived.Below
import Derived.WalkKit
import Derived.ProofKit
import Derived.Test.YtpnogcmollnjeaaGreatDoorRows
import Derived.Carry
import Derived.ChangeSlices
import Derived.OpenShut
namespace Go.Proofs.YtpnogcmollnjeaaGreatDoor
namespace Sy
open Pa
section
variable {l : List Tok} (hl : l.length < 1099511627776) (htok : ∀ t ∈ l, dQ t) (hnum : ∀ t ∈ l, oV t)
variable {st : Except Err (List Tok)} {a b p : Int} (N : List Str) (S_ : List (Int × Int)) (I : List Int) (Q : List Str) (C : List Cmd)
variable (hN : N.length < 1099511627776) (hQ : Q.length < 1099511627776) (hC : C.length < 1099511627776)
theorem yH (acc : List (Int × Ex)) (hacc : acc.length < 4611686018427387904) (again) (e : Tok) (i : Int) (a b p : Int) : ∀ (r pre : List (Int × Ex)), acc = pre ++ r → ∀ (M : Nat) (tw : Bool), r.length < M →
  al (bg l N S_ I Q C a b p acc again e i) M (tw, (pre.length : Int)) = bg l N S_ I Q C a b p acc again e i (fun _ => none) (tw || nU r i, (acc.length : Int))
 | [], pre, h, M, tw, hM => by
  obtain ⟨m, rfl⟩ : ∃ m, M = m + 1 := ⟨M - 1, by simp at hM; omega⟩
  rw [ao]
  have e1 : pre = acc := by simpa using h.symm
  subst e1
  simp only [bg, decide_eq_false (show ¬ ((pre.length : Int) < (List.length pre : Int)) by omega), cond_false, nU, List.any_nil, Bool.or_false]
 | x :: r, pre, h, M, tw, hM => by
  obtain ⟨m, rfl⟩ : ∃ m, M = m + 1 := ⟨M - 1, by omega⟩
  rw [ao]
  have hlen : pre.length < 4611686018427387904 := by rw [h] at hacc; simp at hacc; omega
  have ih := fun tw => yH acc hacc again e i a b p r (pre ++ [x]) (by rw [h]; simp) m tw (by simp at hM; omega)
  rw [show ((pre ++ [x]).length : Int) = ((pre.length + 1 : Nat) : Int) by simp] at ih
  have hg : ∀ k : (Int × Ex) → Option (Int × List Cmd × Int × Int), aJ (!tw) (0, Ex.mk 0 0 0 []) (some x) k = k (bif tw then (0, Ex.mk 0 0 0 []) else x) := fun k => by cases tw <;> rfl
  refine Eq.trans (b := bif decide ((pre.length : Int) < (List.length acc : Int)) then (aJ (!tw) (0, (Ex.mk 0 0 0 [])) (idx acc (pre.length : Int)) fun e55 => al (bg l N S_ I Q C a b p acc again e i) m (tw || (e55.1 == i), IntKind.i64.wrap ((pre.length : Int) + 1))) else none) ?_ ?_
  ·simp only [bg, iL h, cond_true, aP]
  ·rw [iL h, cond_true, mid h, hg, bX hlen, ih]
   congr 2
   simp only [nU, List.any_cons]
   cases tw <;> simp
include hl hC in
theorem Ad (g5 : Ex × Int × Int × Int) (acc : List (Int × Ex)) (more : Bool) (M : Nat) (h : St l st a b p) (hm : (more && (b == 0)) = false) :
  ∃ a' b' p', al (bD l N S_ I Q C g5) (M + 1) (a, b, p, acc, more) = some (a', C ++ [(IntKind.i64.wrap ((Q.length : Int) - 1), g5.1, acc)], b', p') ∧ St l (aN st (aV [59])) a' b' p' := by
 obtain ⟨a', b', p', e1, s1⟩ := pP hl N S_ I Q C h [59]
 rw [ao]
 simp only [bD, aP, hm, cond_false, e1, ai]
 have k1 : ∀ x : Cmd, ay (List.length C + List.length ([x] : List Cmd)) 80 = true := fun x => eI (by simp; omega) (by simp; omega)
 rw [dE (k1 _)]
 exact ⟨_, _, _, rfl, s1⟩
include hl htok hnum hN in
theorem Qu (acc : List (Int × Ex)) (hacc : acc.length < 1099511627776) (again) (i : Int) (h : St l st a b p) :
  ∃ x a' b' p', cY l N S_ I Q C acc again i b p a = again (a', b', p', acc ++ [(i, x)], isS 3 [44] (aG (aN st (aV [61])) (bZ 1 N))) ∧
   St l (match aG (aN st (aV [61])) (bZ 1 N) with | .ok ts => (bif isH 3 [44] ts then .ok ts.tail else .ok ts) | .error e => .error e) a' b' p' ∧ Val (aN st (aV [61])) (bZ 1 N) x := by
 obtain ⟨a1, b1, p1, e1, s1⟩ := pP hl N S_ I Q C h [61]
 obtain ⟨x, a2, b2, p2, e2, s2, v2⟩ := F2 hl htok hnum N S_ I Q C s1 hN 1
 have e3 := uC N S_ I Q C s2 3 [44]
 have k1 : ay (List.length acc + List.length ([(i, x)] : List (Int × Ex))) 56 = true := eI (by simp; omega) (by simp; omega)
 unfold cY
 simp only [e1, ai, e2, dE k1, e3]
 cases hst : aG (aN st (aV [61])) (bZ 1 N) with
 | error e =>
  rw [hst] at s2
  simp only [isS, cond_false]
  exact ⟨x, _, _, _, rfl, s2, v2⟩
 | ok ts =>
  rw [hst] at s2
  simp only [isS]
  cases hc : isH 3 [44] ts
  ·simp only [cond_false]
   exact ⟨x, _, _, _, rfl, s2, v2⟩
  ·simp only [cond_true]
   obtain ⟨k, t, r, rfl, rfl, hd, he, rfl, rfl, hx, hm, hd1, hk⟩ := s2.ok
   refine ⟨x, _, _, _, rfl, ?_, v2⟩
   rw [bX (show k < 4611686018427387904 by omega)]
   exact ⟨k + 1, rfl, hd1, (iu he (by decide) hc).1, rfl, rfl⟩
include hl htok hnum hN hC in
theorem Nx (g5 : Ex × Int × Int × Int) : ∀ (n : Nat) (ts : List Tok) (acc : List (Int × Ex)) (a : Int) (M f : Nat), ts.length ≤ n → n + 2 ≤ M → ts.length < f → acc.length + ts.length < 1099511627776 → St l (.ok ts) a 0 0 →
  ∃ a' C' b' p', al (bD l N S_ I Q C g5) M (a, 0, 0, acc, true) = some (a', C', b', p') ∧ St l (aN (rest (cK N f acc ts)) (aV [59])) a' b' p' ∧
   (∀ sets r, cK N f acc ts = .ok (sets, r) → C' = C ++ [(IntKind.i64.wrap ((Q.length : Int) - 1), g5.1, sets)]) := by
 intro n
 induction n with
 | zero =>
  intro ts acc a M f h1 _ _ _ hs
  obtain ⟨k, t, r, _, rfl, _⟩ := hs.ok
  simp at h1
 | succ n ih =>
  intro ts acc a M f h1 h2 h3 h4 hs
  obtain ⟨M, rfl⟩ : ∃ m, M = m + 1 := ⟨M - 1, by omega⟩
  obtain ⟨f, rfl⟩ : ∃ m, f = m + 1 := ⟨f - 1, by omega⟩
  obtain ⟨k, t, r, rfl, rfl, hd, he, _, _, hx, hm, hd1, hk⟩ := hs.ok
  rw [ao]
  generalize hag : al (bD l N S_ I Q C g5) M = again
  simp only [bD, aP, beq_self_eq_true, Bool.and_self, cond_true, hx, ai, xO (show N.length < 4611686018427387904 by omega)]
  have htw := yH (l := l) N S_ I Q C acc (by omega) again t (cC N t.2.1) (k : Int) 0 0 acc [] rfl au false (by show acc.length < 2 ^ 64; omega)
  rw [show (([] : List (Int × Ex)).length : Int) = 0 from rfl, Bool.false_or] at htw
  rw [htw]
  simp only [bg, decide_eq_false (show ¬ ((acc.length : Int) < (List.length acc : Int)) by omega), cond_false, aP, kl, ai]
  -- the state behind the name
  have step : ∀ (st1 : Except Err (List Tok)) (c b p : Int), St l st1 c b p → (st1 = .ok r ∨ ∃ e, st1 = .error e) →
    cK N (f + 1) acc (t :: r) = (match st1 with
     | .error e => .error e
     | .ok r0 => match aV [61] r0 with
      | .error e => .error e
      | .ok r1 => match bZ 1 N r1 with
       | .error e => .error e
       | .ok (x, r2) => bif isH 3 [44] r2 then cK N f (acc ++ [(cC N t.2.1, x)]) r2.tail else .ok (acc ++ [(cC N t.2.1, x)], r2)) →
    ∃ a' C' b' p', cY l N S_ I Q C acc again (cC N t.2.1) b p c = some (a', C', b', p') ∧ St l (aN (rest (cK N (f + 1) acc (t :: r))) (aV [59])) a' b' p' ∧
     (∀ sets r', cK N (f + 1) acc (t :: r) = .ok (sets, r') → C' = C ++ [(IntKind.i64.wrap ((Q.length : Int) - 1), g5.1, sets)]) := by
   intro st1 c b p hst1 hsh hse
   obtain ⟨x, a1, b1, p1, e1, s1, v1⟩ := Qu hl htok hnum N S_ I Q C hN acc (by omega) again (cC N t.2.1) hst1
   rw [e1, ← hag]
   have hM1 : 1 ≤ M := by omega
   obtain ⟨M', rfl⟩ : ∃ m, M = m + 1 := ⟨M - 1, by omega⟩
   cases hX : aG (aN st1 (aV [61])) (bZ 1 N) with
   | error e =>
    rw [hX] at s1
    simp only [isS] at s1 ⊢
    obtain ⟨a2, b2, p2, e2, s2⟩ := Ad hl N S_ I Q C hC g5 (acc ++ [(cC N t.2.1, x)]) false M' s1 rfl
    have hse' : cK N (f + 1) acc (t :: r) = .error e := by
     rw [hse]
     cases st1 with
     | error e' => simp only [aG, aN] at hX ⊢; cases hX; rfl
     | ok r0 =>
      simp only [aG, aN] at hX ⊢
      cases q1 : aV [61] r0 with
      | error e' => rw [q1] at hX; simp only at hX ⊢; cases hX; rfl
      | ok r1 =>
       rw [q1] at hX; simp only at hX ⊢
       cases q2 : bZ 1 N r1 with
       | error e' => rw [q2] at hX; simp only [rest] at hX ⊢; cases hX; rfl
       | ok q => rw [q2] at hX; simp only [rest] at hX; cases hX
    rw [hse']
    exact ⟨_, _, _, _, e2, s2, fun sets r' h => by cases h⟩
   | ok r2 =>
    rw [hX] at s1
    simp only [isS] at s1 ⊢
    obtain ⟨r0, r1, x', hr0, hr1, hr2⟩ : ∃ r0 r1 x', st1 = .ok r0 ∧ aV [61] r0 = .ok r1 ∧ bZ 1 N r1 = .ok (x', r2) := by
     cases st1 with
     | error e' => simp only [aG, aN] at hX; cases hX
     | ok r0 =>
      simp only [aG, aN] at hX
      cases q1 : aV [61] r0 with
      | error e' => rw [q1] at hX; cases hX
      | ok r1 =>
       rw [q1] at hX; simp only at hX
       cases q2 : bZ 1 N r1 with
       | error e' => rw [q2] at hX; cases hX
       | ok q => rw [q2] at hX; simp only [rest] at hX; cases hX; exact ⟨r0, r1, q.1, rfl, q1, q2⟩
    have hx' : x = x' := v1 r1 x' r2 (by rw [hr0]; simp only [aN, hr1]) hr2
    subst hx'
    rw [hr0] at hse
    simp only [hr1, hr2] at hse
    have hr0r : r0 = r := by rcases hsh with h | ⟨e, h⟩ <;> rw [hr0] at h <;> cases h; rfl
    subst hr0r
    have heR : Pa.Ends r0 := by
     rw [hr0] at hst1
     exact (hst1.ok).choose_spec.choose_spec.choose_spec.2.2.2.1 |> fun h => by
      have := (hst1.ok).choose_spec.choose_spec.choose_spec.2.1
      rw [this]; exact h
    have q1 := gw heR hr1
    have q2 := (j8 q1.1 hr2).1
    have q2' : r2.length < r1.length := q2.2
    have q1' : r1.length < r0.length := q1.2
    cases hc : isH 3 [44] r2
    ·rw [hc] at s1 hse
     simp only [cond_false] at s1 hse
     obtain ⟨a2, b2, p2, e2, s2⟩ := Ad hl N S_ I Q C hC g5 (acc ++ [(cC N t.2.1, x)]) false M' s1 rfl
     rw [hse]
     exact ⟨_, _, _, _, e2, s2, fun sets r' h => by cases h; rfl⟩
    ·rw [hc] at s1 hse
     simp only [cond_true] at s1 hse
     obtain ⟨t1, t2⟩ := iu q2.1 (by decide) hc
     have t2' : r2.tail.length + 1 = r2.length := t2
     have hlen : (acc ++ [(cC N t.2.1, x)]).length = acc.length + 1 := by simp
     simp only [List.length_cons] at h1 h3 h4
     have hb1 : b1 = 0 ∧ p1 = 0 := by obtain ⟨_, _, _, _, h5, h6⟩ := s1; exact ⟨h5, h6⟩
     obtain ⟨rfl, rfl⟩ := hb1
     obtain ⟨a2, C2, b2, p2, e2, s2, v2⟩ := ih r2.tail (acc ++ [(cC N t.2.1, x)]) a1 (M' + 1) f (by omega) (by omega) (by omega) (by rw [hlen]; omega) s1
     rw [hse]
     exact ⟨_, _, _, _, e2, s2, v2⟩
  cases c1 : (t.1 != 1)
  case true =>
   simp only [cond_true, cX, show ((2 : Int) == 0) = false from rfl, cond_false]
   refine step (.error (2, t.2.2.2)) (k : Int) 2 t.2.2.2 ⟨⟨t, hx⟩, rfl, rfl, rfl⟩ (.inr ⟨_, rfl⟩) ?_
   simp only [cK, c1, cond_true]
  simp only [cond_false]
  cases c2 : (decide (cC N t.2.1 < 0) || nU acc (cC N t.2.1))
  case true =>
   simp only [cond_true, cX, show ((3 : Int) == 0) = false from rfl, cond_false]
   refine step (.error (3, t.2.2.2)) (k : Int) 3 t.2.2.2 ⟨⟨t, hx⟩, rfl, rfl, rfl⟩ (.inr ⟨_, rfl⟩) ?_
   simp only [cK, c1, cond_false, c2, cond_true]
  simp only [cond_false, cX, beq_self_eq_true, cond_true, bX (show k < 4611686018427387904 by omega)]
  have ht1 : t.1 = 1 := by simpa using c1
  refine step (.ok r) ((k + 1 : Nat) : Int) 0 0 ⟨k + 1, rfl, hd1, he.tail (by omega), rfl, rfl⟩ (.inl rfl) ?_
  simp only [cK, c1, cond_false, c2]
  all_goals
   cases aV [61] r with
   | error e => rfl
   | ok r1 =>
    simp only
    cases bZ 1 N r1 <;> rfl
include hl htok hnum hN hC in
theorem JW (h : St l st a b p) : ∃ a' C' b' p', db l a N S_ I Q C b p = some (a', C', b', p') ∧
  St l (aN (aN (aG st (bZ 2 N)) (aV [58])) (fun r2 => aN (rest (cK N (r2.length + 1) [] r2)) (aV [59]))) a' b' p' ∧
  (∀ ts g r1 r2 sets r3, st = .ok ts → bZ 2 N ts = .ok (g, r1) → aV [58] r1 = .ok r2 → cK N (r2.length + 1) [] r2 = .ok (sets, r3) → C' = C ++ [(IntKind.i64.wrap ((Q.length : Int) - 1), g, sets)]) := by
 obtain ⟨x, a1, b1, p1, e1, s1, v1⟩ := F2 hl htok hnum N S_ I Q C h hN 2
 obtain ⟨a2, b2, p2, e2, s2⟩ := pP hl N S_ I Q C s1 [58]
 unfold db
 simp only [e1, ai, e2]
 cases hX : aN (aG st (bZ 2 N)) (aV [58]) with
 | error e =>
  rw [hX] at s2
  have hb : (false : Bool) = (b2 == 0) := by rw [s2.2.2.1]; exact s2.2.1.symm
  obtain ⟨a3, b3, p3, e3, s3⟩ := Ad hl N S_ I Q C hC (x, a1, b1, p1) [] true 18446744073709551615 s2 (by rw [← hb]; rfl)
  rw [show au = 18446744073709551615 + 1 from rfl, e3]
  refine ⟨_, _, _, _, rfl, s3, fun ts g r1 r2 sets r3 h1 h2 h3 h4 => ?_⟩
  subst h1
  simp only [aG, aN, h2, rest, h3] at hX
  cases hX
 | ok r2 =>
  rw [hX] at s2
  obtain ⟨k, rfl, hd, he, rfl, rfl⟩ := s2
  have hlen : r2.length ≤ l.length := by rw [← hd]; simp
  obtain ⟨a3, C3, b3, p3, e3, s3, v3⟩ := Nx hl htok hnum N S_ I Q C hN hC (x, a1, b1, p1) r2.length r2 [] (k : Int) au (r2.length + 1) (Nat.le_refl _) (by show _ ≤ 2 ^ 64; omega) (by omega) (by simp; omega) ⟨k, rfl, hd, he, rfl, rfl⟩
  refine ⟨_, _, _, _, e3, s3, fun ts g r1 r2' sets r3 h1 h2 h3 h4 => ?_⟩
  subst h1
  have hx : x = g := v1 ts g r1 rfl h2
  simp only [aG, aN, h2, rest, h3] at hX
  cases hX
  have := v3 sets r3 h4
  rw [this, hx]
include hl htok hnum hN hC in
theorem PG (h : St l st a b p) : ∃ a' C' b' p', dN l a N S_ I Q C b p = some (a', C', b', p') ∧ St l (aG st (gO (N, S_, I, Q, C))) a' b' p' ∧
  (∀ ts m r, st = .ok ts → gO (N, S_, I, Q, C) ts = .ok (m, r) → m = (N, S_, I, Q, C')) := by
 unfold dN
 have key : ∀ (st1 : Except Err (List Tok)) (b1 p1 : Int), St l st1 a b1 p1 → ((∃ e, st1 = .error e ∧ aG st (gO (N, S_, I, Q, C)) = .error e) ∨ (st1 = st ∧ decide (256 ≤ (C.length : Int)) = false)) →
   ∃ a' C' b' p', db l a N S_ I Q C b1 p1 = some (a', C', b', p') ∧ St l (aG st (gO (N, S_, I, Q, C))) a' b' p' ∧
    (∀ ts m r, st = .ok ts → gO (N, S_, I, Q, C) ts = .ok (m, r) → m = (N, S_, I, Q, C')) := by
  intro st1 b1 p1 hs hor
  obtain ⟨a', C', b', p', e1, s1, v1⟩ := JW hl htok hnum N S_ I Q C hN hC hs
  refine ⟨a', C', b', p', e1, ?_, ?_⟩
  ·rcases hor with ⟨e, rfl, he⟩ | ⟨rfl, hd⟩
   ·rw [he]; exact s1
   ·have : aG st1 (gO (N, S_, I, Q, C)) = aN (aN (aG st1 (bZ 2 N)) (aV [58])) (fun r2 => aN (rest (cK N (r2.length + 1) [] r2)) (aV [59])) := by
     cases st1 with
     | error e => rfl
     | ok ts =>
      simp only [aG, aN, gO, hd, cond_false]
      cases bZ 2 N ts with
      | error e => rfl
      | ok q =>
       simp only [rest]
       cases aV [58] q.2 with
       | error e => rfl
       | ok r2 =>
        simp only
        cases cK N (r2.length + 1) [] r2 with
        | error e => rfl
        | ok q3 =>
         simp only
         cases aV [59] q3.2 <;> rfl
    rw [this]; exact s1
  ·intro ts m r h1 h2
   rcases hor with ⟨e, rfl, he⟩ | ⟨rfl, hd⟩
   ·subst h1
    simp only [aG, aN, h2, rest] at he
    cases he
   ·subst h1
    simp only [gO, hd, cond_false] at h2
    cases q1 : bZ 2 N ts with
    | error e => rw [q1] at h2; cases h2
    | ok q =>
     obtain ⟨g, r1⟩ := q
     rw [q1] at h2; simp only at h2
     cases q2 : aV [58] r1 with
     | error e => rw [q2] at h2; cases h2
     | ok r2 =>
      rw [q2] at h2; simp only at h2
      cases q3 : cK N (r2.length + 1) [] r2 with
      | error e => rw [q3] at h2; cases h2
      | ok qq =>
       obtain ⟨sets, r3⟩ := qq
       rw [q3] at h2; simp only at h2
       cases q4 : aV [59] r3 with
       | error e => rw [q4] at h2; cases h2
       | ok r4 =>
        rw [q4] at h2; cases h2
        rw [v1 ts g r1 r2 sets r3 rfl q1 q2 q3]
 cases hd : decide (256 ≤ (List.length C : Int))
 ·simp only [cond_false, aP]
  exact key st b p h (.inr ⟨rfl, hd⟩)
 ·simp only [cond_true, aP]
  obtain ⟨q, e0, v0⟩ := F5 N S_ I Q C h
  rw [e0, ai]
  cases st with
  | ok ts =>
   obtain ⟨k, t, r, rfl, rfl, hd', he, rfl, rfl, hx, _⟩ := h.ok
   rw [kl, ai]
   have hq : q = wA (t :: r) := v0 _ rfl
   refine key (.error (9, q)) 9 q ⟨⟨t, hx⟩, rfl, rfl, rfl⟩ (.inl ⟨_, rfl, ?_⟩)
   simp only [aG, aN, gO, hd, cond_true, rest, hq]
  | error e =>
   have he := h.2.1
   have hcopy := h
   obtain ⟨_, _, rfl, rfl⟩ := hcopy
   rw [qK N S_ I Q C he, ai]
   exact key (.error e) e.1 e.2 h (.inl ⟨e, rfl, rfl⟩)
end
end Sy
end Go.Proofs.YtpnogcmollnjeaaGreatDoor
namespace Go.Proofs.YtpnogcmollnjeaaGreatDoor
namespace Sy
open Pa
theorem Kk : ∀ (f : Nat) (m : Mdl) (ts : List Tok) (p : Mdl × List Tok), Pa.Ends ts → fY f m ts = .ok p → ct ts p.2 := by
 intro f
 induction f with
 | zero => intro _ _ _ _ h; simp [fY] at h
 | succ f ih =>
  intro m ts p he h
  simp only [fY] at h
  cases hc : isH 3 [125] ts
  ·rw [hc] at h
   simp only [cond_false] at h
   cases h1 : gO m ts with
   | error e => rw [h1] at h; cases h
   | ok q =>
    obtain ⟨m', r⟩ := q
    rw [h1] at h
    simp only at h
    have s1 : ct ts r := (Ak he h1).1
    exact s1.trans (ih m' r p s1.1 h)
  ·rw [hc] at h
   cases h
   obtain ⟨h1, h2⟩ := iu he (by decide) hc
   exact ⟨h1, by show ts.tail.length < ts.length; omega⟩
abbrev R8 := Int × List Str × List (Int × Int) × List Int × List Str × List Cmd × Int × Int
abbrev RP := Mdl × Int × Int
section
variable {l : List Tok} (hl : l.length < 1000000000) (htok : ∀ t ∈ l, dQ t) (hnum : ∀ t ∈ l, oV t)
variable {st : Except Err (List Tok)} {a b p : Int} (N : List Str) (S_ : List (Int × Int)) (I : List Int) (Q : List Str)
variable (hN : N.length < 1000000000) (hQ : Q.length < 1000000000)
theorem ve {C : List Cmd} (e1 e2 : Int) (again46 : R8 → Option RP) (nm : Str × Int × Int × Int) (hl : l.length < 1099511627776) (M : Nat) (h : St l st a b p) (en : Bool) (hb : ((b == 0) && !en) = false) :
  ∃ a' b' p', al (dK (l, e1, e2) Q again46 N S_ I nm) (M + 1) (a, C, b, p, en) = again46 (a', N, S_, I, Q ++ [nm.1], C, b', p') ∧ St l (aN st (aV [125])) a' b' p' := by
 obtain ⟨a', b', p', e3, s3⟩ := pP hl N S_ I (Q ++ [nm.1]) C h [125]
 rw [ao]
 simp only [dK, aP, hb, cond_false, e3, ai]
 exact ⟨_, _, _, rfl, s3⟩
include hl htok hnum hN hQ in
theorem NT (e1 e2 : Int) (again46 : R8 → Option RP) (nm : Str × Int × Int × Int) : ∀ (n : Nat) (ts : List Tok) (C : List Cmd) (a : Int) (M f : Nat), ts.length ≤ n → n + 2 ≤ M → ts.length < f → C.length + ts.length < 1099511627776 - 1 → St l (.ok ts) a 0 0 →
  ∃ a' C' b' p', al (dK (l, e1, e2) Q again46 N S_ I nm) M (a, C, 0, 0, isH 3 [125] ts) = again46 (a', N, S_, I, Q ++ [nm.1], C', b', p') ∧
   St l (rest (fY f (N, S_, I, Q ++ [nm.1], C) ts)) a' b' p' ∧ (∀ m r, fY f (N, S_, I, Q ++ [nm.1], C) ts = .ok (m, r) → m = (N, S_, I, Q ++ [nm.1], C') ∧ C'.length + r.length < C.length + ts.length) := by
 have hQ' : (Q ++ [nm.1]).length < 1099511627776 := by simp; omega
 intro n
 induction n with
 | zero =>
  intro ts C a M f h1 _ _ _ hs
  obtain ⟨k, t, r, _, rfl, _⟩ := hs.ok
  simp at h1
 | succ n ih =>
  intro ts C a M f h1 h2 h3 h4 hs
  obtain ⟨M, rfl⟩ : ∃ m, M = m + 1 := ⟨M - 1, by omega⟩
  obtain ⟨f, rfl⟩ : ∃ m, f = m + 1 := ⟨f - 1, by omega⟩
  have hE : Pa.Ends ts := by obtain ⟨_, _, _, h, _⟩ := hs; exact h
  cases hc : isH 3 [125] ts
  · -- a command
   have hsc : fY (f + 1) (N, S_, I, Q ++ [nm.1], C) ts = (match gO (N, S_, I, Q ++ [nm.1], C) ts with | .error e => .error e | .ok (m', r) => fY f m' r) := by
    simp only [fY, hc, cond_false]
    all_goals (cases gO (N, S_, I, Q ++ [nm.1], C) ts <;> rfl)
   obtain ⟨a1, C1, b1, p1, e3, s1, v1⟩ := PG (by omega) htok hnum N S_ I (Q ++ [nm.1]) C (by omega) (by omega) hs
   have e4 := uC N S_ I (Q ++ [nm.1]) C1 s1 3 [125]
   rw [ao]
   simp only [dK, aP, beq_self_eq_true, Bool.not_false, Bool.and_self, cond_true, e3, ai, e4]
   cases hq : gO (N, S_, I, Q ++ [nm.1], C) ts with
   | error e =>
    have hX : aG (.ok ts) (gO (N, S_, I, Q ++ [nm.1], C)) = .error e := by simp only [aG, aN, hq, rest]
    rw [hX] at s1
    simp only [hX, isS]
    obtain ⟨M', rfl⟩ : ∃ m, M = m + 1 := ⟨M - 1, by omega⟩
    have hb1 : (b1 == 0) = false := by rw [s1.2.2.1]; exact s1.2.1
    obtain ⟨a2, b2, p2, e5, s2⟩ := ve N S_ I Q (C := C1) e1 e2 again46 nm (by omega) M' s1 false (by rw [hb1]; rfl)
    rw [hsc, hq]
    exact ⟨_, _, _, _, e5, s2, fun m r h => by cases h⟩
   | ok q =>
    obtain ⟨m', r⟩ := q
    have hX : aG (.ok ts) (gO (N, S_, I, Q ++ [nm.1], C)) = .ok r := by simp only [aG, aN, hq, rest]
    rw [hX] at s1
    simp only [hX, isS]
    have hm' := v1 ts m' r rfl hq
    obtain ⟨sh, g, r1, r2, sets, r3, _, _, _, _, hp, _⟩ := Ak hE hq
    have hC1 : C1 = C ++ [(IntKind.i64.wrap (((Q ++ [nm.1]).length : Int) - 1), g, sets)] := by
     simp only at hp
     rw [hm'] at hp
     simp only [Prod.mk.injEq, true_and] at hp
     exact hp
    have hC1l : C1.length = C.length + 1 := by rw [hC1]; simp
    have shr : r.length < ts.length := sh.2
    have hb1 : b1 = 0 ∧ p1 = 0 := by obtain ⟨_, _, _, _, h5, h6⟩ := s1; exact ⟨h5, h6⟩
    obtain ⟨rfl, rfl⟩ := hb1
    obtain ⟨a2, C2, b2, p2, e5, s2, v2⟩ := ih r C1 a1 M f (by omega) (by omega) (by omega) (by omega) s1
    rw [hsc, hq]
    simp only
    rw [hm']
    exact ⟨_, _, _, _, e5, s2, fun m r' h => ⟨(v2 m r' h).1, by have := (v2 m r' h).2; omega⟩⟩
  ·have hsc : fY (f + 1) (N, S_, I, Q ++ [nm.1], C) ts = .ok ((N, S_, I, Q ++ [nm.1], C), ts.tail) := by simp only [fY, hc, cond_true]
   obtain ⟨a2, b2, p2, e5, s2⟩ := ve N S_ I Q (C := C) e1 e2 again46 nm (by omega) M hs true (by simp)
   rw [hsc]
   refine ⟨_, _, _, _, e5, ?_, fun m r h => by cases h; exact ⟨rfl, by have := (iu hE (by decide) hc).2; omega⟩⟩
   have : aN (.ok ts) (aV [125]) = rest (.ok ((N, S_, I, Q ++ [nm.1], C), ts.tail) : Except Err (Mdl × List Tok)) := by
    obtain ⟨t, r, rfl⟩ := hE.ne
    simp only [aN, aV, rest, List.tail_cons]
    simp only [isH] at hc
    rw [hc]; rfl
   rw [← this]; exact s2
noncomputable def Big (m : Mdl) (ts : List Tok) : Prop := m.1.length + ts.length < 1000000000 ∧ m.2.1.length + ts.length < 1000000000 ∧ m.2.2.1.length + ts.length < 1000000000 ∧ m.2.2.2.1.length + ts.length < 1000000000 ∧ m.2.2.2.2.length + ts.length < 1000000000
theorem zf {e3 e4 : Int} (e1 e2 : Int) (m : Mdl) (h : St l (.error (e3, e4)) a b p) (M : Nat) : al (cN (l, e1, e2)) (M + 1) (a, m.1, m.2.1, m.2.2.1, m.2.2.2.1, m.2.2.2.2, b, p) = some (([], [], [], [], []), e3, e4) := by
 obtain ⟨⟨t, hx⟩, he, rfl, rfl⟩ := h
 rw [ao]
 simp only at he
 have hb : (b != 0) = true := by simp only [bne, he, Bool.not_false]
 simp only [cN, aP, he, gG, Bool.false_and, cond_false, fq, aE, hx, ai, aq, hb, cond_true]
 cases ((List.length m.1 : Int) == 0) <;> rfl
include hl htok hnum in
theorem Mc (e1 e2 : Int) : ∀ (n : Nat) (ts : List Tok) (m : Mdl) (a : Int) (M f : Nat), ts.length ≤ n → n + 2 ≤ M → ts.length < f → Big m ts → St l (.ok ts) a 0 0 →
  al (cN (l, e1, e2)) M (a, m.1, m.2.1, m.2.2.1, m.2.2.2.1, m.2.2.2.2, 0, 0) = some (xD (iZ f m ts)) := by
 intro n
 induction n with
 | zero =>
  intro ts m a M f h1 _ _ _ hs
  obtain ⟨k, t, r, _, rfl, _⟩ := hs.ok
  simp at h1
 | succ n ih =>
  intro ts m a M f h1 h2 h3 hB hs
  obtain ⟨M, rfl⟩ : ∃ m, M = m + 1 := ⟨M - 1, by omega⟩
  obtain ⟨f, rfl⟩ : ∃ m, f = m + 1 := ⟨f - 1, by omega⟩
  obtain ⟨k, t, r, rfl, rfl, hd, he, _, _, hx, hm, hd1, hk⟩ := hs.ok
  obtain ⟨N, S_, I, Q, C⟩ := m
  obtain ⟨B1, B2, B3, B4, B5⟩ := hB
  simp only [List.length_cons] at B1 B2 B3 B4 B5 h1 h3
  have iv := uC N S_ I Q C hs 1 [118, 97, 114]
  have ip := uC N S_ I Q C hs 1 [112, 114, 111, 99]
  rw [ao]
  generalize hag : al (cN (l, e1, e2)) M = again
  simp only [cN, aP, beq_self_eq_true, cd, hx, ai, Bool.true_and]
  have hsi : iZ (f + 1) (N, S_, I, Q, C) (t :: r) = (bif t.1 == 4 then (bif N.isEmpty then .error (2, t.2.2.2) else .ok (N, S_, I, Q, C))
   else bif isT 1 [118, 97, 114] t then (match jk (N, S_, I, Q, C) r with
    | .error e => .error e
    | .ok (m', r') => iZ f m' r')
   else bif isT 1 [112, 114, 111, 99] t then (match kV (N, S_, I, Q, C) r with
    | .error e => .error e
    | .ok (m', r') => iZ f m' r')
   else .error (2, t.2.2.2)) := by
   simp only [iZ]
   all_goals (cases jk (N, S_, I, Q, C) r <;> cases kV (N, S_, I, Q, C) r <;> rfl)
  cases c4 : (t.1 == 4)
  case true =>
   have c4' : (t.1 != 4) = false := by simp only [bne, c4, Bool.not_true]
   rw [hsi, c4]
   simp only [c4', cond_false, cond_true]
   have hne : ((List.length N : Int) == 0) = N.isEmpty := by cases N with
    | nil => rfl
    | cons x r => simp only [List.length_cons, List.isEmpty_cons]; exact beq_eq_false_iff_ne.2 (by omega)
   rw [hne]
   cases N.isEmpty
   ·simp only [cond_false, fq, bne_self_eq_false, xD]
   ·simp only [cond_true, aE, hx, ai, kl, fq, xD]; rfl
  have c4' : (t.1 != 4) = true := by simp only [bne, c4, Bool.not_false]
  simp only [isS, isH] at iv ip
  simp only [c4', cond_true, iv, ip, ai]
  have hE1 : Pa.Ends r := he.tail (by simpa using c4)
  have hs1 : St l (.ok r) ((k + 1 : Nat) : Int) 0 0 := ⟨k + 1, rfl, hd1, hE1, rfl, rfl⟩
  have wk : IntKind.i64.wrap ((k : Int) + 1) = ((k + 1 : Nat) : Int) := bX (by omega)
  obtain ⟨M', hM'⟩ : ∃ m, M = m + 1 := ⟨M - 1, by omega⟩
  cases cv : isT 1 [118, 97, 114] t
  ·cases cp : isT 1 [112, 114, 111, 99] t
   · -- neither
    rw [hsi, c4, cv, cp]
    simp only [cond_false, Bool.not_false, Bool.and_self, cond_true, aE, hx, ai, kl, fv, show ((2 : Int) == 0) = false from rfl, fA, fw, aP]
    rw [← hag, hM']
    exact zf (e3 := 2) (e4 := t.2.2.2) e1 e2 (N, S_, I, Q, C) ⟨⟨t, hx⟩, rfl, rfl, rfl⟩ M'
   · -- a process
    rw [hsi, c4, cv, cp]
    simp only [cond_false, Bool.not_true, Bool.not_false, Bool.and_false, cond_true, fv, beq_self_eq_true, fA, fw, wk, aP]
    obtain ⟨nm, a1, b1, p1, e3, s1, v1⟩ := FX (by omega) N S_ I Q C hs1 (by omega) (by omega) false
    have k1 : ay (List.length Q + List.length ([nm] : List Str)) 16 = true := eI (by simp; omega) (by simp; omega)
    obtain ⟨a2, b2, p2, e4, s2⟩ := pP (by omega) N S_ I (Q ++ [nm]) C s1 [123]
    have e5 := uC N S_ I (Q ++ [nm]) C s2 3 [125]
    simp only [e3, ai, dE k1, e4, e5]
    cases hq : aN (aG (.ok r) (cU false N Q)) (aV [123]) with
    | error e =>
     rw [hq] at s2
     have hb1 : (b2 == 0) = false := by rw [s2.2.2.1]; exact s2.2.1
     obtain ⟨a3, b3, p3, e6, s3⟩ := ve N S_ I Q (C := C) e1 e2 again (nm, a1, b1, p1) (by omega) 18446744073709551615 s2 false (by rw [hb1]; rfl)
     simp only [isS]
     rw [show au = 18446744073709551615 + 1 from rfl, e6]
     have hp : kV (N, S_, I, Q, C) r = .error e := by
      simp only [kV]
      simp only [aG, aN] at hq
      cases q1 : cU false N Q r with
      | error e' => rw [q1] at hq; simp only [rest] at hq ⊢; cases hq; rfl
      | ok q =>
       rw [q1] at hq; simp only [rest] at hq ⊢
       rw [hq]
     rw [hp]
     simp only [aN] at s3
     obtain ⟨ee1, ee2⟩ := e
     rw [← hag, hM']
     exact zf e1 e2 (N, S_, I, Q ++ [nm], C) s3 M'
    | ok r2 =>
     rw [hq] at s2
     obtain ⟨r1, hr1, hr2⟩ : ∃ r1, cU false N Q r = .ok (nm, r1) ∧ aV [123] r1 = .ok r2 := by
      simp only [aG, aN] at hq
      cases q1 : cU false N Q r with
      | error e' => rw [q1] at hq; cases hq
      | ok q =>
       obtain ⟨nm', r1⟩ := q
       rw [q1] at hq; simp only [rest] at hq
       have := v1 r nm' r1 rfl q1
       subst this
       exact ⟨r1, rfl, hq⟩
     have hb : b2 = 0 ∧ p2 = 0 := by obtain ⟨_, _, _, _, h5, h6⟩ := s2; exact ⟨h5, h6⟩
     obtain ⟨rfl, rfl⟩ := hb
     have sh1 := (xH hE1 hr1).1
     have sh2 := gw sh1.1 hr2
     have l1 : r1.length < r.length := sh1.2
     have l2 : r2.length < r1.length := sh2.2
     have hp : kV (N, S_, I, Q, C) r = fY (r2.length + 1) (N, S_, I, Q ++ [nm], C) r2 := by simp only [kV, hr1, hr2]
     have hle : r2.length ≤ l.length := by obtain ⟨k2, _, h, _⟩ := s2; rw [← h]; simp
     obtain ⟨a3, C3, b3, p3, e6, s3, v3⟩ := NT hl htok hnum N S_ I Q (by omega) (by omega) e1 e2 again (nm, a1, b1, p1) r2.length r2 C a2 au (r2.length + 1) (Nat.le_refl _) (by show _ ≤ 2 ^ 64; omega) (by omega) (by omega) s2
     simp only [isS]
     rw [e6, hp]
     cases hcm : fY (r2.length + 1) (N, S_, I, Q ++ [nm], C) r2 with
     | error e =>
      rw [hcm] at s3
      simp only [rest] at s3
      obtain ⟨ee1, ee2⟩ := e
      rw [← hag, hM']
      exact zf e1 e2 (N, S_, I, Q ++ [nm], C3) s3 M'
     | ok q =>
      obtain ⟨m', r'⟩ := q
      rw [hcm] at s3
      simp only [rest] at s3
      obtain ⟨hm', hlen⟩ := v3 m' r' hcm
      have sh3 := Kk _ _ _ _ sh2.1 hcm
      have l3 : r'.length < r2.length := sh3.2
      have hb : b3 = 0 ∧ p3 = 0 := by obtain ⟨_, _, _, _, h5, h6⟩ := s3; exact ⟨h5, h6⟩
      obtain ⟨rfl, rfl⟩ := hb
      simp only
      rw [← hag, hm']
      have hQl : (Q ++ [nm]).length = Q.length + 1 := by simp
      exact ih r' (N, S_, I, Q ++ [nm], C3) a3 M f (by omega) (by omega) (by omega) ⟨by simp only; omega, by simp only; omega, by simp only; omega, by simp only; omega, by simp only; omega⟩ s3
  · -- a variable
   have cp : isT 1 [112, 114, 111, 99] t = false := by
    unfold isT at cv ⊢
    simp only [Bool.and_eq_true, beq_iff_eq] at cv
    rw [cv.2]
    simp
   rw [hsi, c4, cv]
   simp only [cond_false, Bool.not_true, Bool.false_and, cond_true, fv, beq_self_eq_true, fA, cp, wk, aP]
   obtain ⟨a1, N', S', I', b1, p1, e3, s1, v1⟩ := P8 (by omega) N S_ I Q C (by omega) (by omega) (by omega) (by omega) hs1
   simp only [e3, ai, fw, cond_false]
   cases hq : jk (N, S_, I, Q, C) r with
   | error e =>
    simp only [aG, aN, hq, rest] at s1
    obtain ⟨ee1, ee2⟩ := e
    rw [← hag, hM']
    exact zf e1 e2 (N', S', I', Q, C) s1 M'
   | ok q =>
    obtain ⟨m', r'⟩ := q
    simp only [aG, aN, hq, rest] at s1
    have hm' := v1 r m' r' rfl hq
    obtain ⟨sh, name, lo, hi, first, hp, _⟩ := Gj hE1 hq
    have l1 : r'.length < r.length := sh.2
    have hb : b1 = 0 ∧ p1 = 0 := by obtain ⟨_, _, _, _, h5, h6⟩ := s1; exact ⟨h5, h6⟩
    obtain ⟨rfl, rfl⟩ := hb
    simp only
    simp only at hp
    rw [hm'] at hp
    simp only [Prod.mk.injEq, and_true] at hp
    obtain ⟨hp1, hp2, hp3⟩ := hp
    have q1 : N'.length = N.length + 1 := by rw [hp1]; simp
    have q2 : S'.length = S_.length + 1 := by rw [hp2]; simp
    have q3 : I'.length = I.length + 1 := by rw [hp3]; simp
    rw [← hag, hm']
    exact ih r' (N', S', I', Q, C) a1 M f (by omega) (by omega) (by omega) ⟨by simp only; omega, by simp only; omega, by simp only; omega, by simp only; omega, by simp only; omega⟩ s1
end
theorem LL {text : Str} {l : List Tok} (ht : dm text = some (l, 0, 0)) (hl : l.length < 500000000) (htok : ∀ t ∈ l, dQ t) (hnum : ∀ t ∈ l, oV t) (he : Pa.Ends l) :
  cQ text = some (xD (sys l)) := by
 unfold cQ
 rw [ht, ai]
 simp only [bne_self_eq_false, cond_false]
 exact Mc (by omega) htok hnum 0 0 l.length l ([], [], [], [], []) 0 au (l.length + 1) (Nat.le_refl _) (by show _ ≤ 2 ^ 64; omega) (by omega) ⟨by simp; omega, by simp; omega, by simp; omega, by simp; omega, by simp; omega⟩ ⟨0, rfl, rfl, he, rfl, rfl⟩
end Sy
end Go.Proofs.YtpnogcmollnjeaaGreatDoor
namespace Go.Proofs.YtpnogcmollnjeaaGreatDoor
namespace Sy
open Pa
theorem Li (text : Str) : cQ text = some (xD (yj text)) := by
 unfold yj
 by_cases h : 65536 < text.length
 ·rw [if_pos h]
  unfold cQ
  rw [Lx.vt]
  unfold Lx.tokens
  rw [if_pos h]
  rfl
 ·rw [if_neg h]
  have ht : dm text = some (Lx.res (Lx.lex text)) := by rw [Lx.vt, Lx.Hm (by omega)]
  cases hl : Lx.lex text with
  | ok l =>
   rw [hl] at ht
   have hg := DP hl
   exact LL ht (by have := hg.len; omega) hg.ok hg.num hg.ends
  | error e =>
   rw [hl] at ht
   have hne : (e.1 != 0) = true := bne_iff_ne.2 (Ez _ _ _ _ hl)
   unfold cQ
   rw [ht, ai]
   simp only [Lx.res, hne, cond_true, xD]
end Sy
end Go.Proofs.YtpnogcmollnjeaaGreatDoor
namespace Go.Proofs.YtpnogcmollnjeaaGreatDoor
namespace Sp
theorem GF (d : Nat) (h : d < 10) : Lx.dig (UInt8.ofNat (48 + d)) = d ∧ Lx.isDigit (UInt8.ofNat (48 + d)) = true := by
 have : d = 0 ∨ d = 1 ∨ d = 2 ∨ d = 3 ∨ d = 4 ∨ d = 5 ∨ d = 6 ∨ d = 7 ∨ d = 8 ∨ d = 9 := by omega
 rcases this with rfl | rfl | rfl | rfl | rfl | rfl | rfl | rfl | rfl | rfl <;> exact ⟨rfl, rfl⟩
theorem x4 : ∀ (N n : Nat), n ≤ N → Lx.dp 0 (Lib.decDigits n) = n ∧ (Lib.decDigits n).all Lx.isDigit = true ∧ Lib.decDigits n ≠ [] := by
 intro N
 induction N with
 | zero =>
  intro n h
  obtain rfl : n = 0 := by omega
  rw [Lib.decDigits, dif_pos (by omega)]
  exact ⟨rfl, rfl, by simp⟩
 | succ N ih =>
  intro n h
  rw [Lib.decDigits]
  split
  ·rename_i hn
   obtain ⟨h1, h2⟩ := GF n hn
   refine ⟨?_, by simp only [List.all_cons, h2, List.all_nil, Bool.and_self], by simp⟩
   show 10 * 0 + Lx.dig (UInt8.ofNat (48 + n)) = n
   rw [h1]; omega
  ·rename_i hn
   obtain ⟨h1, h2⟩ := GF (n % 10) (by omega)
   obtain ⟨i1, i2, _⟩ := ih (n / 10) (by omega)
   refine ⟨?_, by simp only [List.all_append, i2, List.all_cons, h2, List.all_nil, Bool.and_self], by simp⟩
   unfold Lx.dp at *
   rw [List.foldl_append, i1]
   show 10 * ((n / 10 : Nat) : Int) + Lx.dig (UInt8.ofNat (48 + n % 10)) = n
   rw [h1]; omega
theorem Gw {m n : Nat} (h : Lib.decDigits m = Lib.decDigits n) : m = n := by
 have h1 := (x4 m m (Nat.le_refl _)).1
 have h2 := (x4 n n (Nat.le_refl _)).1
 rw [h, h2] at h1
 omega
theorem xA {c : UInt8} (h : Lx.isDigit c = true) : c ≠ 45 ∧ c ≠ 32 := by
 constructor <;> (intro e; subst e; cases h)
theorem zK (n : Nat) : ∀ c ∈ Lib.decDigits n, Lx.isDigit c = true := fun c hc => List.all_eq_true.1 (x4 n n (Nat.le_refl _)).2.1 c hc
theorem Me {x y : Int} (h : Lib.itoa x = Lib.itoa y) : x = y := by
 have hh : ∀ (m n : Nat), Lib.decDigits m ≠ 45 :: Lib.decDigits n := fun m n e => by
  have := zK m 45 (by rw [e]; simp)
  exact (xA this).1 rfl
 unfold Lib.itoa at h
 split at h <;> split at h
 ·have := Gw (List.cons.inj h).2
  omega
 ·exact absurd h.symm (hh _ _)
 ·exact absurd h (hh _ _)
 ·have := Gw h
  omega
theorem Bk (x : Int) : ∀ c ∈ Lib.itoa x, c ≠ 32 := by
 intro c hc
 unfold Lib.itoa at hc
 split at hc
 ·rcases List.mem_cons.1 hc with rfl | hc
  ·decide
  ·exact (xA (zK _ c hc)).2
 ·exact (xA (zK _ c hc)).2
theorem sG : ∀ (k u : Nat), u < 10 ^ (k + 1) → Lib.nDigits u ≤ k + 1
 | 0, u, h => by rw [Lib.nDigits_small (by simpa using h)]; omega
 | k + 1, u, h => by
  by_cases hu : u < 10
  ·rw [Lib.nDigits_small hu]; omega
  ·rw [Lib.nDigits_big hu]
   have := sG k (u / 10) (by rw [Nat.div_lt_iff_lt_mul (by omega), ← Nat.pow_succ]; exact h)
   omega
theorem A4 {n : Int} (h0 : -9223372036854775808 ≤ n) (h1 : n ≤ 9223372036854775807) : (Lib.itoa n).length ≤ 20 := by
 unfold Lib.itoa
 split
 ·rw [List.length_cons, Lib.decDigits_length]
  have := sG 18 n.natAbs (by omega)
  omega
 ·rw [Lib.decDigits_length]
  have := sG 18 n.toNat (by omega)
  omega
noncomputable def dj (v : List Int) : Str := v.flatMap fun n => Lib.itoa n ++ [32]
theorem Nb {a b r s : Str} (ha : ∀ c ∈ a, c ≠ 32) (hb : ∀ c ∈ b, c ≠ 32) (h : a ++ 32 :: r = b ++ 32 :: s) : a = b ∧ r = s := by
 induction a generalizing b with
 | nil =>
  cases b with
  | nil => simp only [List.nil_append, List.cons.injEq, true_and] at h; exact ⟨rfl, h⟩
  | cons c b => simp only [List.nil_append, List.cons_append, List.cons.injEq] at h; exact absurd h.1.symm (hb c (by simp))
 | cons c a ih =>
  cases b with
  | nil => simp only [List.nil_append, List.cons_append, List.cons.injEq] at h; exact absurd h.1 (ha c (by simp))
  | cons d b =>
   simp only [List.cons_append, List.cons.injEq] at h
   obtain ⟨rfl, h⟩ := h
   obtain ⟨rfl, h2⟩ := ih (fun c hc => ha c (List.mem_cons_of_mem _ hc)) (fun c hc => hb c (List.mem_cons_of_mem _ hc)) h
   exact ⟨rfl, h2⟩
theorem CW : ∀ {a b : List Int}, dj a = dj b → a = b
 | [], [], _ => rfl
 | [], y :: b, h => by
  simp only [dj, List.flatMap_nil, List.flatMap_cons] at h
  have := congrArg List.length h
  simp at this
 | x :: a, [], h => by
  simp only [dj, List.flatMap_nil, List.flatMap_cons] at h
  have := congrArg List.length h
  simp at this
 | x :: a, y :: b, h => by
  simp only [dj, List.flatMap_cons, List.append_assoc, List.singleton_append] at h
  obtain ⟨h1, h2⟩ := Nb (Bk x) (Bk y) h
  rw [Me h1, CW h2]
theorem K2 (a b : List Int) : dj (a ++ b) = dj a ++ dj b := by simp [dj]
theorem BX (s : Str) : strOf (bytesOf s) = s := by
 induction s with
 | nil => rfl
 | cons c s ih =>
  simp only [strOf, bytesOf, List.map_cons, List.map_map] at ih ⊢
  rw [ih]; simp
theorem xk (a b : Str) : bytesOf (a ++ b) = bytesOf a ++ bytesOf b := by simp [bytesOf]
theorem n5 (s : Str) : (bytesOf s).length = s.length := by simp [bytesOf]
noncomputable def I64 (v : List Int) : Prop := ∀ n ∈ v, -9223372036854775808 ≤ n ∧ n ≤ 9223372036854775807
theorem Ld {v : List Int} (h : I64 v) : (dj v).length ≤ 21 * v.length := by
 induction v with
 | nil => simp [dj]
 | cons n v ih =>
  have h1 := h n (by simp)
  have := A4 h1.1 h1.2
  have := ih (fun m hm => h m (List.mem_cons_of_mem _ hm))
  simp only [dj, List.flatMap_cons, List.length_append, List.length_cons, List.length_nil] at *
  omega
theorem copy_eq (f : Bool) (l : List Int) : dX f l = some true := by cases f <;> rfl
theorem Qg {s : Str} {l : List Int} (f : Bool) (h : l.length + s.length ≤ 140737488355328) : dD s f l = some ((s.length : Int), true, l ++ bytesOf s) := by
 unfold dD
 rw [copy_eq, ai, Sy.dE (Sy.eI (by omega) (by omega))]
theorem Qw {l : List Int} (c : Int) (f : Bool) (h : l.length + 1 ≤ 140737488355328) : dZ c f l = some (true, l ++ [c]) := by
 unfold dZ
 rw [copy_eq, ai, Sy.dE (Sy.eI (by simp; omega) (by simp; omega))]
theorem JA (f : Bool) {s : Str} (h : bytesOf s ≠ []) : fz f (bytesOf s) = some s := by
 have e : strOf (bytesOf s) = s := BX s
 cases hb : bytesOf s with
 | nil => exact absurd hb h
 | cons c l =>
  rw [hb] at e
  unfold fz
  rw [show idx (c :: l) 0 = some c from rfl, ai, Sy.dE (by simp), e]
theorem P3 {x : Int} (h : zZ x = true) : Ck x = some (Lib.itoa x) := Sy.dE h _
theorem Bo (v : List Int) (hv : I64 v) (hl : v.length < 1000000000) (hne : v ≠ []) : ∀ (r pre : List Int), v = pre ++ r → ∀ (M : Nat) (f : Bool), r.length < M →
  al (mf v) M (f, bytesOf (dj pre), (pre.length : Int)) = some (dj v)
 | [], pre, h, M, f, hM => by
  obtain ⟨m, rfl⟩ : ∃ m, M = m + 1 := ⟨M - 1, by simp at hM; omega⟩
  rw [ao]
  have e : pre = v := by simpa using h.symm
  subst e
  simp only [mf, decide_eq_false (show ¬ ((pre.length : Int) < (List.length pre : Int)) by omega), cond_false]
  rw [JA, ai]
  cases pre with
  | nil => exact absurd rfl hne
  | cons x r =>
   intro e
   have : (bytesOf (dj (x :: r))).length ≠ 0 := by rw [n5]; simp [dj]
   rw [e] at this
   exact this rfl
 | x :: r, pre, h, M, f, hM => by
  obtain ⟨m, rfl⟩ : ∃ m, M = m + 1 := ⟨M - 1, by omega⟩
  rw [ao]
  have hx := hv x (by rw [h]; simp)
  have hlen : pre.length + r.length + 1 = v.length := by rw [h]; simp; omega
  have hi : zZ x = true := EN.2 hx
  have hp : I64 pre := fun n hn => hv n (by rw [h]; exact List.mem_append_left _ hn)
  have hb := Ld hp
  have hxl := A4 hx.1 hx.2
  have ih := Bo v hv hl hne r (pre ++ [x]) (by rw [h]; simp) m true (by simp at hM; omega)
  rw [show ((pre ++ [x]).length : Int) = ((pre.length + 1 : Nat) : Int) by simp] at ih
  have e1 : bytesOf (dj (pre ++ [x])) = (bytesOf (dj pre) ++ bytesOf (Lib.itoa x)) ++ [32] := by
   rw [K2, xk]
   simp only [dj, List.flatMap_cons, List.flatMap_nil, List.append_nil, xk, List.append_assoc]
   rfl
  rw [e1] at ih
  simp only [mf, Sy.iL h, cond_true, Sy.mid h, ai, P3 hi]
  rw [Qg f (by rw [n5]; omega), ai]
  simp only
  rw [Qw 32 true (by rw [List.length_append, n5, n5]; omega), ai]
  simp only [Pa.bX (show pre.length < 4611686018427387904 by omega)]
  exact ih
theorem NQ {v : List Int} (hv : I64 v) (hl : v.length < 1000000000) (hne : v ≠ []) : vN v = some (dj v) :=
 Bo v hv hl hne v [] rfl au false (by show v.length < 2 ^ 64; omega)
/-! sets of states -/
noncomputable def nH (l : List (List Int)) (v : List Int) : List (List Int) := if l.contains v then l else l ++ [v]
noncomputable def ss (acc l : List (List Int)) : List (List Int) := l.foldl nH acc
noncomputable def Seen (l : List (List Int)) (at_ : Option (List (Str × Bool))) : Prop := (at_ = none → l = []) ∧ ∀ v, kY at_ (dj v) false = l.contains v
theorem KG : Seen [] none := ⟨fun _ => rfl, fun _v => rfl⟩
theorem Ix (l : List (Str × Bool)) (k k' : Str) : (mN (mG l k true) k').getD false = ((k' == k) || (mN l k').getD false) := by
 induction l with
 | nil =>
  simp only [mG, mN]
  cases hk : (k' == k) <;> rfl
 | cons p l ih =>
  simp only [mG]
  cases h1 : (k == p.1)
  ·simp only [cond_false, mN]
   cases h2 : (k' == p.1)
   ·simp only [cond_false]; exact ih
   ·simp only [cond_true]
    have e1 : k' = p.1 := by simpa using h2
    have e2 : (k' == k) = false := by
     rw [beq_eq_false_iff_ne] at h1 ⊢
     intro e; exact h1 (by rw [← e, e1])
    rw [e2, Bool.false_or]
  ·simp only [cond_true, mN]
   have e1 : k = p.1 := by simpa using h1
   cases h2 : (k' == k)
   ·simp only [cond_false, Bool.false_or]
    have : (k' == p.1) = false := by rw [← e1]; exact h2
    rw [this]; rfl
   ·rfl
theorem add_eq {v : List Int} {l : List (List Int)} {at_ : Option (List (Str × Bool))} (hv : I64 v) (hl : v.length < 1000000000) (hne : v ≠ []) (hll : l.length < 1000000000) (hs : Seen l at_) :
  ∃ at', fK v l at_ = some (nH l v, at') ∧ Seen (nH l v) at' := by
 have k1 : ay (List.length l + List.length ([v] : List (List Int))) 24 = true := Sy.eI (by simp; omega) (by simp; omega)
 have key : ∀ mp : List (Str × Bool), Seen l (some mp) → ∃ at', lv v l (some mp) = some (nH l v, at') ∧ Seen (nH l v) at' := fun mp hs => by
  unfold lv
  rw [NQ hv hl hne, ai, hs.2 v]
  unfold nH
  cases hc : l.contains v
  ·simp only [Bool.not_false, cond_true, ai, Sy.dE k1, Bool.false_eq_true, if_false]
   refine ⟨_, rfl, (fun h => by cases h), fun u => ?_⟩
   have h1 := hs.2 u
   unfold kY at h1 ⊢
   simp only [Option.getD_some] at h1 ⊢
   rw [Ix, h1]
   have e : (dj u == dj v) = (u == v) := by
    by_cases h : u = v
    ·rw [h]; simp
    ·rw [beq_eq_false_iff_ne.2 h, beq_eq_false_iff_ne.2 (fun e => h (CW e))]
   rw [e]
   simp only [List.contains_eq_any_beq, List.any_append, List.any_cons, List.any_nil, Bool.or_false]
   rw [Bool.or_comm]
  ·simp only [Bool.not_true, cond_false, if_true]
   exact ⟨_, rfl, hs⟩
 unfold fK
 cases at_ with
 | none =>
  simp only [Option.isNone_none, cond_true]
  refine key [] ⟨(fun h => by cases h), fun u => ?_⟩
  exact hs.2 u
 | some mp =>
  simp only [Option.isNone_some, cond_false]
  exact key mp hs
theorem CD (l : List (List Int)) (v : List Int) : (nH l v).length ≤ l.length + 1 := by
 unfold nH; split <;> simp
theorem Mh {l : List (List Int)} {v u : List Int} : u ∈ nH l v ↔ u ∈ l ∨ u = v := by
 unfold nH
 split
 ·rename_i h
  have : v ∈ l := by simpa using h
  constructor
  ·exact .inl
  ·rintro (h | rfl)
   ·exact h
   ·exact this
 ·simp
theorem CX : ∀ (m l : List (List Int)), (ss l m).length ≤ l.length + m.length
 | [], l => by simp [ss]
 | v :: m, l => by
  have := CX m (nH l v)
  have := CD l v
  simp only [ss, List.foldl_cons, List.length_cons] at *
  omega
theorem Cy {u : List Int} : ∀ {m l : List (List Int)}, u ∈ ss l m ↔ u ∈ l ∨ u ∈ m
 | [], l => by simp [ss]
 | v :: m, l => by
  have := Cy (u := u) (m := m) (l := nH l v)
  simp only [ss, List.foldl_cons] at *
  rw [this, Mh]
  simp only [List.mem_cons]
  constructor
  ·rintro ((h | h) | h)
   ·exact .inl h
   ·exact .inr (.inl h)
   ·exact .inr (.inr h)
  ·rintro (h | h | h)
   ·exact .inl (.inl h)
   ·exact .inl (.inr h)
   ·exact .inr h
end Sp
end Go.Proofs.YtpnogcmollnjeaaGreatDoor
namespace Go.Proofs.YtpnogcmollnjeaaGreatDoor
namespace Sp
noncomputable def fits : List (Int × Int) → List Int → Bool
 | s :: S, n :: w => (decide (s.1 ≤ n) && decide (n ≤ s.2)) && fits S w
 | _, _ => true
noncomputable def zM (v w : List Int) (s : Int × Ex) : List Int := w.set s.1.toNat (ev v s.2)
noncomputable def Ic (v : List Int) (c : Sy.Cmd) : List Int := c.2.2.foldl (zM v) v
theorem EI (v w : List Int) (s : Int × Ex) : (zM v w s).length = w.length := by simp [zM]
theorem BD (v : List Int) : ∀ (l : List (Int × Ex)) (w : List Int), (l.foldl (zM v) w).length = w.length
 | [], w => rfl
 | s :: l, w => by rw [List.foldl_cons, BD v l, EI]
theorem IG (v : List Int) (c : Sy.Cmd) : (Ic v c).length = v.length := BD _ _ _
noncomputable def fin (S : List (Int × Int)) (w : List Int) : List Int × Int := bif fits S w then (w, 0) else ([], 6)
noncomputable def enI (v : List Int) : Nat → List Sy.Cmd → List Int
 | _, [] => []
 | k, c :: r => if ev v c.2.1 = 1 then (k : Int) :: enI v (k + 1) r else enI v (k + 1) r
noncomputable def enC (v : List Int) (l : List Sy.Cmd) : List Sy.Cmd := l.filter fun c => decide (ev v c.2.1 = 1)
noncomputable def gW (cmds : List Sy.Cmd) (v : List Int) (i : Int) : List Int := match cmds[i.toNat]? with | some c => Ic v c | none => v
noncomputable def HQ (S : List (Int × Int)) (cmds : List Sy.Cmd) (v : List Int) (k : Int) : List Int × Int :=
 if k < 0 ∨ (cmds.length : Int) ≤ k then ([], 10) else fin S (gW cmds v k)
noncomputable def goes (v : List Int) (cmds : List Sy.Cmd) : List (List Int) := (enC v cmds).map (Ic v)
noncomputable def HK (S : List (Int × Int)) (v : List Int) (ws : List (List Int)) : List (List Int) × Int :=
 if ws = [] then ([v], 0) else bif ws.all (fits S) then (ss [] ws, 0) else ([], 6)
noncomputable def uv (S : List (Int × Int)) (cmds : List Sy.Cmd) (v : List Int) : List (List Int) × Int := HK S v (goes v cmds)
structure SafeS (S : List (Int × Int)) (C : List Sy.Cmd) : Prop where
 pos : 1 ≤ S.length
 few : S.length ≤ 16
 field : ∀ f ∈ S, Sy.wg f
 cmds : C.length ≤ 300
 guard : ∀ c ∈ C, c.2.1.sz < 1000000
 sets : ∀ c ∈ C, c.2.2.length ≤ 65537 ∧ ∀ s ∈ c.2.2, 0 ≤ s.1 ∧ s.1 < S.length ∧ s.2.sz < 1000000
structure InS (S : List (Int × Int)) (v : List Int) : Prop where
 len : v.length = S.length
 fit : fits S v = true
theorem ED : ∀ {S : List (Int × Int)} {v : List Int}, v.length = S.length → (∀ f ∈ S, Sy.wg f) → fits S v = true → I64 v
 | [], [], _, _, _ => fun n hn => by cases hn
 | [], _ :: _, h, _, _ => by simp at h
 | _ :: _, [], h, _, _ => by simp at h
 | s :: S, x :: w, h, hS, hf => by
  simp only [fits, Bool.and_eq_true, decide_eq_true_eq] at hf
  have h1 := hS s (by simp)
  intro n hn
  rcases List.mem_cons.1 hn with rfl | hn
  ·have := h1.lo; have := h1.hi; omega
  ·exact ED (by simpa using h) (fun f hf => hS f (List.mem_cons_of_mem _ hf)) hf.2 n hn
theorem InS.i64 {S : List (Int × Int)} {cmds : List Sy.Cmd} {v : List Int} (h : InS S v) (hs : SafeS S cmds) : I64 v := ED h.len hs.field h.fit
theorem InS.ne {S : List (Int × Int)} {cmds : List Sy.Cmd} {v : List Int} (h : InS S v) (hs : SafeS S cmds) : v ≠ [] := fun e => by
 have := h.len; have := hs.pos; subst e; simp at *; omega
theorem InS.short {S : List (Int × Int)} {cmds : List Sy.Cmd} {v : List Int} (h : InS S v) (hs : SafeS S cmds) : v.length < 1000000000 := by
 have := h.len; have := hs.few; omega
/-! within the ranges -/
theorem Py (s : Int × Int) (n : Int) : jO s n = some (decide (s.1 ≤ n) && decide (n ≤ s.2)) := rfl
theorem Gh (S : List (Int × Int)) (w : List Int) : ∀ (r pre : List Int) (rs ps : List (Int × Int)), w = pre ++ r → S = ps ++ rs → ps.length = pre.length → rs.length = r.length → w.length < 1000 →
  ∀ M, r.length < M → al (jN S w) M (pre.length : Int) = some (bif fits rs r then 0 else 5)
 | [], pre, rs, ps, h, hS, hl, hr, hw, M, hM => by
  obtain ⟨m, rfl⟩ : ∃ m, M = m + 1 := ⟨M - 1, by simp at hM; omega⟩
  rw [ao]
  simp only [jN, Sy.ku h, cond_false]
  have : rs = [] := List.eq_nil_of_length_eq_zero hr
  subst this; rfl
 | x :: r, pre, [], ps, h, hS, hl, hr, hw, M, hM => by simp at hr
 | x :: r, pre, s :: rs, ps, h, hS, hl, hr, hw, M, hM => by
  obtain ⟨m, rfl⟩ : ∃ m, M = m + 1 := ⟨M - 1, by omega⟩
  rw [ao]
  have e1 : idx S (pre.length : Int) = some s := by rw [← hl]; exact Sy.mid hS
  have hlen : pre.length + r.length + 1 = w.length := by rw [h]; simp; omega
  have ih := Gh S w r (pre ++ [x]) rs (ps ++ [s]) (by rw [h]; simp) (by rw [hS]; simp) (by simp; omega) (by simpa using hr) hw m (by simp at hM; omega)
  rw [show ((pre ++ [x]).length : Int) = ((pre.length + 1 : Nat) : Int) by simp] at ih
  simp only [jN, Sy.iL h, cond_true, Sy.mid h, ai, e1, Py, Pa.bX (show pre.length < 4611686018427387904 by omega), ih, fits]
  cases h1 : (decide (s.1 ≤ x) && decide (x ≤ s.2))
  ·rfl
  ·simp only [Bool.not_true, cond_false, Bool.true_and]
theorem MZ (S : List (Int × Int)) (w : List Int) (hl : w.length = S.length) (hw : w.length < 1000) : gq S w = some (bif fits S w then 0 else 5) := by
 unfold gq
 rw [show ((List.length w : Int) != (List.length S : Int)) = false by rw [hl]; simp, cond_false]
 exact Gh S w w [] S [] rfl rfl rfl hl.symm hw au (by show w.length < 2 ^ 64; omega)
/-! a fired command -/
theorem ER {α : Type} (l : List α) (i : Int) (h0 : 0 ≤ i) (h1 : i < l.length) : ∃ x, idx l i = some x ∧ l[i.toNat]? = some x := by
 have h : i.toNat < l.length := by omega
 refine ⟨l[i.toNat], ?_, List.getElem?_eq_getElem h⟩
 unfold idx
 rw [if_pos h0]
 exact List.getElem?_eq_getElem h
theorem AU (m : Sy.Mdl) (v : List Int) (e : Sy.Cmd) (hn : v.length = m.2.1.length) (hv : v.length < 1000) (he : e.2.2.length ≤ 65537) (hs : ∀ s ∈ e.2.2, 0 ≤ s.1 ∧ s.1 < m.2.1.length ∧ s.2.sz < 1000000) :
  ∀ (r pre : List (Int × Ex)), e.2.2 = pre ++ r → ∀ (w : List Int) (M : Nat), w.length = v.length → r.length < M →
   al (nb m v e) M (w, (pre.length : Int)) = some (fin m.2.1 (r.foldl (zM v) w))
 | [], pre, h, w, M, hw, hM => by
  obtain ⟨k, rfl⟩ : ∃ k, M = k + 1 := ⟨M - 1, by simp at hM; omega⟩
  rw [ao]
  simp only [nb, Sy.ku h, cond_false, List.foldl_nil, fin]
  rw [MZ m.2.1 w (by omega) (by omega), ai]
  cases hf : fits m.2.1 w <;> rfl
 | s :: r, pre, h, w, M, hw, hM => by
  obtain ⟨k, rfl⟩ : ∃ k, M = k + 1 := ⟨M - 1, by omega⟩
  rw [ao]
  obtain ⟨h0, h1, h2⟩ := hs s (by rw [h]; simp)
  have hlen : pre.length + r.length + 1 = e.2.2.length := by rw [h]; simp; omega
  obtain ⟨x, hx, _⟩ := ER w s.1 h0 (by omega)
  have ih := AU m v e hn hv he hs r (pre ++ [s]) (by rw [h]; simp) (zM v w s) k (by rw [EI, hw]) (by simp at hM; omega)
  rw [show ((pre ++ [s]).length : Int) = ((pre.length + 1 : Nat) : Int) by simp] at ih
  simp only [nb, Sy.iL h, cond_true, Sy.mid h, ai]
  rw [Ao s.2 (by omega) v]
  simp only [ai, hx, Pa.bX (show pre.length < 4611686018427387904 by omega)]
  exact ih
theorem El (v : List Int) (h : v.length < 1000000000) : bS v = some v := by
 unfold bS
 rw [Sy.dE (Sy.eI (by simp; omega) (by simp; omega)), List.nil_append]
 cases v with
 | nil => simp [AI, both]
 | cons x r => rfl
theorem Nl {m : Sy.Mdl} {v : List Int} (hm : SafeS m.2.1 m.2.2.2.2) (hn : v.length = m.2.1.length) (k : Int) : rq m v k = some (HQ m.2.1 m.2.2.2.2 v k) := by
 have hv : v.length < 1000 := by have := hm.few; omega
 unfold rq
 simp only [aP]
 unfold HQ
 by_cases hk : k < 0 ∨ (m.2.2.2.2.length : Int) ≤ k
 ·rw [if_pos hk]
  rw [show (decide (k < 0) || decide ((List.length m.2.2.2.2 : Int) ≤ k)) = true by rw [Bool.or_eq_true, decide_eq_true_eq, decide_eq_true_eq]; exact hk, cond_true]
 ·rw [if_neg hk]
  rw [show (decide (k < 0) || decide ((List.length m.2.2.2.2 : Int) ≤ k)) = false by rw [Bool.eq_false_iff]; intro h; rw [Bool.or_eq_true, decide_eq_true_eq, decide_eq_true_eq] at h; exact hk h, cond_false]
  obtain ⟨c, hc, hc2⟩ := ER m.2.2.2.2 k (by omega) (by omega)
  rw [El v (by omega), ai, hc, ai]
  have hmem : c ∈ m.2.2.2.2 := List.mem_of_getElem? hc2
  have := AU m v c hn hv (hm.sets c hmem).1 (hm.sets c hmem).2 c.2.2 [] rfl v au rfl (by have := (hm.sets c hmem).1; show _ < 2 ^ 64; omega)
  rw [show (0 : Int) = ((([] : List (Int × Ex)).length : Nat) : Int) from rfl, this]
  unfold gW
  rw [hc2]
  rfl
/-! the commands that may fire -/
theorem Gz (m : Sy.Mdl) (v : List Int) (hm : SafeS m.2.1 m.2.2.2.2) : ∀ (r pre : List Sy.Cmd), m.2.2.2.2 = pre ++ r → ∀ (out : List Int) (M : Nat), out.length ≤ pre.length → r.length < M →
  al (jM m v) M (out, (pre.length : Int)) = some (out ++ enI v pre.length r)
 | [], pre, h, out, M, ho, hM => by
  obtain ⟨k, rfl⟩ : ∃ k, M = k + 1 := ⟨M - 1, by simp at hM; omega⟩
  rw [ao]
  simp only [jM, Sy.ku h, cond_false, enI, List.append_nil]
 | c :: r, pre, h, out, M, ho, hM => by
  obtain ⟨k, rfl⟩ : ∃ k, M = k + 1 := ⟨M - 1, by omega⟩
  rw [ao]
  have hlen : pre.length + r.length + 1 = m.2.2.2.2.length := by rw [h]; simp; omega
  have h3 := hm.cmds
  have hg := hm.guard c (by rw [h]; simp)
  simp only [jM, Sy.iL h, cond_true, Sy.mid h, ai]
  rw [Ao c.2.1 (by omega) v, ai]
  have ih := fun out ho => Gz m v hm r (pre ++ [c]) (by rw [h]; simp) out k ho (by simp at hM; omega)
  rw [show ((pre ++ [c]).length : Int) = ((pre.length + 1 : Nat) : Int) by simp, show (pre ++ [c]).length = pre.length + 1 by simp] at ih
  simp only [Pa.bX (show pre.length < 4611686018427387904 by omega), enI]
  by_cases he : ev v c.2.1 = 1
  ·rw [if_pos he, show (ev v c.2.1 == 1) = true by simpa using he, cond_true, Sy.dE (Sy.eI (by simp; omega) (by simp; omega)), ih _ (by simp; omega), List.append_assoc]
   rfl
  ·rw [if_neg he, show (ev v c.2.1 == 1) = false by simpa using he, cond_false, ih _ (by omega)]
theorem QH {m : Sy.Mdl} {v : List Int} (hm : SafeS m.2.1 m.2.2.2.2) : qD m v = some (enI v 0 m.2.2.2.2) :=
 Gz m v hm m.2.2.2.2 [] rfl [] au (Nat.le_refl _) (by have := hm.cmds; show _ < 2 ^ 64; omega)
theorem zG (v : List Int) : ∀ (r : List Sy.Cmd) (k : Nat), (enI v k r).length = (enC v r).length
 | [], k => rfl
 | c :: r, k => by
  unfold enI enC
  rw [List.filter_cons]
  by_cases he : ev v c.2.1 = 1
  ·rw [if_pos he, if_pos (by simpa using he), List.length_cons, List.length_cons, zG v r]; rfl
  ·rw [if_neg he, if_neg (by simpa using he), zG v r]; rfl
theorem F6 {v : List Int} {i : Int} : ∀ {r : List Sy.Cmd} {k : Nat}, i ∈ enI v k r → ∃ (j : Nat) (c : Sy.Cmd), i = ((k + j : Nat) : Int) ∧ r[j]? = some c ∧ ev v c.2.1 = 1
 | [], k, h => by simp [enI] at h
 | c :: r, k, h => by
  unfold enI at h
  have rec_ : i ∈ enI v (k + 1) r → ∃ (j : Nat) (d : Sy.Cmd), i = ((k + j : Nat) : Int) ∧ (c :: r)[j]? = some d ∧ ev v d.2.1 = 1 := fun h => by
   obtain ⟨j, d, h1, h2, h3⟩ := F6 h
   exact ⟨j + 1, d, by rw [h1]; omega, by simpa using h2, h3⟩
  by_cases he : ev v c.2.1 = 1
  ·rw [if_pos he] at h
   rcases List.mem_cons.1 h with rfl | h
   ·exact ⟨0, c, rfl, rfl, he⟩
   ·exact rec_ h
  ·rw [if_neg he] at h
   exact rec_ h
theorem FY (v : List Int) (cmds : List Sy.Cmd) : ∀ (r pre : List Sy.Cmd), cmds = pre ++ r → (enI v pre.length r).map (gW cmds v) = goes v r
 | [], pre, h => rfl
 | c :: r, pre, h => by
  have ih := FY v cmds r (pre ++ [c]) (by rw [h]; simp)
  rw [show (pre ++ [c]).length = pre.length + 1 by simp] at ih
  unfold enI goes enC
  rw [List.filter_cons]
  by_cases he : ev v c.2.1 = 1
  ·rw [if_pos he, if_pos (by simpa using he), List.map_cons, List.map_cons, ih]
   unfold gW
   rw [show ((pre.length : Int)).toNat = pre.length from rfl, show cmds[pre.length]? = some c by rw [h]; simp]
   rfl
  ·rw [if_neg he, if_neg (by simpa using he), ih]; rfl
theorem LU (v : List Int) (cmds : List Sy.Cmd) : (goes v cmds).length ≤ cmds.length := by
 unfold goes enC
 rw [List.length_map]
 exact List.length_filter_le _ _
theorem Pz {v : List Int} {cmds : List Sy.Cmd} {i : Int} (h : i ∈ enI v 0 cmds) : 0 ≤ i ∧ i < cmds.length := by
 obtain ⟨j, c, rfl, h2, _⟩ := F6 h
 have := (List.getElem?_eq_some_iff.1 h2).1
 omega
theorem IQ {S : List (Int × Int)} {cmds : List Sy.Cmd} (v : List Int) : (uv S cmds v).1.length ≤ cmds.length + 1 := by
 unfold uv HK
 split
 ·simp
 ·cases ha : (goes v cmds).all (fits S)
  ·simp
  ·have := CX (goes v cmds) []
   have := LU v cmds
   simp at *; omega
end Sp
end Go.Proofs.YtpnogcmollnjeaaGreatDoor
namespace Go.Proofs.YtpnogcmollnjeaaGreatDoor
namespace Sp
theorem LA {v : List Int} {S : List (Int × Int)} {C : List Sy.Cmd} (hm : SafeS S C) (hv : InS S v) {l : List (List Int)} {at_ : Option (List (Str × Bool))} (hs : Seen l at_) (k : List (List Int) → Option (List (Str × Bool)) → Option ((List (List Int)) × Int)) (hk : ∀ l a, k l a = some (l, 0)) :
  (bif ((List.length l : Int) == 0) then ((bS v).bind fun r76 => (fK r76 l at_).bind fun r81 => k r81.1 r81.2) else some (l, 0)) = some (if l = [] then [v] else l, 0) := by
 by_cases h : l = []
 ·subst h
  rw [show ((List.length ([] : List (List Int)) : Int) == 0) = true from rfl, cond_true, El v (hv.short hm), ai]
  obtain ⟨at', h4, _⟩ := add_eq (hv.i64 hm) (hv.short hm) (hv.ne hm) (show ([] : List (List Int)).length < 1000000000 by simp) hs
  rw [h4, ai, hk]
  rfl
 ·have e : ((List.length l : Int) == 0) = false := by
   rw [beq_eq_false_iff_ne]
   intro e
   exact h (List.eq_nil_of_length_eq_zero (by omega))
  rw [e, cond_false, if_neg h]
theorem A9 (m : Sy.Mdl) (v : List Int) (hm : SafeS m.2.1 m.2.2.2.2) (hv : InS m.2.1 v) (L : List Int) (hL : ∀ i ∈ L, 0 ≤ i ∧ i < m.2.2.2.2.length) (hLl : L.length ≤ 300) :
  ∀ (r pre : List Int), L = pre ++ r → ∀ (c : Int) (l : List (List Int)) (at_ : Option (List (Str × Bool))) (M : Nat), Seen l at_ → l.length ≤ pre.length → r.length < M →
   al (mA v (m.1, m.2.1, m.2.2.1, m.2.2.2.1, m.2.2.2.2, v) L) M ((pre.length : Int), c, l, at_) =
    some (if (r.map (gW m.2.2.2.2 v)).all (fits m.2.1) = true then (if ss l (r.map (gW m.2.2.2.2 v)) = [] then [v] else ss l (r.map (gW m.2.2.2.2 v)), 0) else ([], 6))
 | [], pre, h, c, l, at_, M, hs, hl, hM => by
  obtain ⟨k, rfl⟩ : ∃ k, M = k + 1 := ⟨M - 1, by simp at hM; omega⟩
  rw [ao]
  simp only [mA, Sy.ku h, cond_false]
  exact LA hm hv hs (fun l _ => some (l, 0)) (fun _ _ => rfl)
 | i :: r, pre, h, c, l, at_, M, hs, hl, hM => by
  obtain ⟨k, rfl⟩ : ∃ k, M = k + 1 := ⟨M - 1, by omega⟩
  rw [ao]
  have hlen : pre.length + r.length + 1 = L.length := by rw [h]; simp; omega
  obtain ⟨hi0, hi1⟩ := hL i (by rw [h]; simp)
  simp only [mA, Sy.iL h, cond_true, Sy.mid h, ai, Bool.not_true, Bool.not_false, cond_false]
  rw [show (m.1, m.2.1, m.2.2.1, m.2.2.2.1, m.2.2.2.2) = m from rfl, Nl hm hv.len i]
  unfold HQ
  rw [if_neg (by omega), ai]
  unfold fin
  rw [List.map_cons, List.all_cons]
  obtain ⟨c', _, hc⟩ := ER m.2.2.2.2 i hi0 hi1
  have hfl : (gW m.2.2.2.2 v i).length = m.2.1.length := by unfold gW; rw [hc, ← hv.len]; exact IG v c'
  cases hf : fits m.2.1 (gW m.2.2.2.2 v i)
  ·rw [Bool.false_and, if_neg (by decide)]
   rfl
  ·have hin : InS m.2.1 (gW m.2.2.2.2 v i) := ⟨hfl, hf⟩
   obtain ⟨at', h1, h2⟩ := add_eq (hin.i64 hm) (hin.short hm) (hin.ne hm) (show l.length < 1000000000 by omega) hs
   have hl2 := CD l (gW m.2.2.2.2 v i)
   have hq := A9 m v hm hv L hL hLl r (pre ++ [i]) (by rw [h]; simp) c (nH l (gW m.2.2.2.2 v i)) at' k h2 (by simp; omega) (by simp at hM; omega)
   rw [show ((pre ++ [i]).length : Int) = ((pre.length + 1 : Nat) : Int) by simp] at hq
   rw [cond_true, show ((0 : Int) != 0) = false from rfl, cond_false]
   simp only [h1, ai, Pa.bX (show pre.length < 4611686018427387904 by omega)]
   rw [hq, Bool.true_and]
   rfl
theorem ND {m : Sy.Mdl} {v : List Int} (hm : SafeS m.2.1 m.2.2.2.2) (hv : InS m.2.1 v) : ry m v = some (uv m.2.1 m.2.2.2.2 v) := by
 have hlen : (enI v 0 m.2.2.2.2).length ≤ 300 := by
  rw [zG]
  have := List.length_filter_le (fun c : Sy.Cmd => decide (ev v c.2.1 = 1)) m.2.2.2.2
  have := hm.cmds
  unfold enC; omega
 have hq := A9 m v hm hv (enI v 0 m.2.2.2.2) (fun i hi => Pz hi) hlen (enI v 0 m.2.2.2.2) [] rfl 0 [] none au KG (Nat.le_refl _) (by show _ < 2 ^ 64; omega)
 have hmap : (enI v 0 m.2.2.2.2).map (gW m.2.2.2.2 v) = goes v m.2.2.2.2 := FY v m.2.2.2.2 m.2.2.2.2 [] rfl
 rw [hmap] at hq
 unfold ry uy
 rw [ai]
 simp only
 rw [show (m.1, m.2.1, m.2.2.1, m.2.2.2.1, m.2.2.2.2) = m from rfl, QH hm, ai]
 rw [show ((([] : List Int).length : Nat) : Int) = 0 from rfl] at hq
 rw [hq]
 congr 1
 unfold uv HK
 cases ha : (goes v m.2.2.2.2).all (fits m.2.1)
 ·have hg : goes v m.2.2.2.2 ≠ [] := fun e => by rw [e] at ha; cases ha
  rw [if_neg hg, if_neg (by decide)]
  rfl
 ·rw [if_pos rfl, cond_true]
  by_cases hg : goes v m.2.2.2.2 = []
  ·rw [if_pos hg, if_pos (by rw [hg]; rfl)]
  ·rw [if_neg hg, if_neg]
   intro e
   cases hgo : goes v m.2.2.2.2 with
   | nil => exact hg hgo
   | cons x r =>
    have : x ∈ ss [] (x :: r) := Cy.2 (.inr (by simp))
    rw [hgo] at e
    rw [e] at this
    cases this
end Sp
end Go.Proofs.YtpnogcmollnjeaaGreatDoor
namespace Go.Proofs.YtpnogcmollnjeaaGreatDoor
namespace Sy
open Pa
noncomputable def Er {α : Type} (x : Except Err α) : Prop := ∀ e, x = .error e → e.1 ≠ 0
theorem Er.ok {α : Type} {a : α} : Er (.ok a : Except Err α) := fun e h => by cases h
theorem Er.lit {α : Type} {e : Err} (h : e.1 ≠ 0) : Er (.error e : Except Err α) := fun e' he => by cases he; exact h
theorem Er.bif {α : Type} {c : Bool} {a b : Except Err α} (ha : c = true → Er a) (hb : c = false → Er b) : Er (bif c then a else b) := by cases c; exact hb rfl; exact ha rfl
theorem Er.of {α : Type} {x : Except Err α} (h : Er x) {e : Err} (he : x = .error e) {β : Type} : Er (.error e : Except Err β) := .lit (h e he)
theorem Mx {names : List Str} {ts : List Tok} : Er (rI names ts) := fun e h => by
 unfold rI at h
 split at h
 ·rename_i hx
  have h1 := Classical.choose_spec hx
  rw [h] at h1
  rcases h1.err e rfl with h | h | h <;> omega
 ·cases h; decide
theorem qR {x : Str} {ts : List Tok} : Er (aV x ts) := by
 unfold aV
 split
 ·exact .lit (by decide)
 ·exact .bif (fun _ => .ok) (fun _ => .lit (show (2 : Int) ≠ 0 by decide))
theorem CY {full : Bool} {names procs : List Str} {ts : List Tok} : Er (cU full names procs ts) := by
 unfold cU
 split
 ·exact .lit (by decide)
 ·exact .bif (fun _ => .lit (show (2 : Int) ≠ 0 by decide)) fun _ => .bif (fun _ => .lit (show (3 : Int) ≠ 0 by decide)) fun _ => .bif (fun _ => .lit (show (9 : Int) ≠ 0 by decide)) fun _ => .ok
theorem Dg {neg : Bool} {ts : List Tok} : Er (jQ neg ts) := by
 unfold jQ
 split
 ·exact .lit (by decide)
 ·exact .bif (fun _ => .lit (show (2 : Int) ≠ 0 by decide)) fun _ => .ok
theorem AJ {ts : List Tok} : Er (dh ts) := .bif (fun _ => Dg) fun _ => Dg
theorem No {m : Mdl} {ts : List Tok} : Er (jk m ts) := by
 unfold jk
 split
 ·rename_i h; exact CY.of h
 ·split
  ·rename_i h; exact AJ.of h
  ·split
   ·rename_i h; exact AJ.of h
   ·split
    ·rename_i h; exact AJ.of h
    ·split
     ·rename_i h; exact qR.of h
     ·exact .bif (fun _ => .lit (show (5 : Int) ≠ 0 by decide)) fun _ => .ok
theorem Ef {want : Int} {names : List Str} {ts : List Tok} : Er (bZ want names ts) := by
 unfold bZ
 split
 ·rename_i h; exact Mx.of h
 ·exact .bif (fun h => .lit (by simpa using h)) fun _ => .bif (fun _ => .lit (show (4 : Int) ≠ 0 by decide)) fun _ => .ok
theorem Ct {names : List Str} : ∀ (f : Nat) (acc : List (Int × Ex)) (ts : List Tok), Er (cK names f acc ts)
 | 0, _, _ => .lit (show (2 : Int) ≠ 0 by decide)
 | f + 1, acc, ts => by
  unfold cK
  split
  ·exact .lit (by decide)
  ·refine .bif (fun _ => .lit (show (2 : Int) ≠ 0 by decide)) fun _ => .bif (fun _ => .lit (show (3 : Int) ≠ 0 by decide)) fun _ => ?_
   split
   ·rename_i h; exact qR.of h
   ·split
    ·rename_i h; exact Ef.of h
    ·exact .bif (fun _ => Ct f _ _) fun _ => .ok
theorem OG {m : Mdl} {ts : List Tok} : Er (gO m ts) := by
 unfold gO
 refine .bif (fun _ => .lit (show (9 : Int) ≠ 0 by decide)) fun _ => ?_
 split
 ·rename_i h; exact Ef.of h
 ·split
  ·rename_i h; exact qR.of h
  ·split
   ·rename_i h; exact (Ct _ _ _).of h
   ·split
    ·rename_i h; exact qR.of h
    ·exact .ok
theorem Db : ∀ (f : Nat) (m : Mdl) (ts : List Tok), Er (fY f m ts)
 | 0, _, _ => .lit (show (2 : Int) ≠ 0 by decide)
 | f + 1, m, ts => by
  unfold fY
  refine .bif (fun _ => .ok) fun _ => ?_
  split
  ·rename_i h; exact OG.of h
  ·exact Db f _ _
theorem Kq {m : Mdl} {ts : List Tok} : Er (kV m ts) := by
 unfold kV
 split
 ·rename_i h; exact CY.of h
 ·split
  ·rename_i h; exact qR.of h
  ·exact Db _ _ _
theorem uU : ∀ (f : Nat) (m : Mdl) (ts : List Tok), Er (iZ f m ts)
 | 0, _, _ => .lit (show (2 : Int) ≠ 0 by decide)
 | f + 1, m, ts => by
  unfold iZ
  split
  ·exact .lit (by decide)
  ·refine .bif (fun _ => .bif (fun _ => .lit (show (2 : Int) ≠ 0 by decide)) fun _ => .ok) fun _ => .bif (fun _ => ?_) fun _ => .bif (fun _ => ?_) fun _ => .lit (show (2 : Int) ≠ 0 by decide)
   ·split
    ·rename_i h; exact No.of h
    ·exact uU f _ _
   ·split
    ·rename_i h; exact Kq.of h
    ·exact uU f _ _
theorem Lc {text : Str} {e : Err} (h : yj text = .error e) : e.1 ≠ 0 := by
 unfold yj at h
 split at h
 ·cases h; decide
 ·split at h
  ·exact uU _ _ _ e h
  ·rename_i hl
   cases h
   exact Ez _ _ _ _ hl
end Sy
end Go.Proofs.YtpnogcmollnjeaaGreatDoor
namespace Go.Proofs.YtpnogcmollnjeaaGreatDoor
namespace Sp
/-! rows alike -/
/-! the place of a state in a row -/
/-! within the ranges, as the document says it -/
noncomputable def inB (S : List (Int × Int)) (v : List Int) : Bool := decide (v.length = S.length) && fits S v
theorem jC {S : List (Int × Int)} {v : List Int} : inB S v = true ↔ InS S v := by
 unfold inB
 rw [Bool.and_eq_true, decide_eq_true_eq]
 exact ⟨fun h => ⟨h.1, h.2⟩, fun h => ⟨h.len, h.fit⟩⟩
/-! what the document's walk needs -/
structure Qi (S : List (Int × Int)) (C : List Sy.Cmd) : Prop extends SafeS S C where
 rguard : ∀ c ∈ C, dR (S.length : Int) c.2.1 = true ∧ (rt c.2.1).1 = 2
 rsets : ∀ c ∈ C, ∀ s ∈ c.2.2, dR (S.length : Int) s.2 = true ∧ (rt s.2).1 = 1
theorem NC {m : Sy.Mdl} (h : Sy.Wf m) : Qi m.2.1 m.2.2.2.2 := by
 have hs := h.schema
 have h1 := h.some_
 have h2 := h.names
 have h3 := h.cmds
 refine { pos := by omega, few := by omega, field := h.fields, cmds := by omega, guard := fun c hc => ?_, sets := fun c hc => ⟨(h.cmd c hc).len, fun s hs2 => ?_⟩, rguard := fun c hc => ?_, rsets := fun c hc s hs2 => ?_ }
 ·have := (h.cmd c hc).sz; omega
 ·have k := (h.cmd c hc).sets s hs2
  have := k.var; have := k.sz
  refine ⟨by omega, by omega, by omega⟩
 ·have k := h.cmd c hc
  rw [hs]
  exact ⟨k.may, k.typ.2⟩
 ·have k := (h.cmd c hc).sets s hs2
  rw [hs]
  exact ⟨k.may, k.typ.2⟩
/-! the system of a text -/
theorem Mr (text : Str) : ∃ q, fp text = some q ∧ (q.2 = true → Sy.Wf q.1) := by
 unfold fp
 by_cases h : (600 : Int) < (text.length : Int)
 ·rw [decide_eq_true h, cond_true]
  exact ⟨_, rfl, fun h => by cases h⟩
 ·rw [decide_eq_false h, cond_false, Sy.Li, ai]
  refine ⟨_, rfl, fun h => ?_⟩
  cases hs : Sy.yj text with
  | ok m =>
   exact Sy.Jm hs
  | error e =>
   rw [hs] at h
   exact absurd (by simpa [Sy.xD] using h) (Sy.Lc hs)
end Sp
end Go.Proofs.YtpnogcmollnjeaaGreatDoor
namespace Go.Proofs.YtpnogcmollnjeaaGreatDoor
namespace Ls
open Sp
/-! witnesses of few states -/
abbrev Las := List (List Int) × List (List Int)
noncomputable def D9 (l : Las) (most : Int) : Bool := decide ((l.1.length : Int) ≤ most) && decide ((l.2.length : Int) ≤ most) && (l.1.all (fun v => decide (v.length ≤ 40)) && l.2.all (fun v => decide (v.length ≤ 40)))
theorem PJ (l : Las) (hl : l.2.length < 1000000) : ∀ (r pre : List (List Int)), l.2 = pre ++ r → ∀ M, r.length < M → al (fV l) M (pre.length : Int) = some (r.all fun v => decide (v.length ≤ 40))
 | [], pre, h, M, hM => by
  obtain ⟨m, rfl⟩ : ∃ m, M = m + 1 := ⟨M - 1, by simp at hM; omega⟩
  rw [ao]
  simp only [fV, Sy.ku h, cond_false, List.all_nil]
 | x :: r, pre, h, M, hM => by
  obtain ⟨m, rfl⟩ : ∃ m, M = m + 1 := ⟨M - 1, by omega⟩
  rw [ao]
  have hlen : pre.length + r.length + 1 = l.2.length := by rw [h]; simp; omega
  have ih := PJ l hl r (pre ++ [x]) (by rw [h]; simp) m (by simp at hM; omega)
  rw [show ((pre ++ [x]).length : Int) = ((pre.length + 1 : Nat) : Int) by simp] at ih
  simp only [fV, Sy.iL h, cond_true, Sy.mid h, ai, Pa.bX (show pre.length < 4611686018427387904 by omega), ih, List.all_cons]
  by_cases e : x.length ≤ 40
  ·rw [decide_eq_true e, decide_eq_false (by omega)]; rfl
  ·rw [decide_eq_false e, decide_eq_true (by omega)]; rfl
theorem O3 (l : Las) (h1 : l.1.length < 1000000) (hl : l.2.length < 1000000) : ∀ (r pre : List (List Int)), l.1 = pre ++ r → ∀ M, r.length < M → al (fT l) M (pre.length : Int) = some (r.all (fun v => decide (v.length ≤ 40)) && l.2.all fun v => decide (v.length ≤ 40))
 | [], pre, h, M, hM => by
  obtain ⟨m, rfl⟩ : ∃ m, M = m + 1 := ⟨M - 1, by simp at hM; omega⟩
  rw [ao]
  simp only [fT, Sy.ku h, cond_false, List.all_nil, Bool.true_and]
  exact PJ l hl l.2 [] rfl au (by show _ < 2 ^ 64; omega)
 | x :: r, pre, h, M, hM => by
  obtain ⟨m, rfl⟩ : ∃ m, M = m + 1 := ⟨M - 1, by omega⟩
  rw [ao]
  have hlen : pre.length + r.length + 1 = l.1.length := by rw [h]; simp; omega
  have ih := O3 l h1 hl r (pre ++ [x]) (by rw [h]; simp) m (by simp at hM; omega)
  rw [show ((pre ++ [x]).length : Int) = ((pre.length + 1 : Nat) : Int) by simp] at ih
  simp only [fT, Sy.iL h, cond_true, Sy.mid h, ai, Pa.bX (show pre.length < 4611686018427387904 by omega), ih, List.all_cons]
  by_cases e : x.length ≤ 40
  ·rw [decide_eq_true e, decide_eq_false (by omega)]; rfl
  ·rw [decide_eq_false e, decide_eq_true (by omega)]; rfl
theorem PV (l : Las) (most : Int) (hm : most ≤ 100) : fN l most = some (D9 l most) := by
 unfold fN D9
 simp only [aP]
 by_cases h1 : (l.1.length : Int) ≤ most
 ·by_cases h2 : (l.2.length : Int) ≤ most
  ·rw [decide_eq_false (show ¬ most < (l.1.length : Int) by omega), decide_eq_false (show ¬ most < (l.2.length : Int) by omega), decide_eq_true h1, decide_eq_true h2]
   exact O3 l (by omega) (by omega) l.1 [] rfl au (by show _ < 2 ^ 64; omega)
  ·rw [decide_eq_true (show most < (l.2.length : Int) by omega), decide_eq_false h2, Bool.or_true, Bool.and_false]
   rfl
 ·rw [decide_eq_true (show most < (l.1.length : Int) by omega), decide_eq_false h1]
  rfl
structure Small (l : Las) (n : Nat) : Prop where
 stem : l.1.length ≤ n
 cyc : l.2.length ≤ n
 rows1 : ∀ v ∈ l.1, v.length ≤ 40
 rows2 : ∀ v ∈ l.2, v.length ≤ 40
theorem NR {l : Las} {n : Nat} (h : D9 l (n : Int) = true) : Small l n := by
 unfold D9 at h
 simp only [Bool.and_eq_true, decide_eq_true_eq, List.all_eq_true] at h
 exact ⟨by omega, by omega, h.2.1, h.2.2⟩
/-! rows one behind the other -/
theorem Qa (L : List (List (List Int))) (hl : L.length < 1000000) : ∀ (r pre : List (List (List Int))), L = pre ++ r → ∀ (acc : List (List Int)) (M : Nat), acc.length + r.flatten.length < 1000000 → r.length < M → al (er L) M (acc, (pre.length : Int)) = some (acc ++ r.flatten)
 | [], pre, h, acc, M, ha, hM => by
  obtain ⟨m, rfl⟩ : ∃ m, M = m + 1 := ⟨M - 1, by simp at hM; omega⟩
  rw [ao]
  simp only [er, Sy.ku h, cond_false, List.flatten_nil, List.append_nil]
 | x :: r, pre, h, acc, M, ha, hM => by
  obtain ⟨m, rfl⟩ : ∃ m, M = m + 1 := ⟨M - 1, by omega⟩
  rw [ao]
  have hlen : pre.length + r.length + 1 = L.length := by rw [h]; simp; omega
  simp only [List.flatten_cons, List.length_append] at ha
  have ih := Qa L hl r (pre ++ [x]) (by rw [h]; simp) (acc ++ x) m (by rw [List.length_append]; omega) (by simp at hM; omega)
  rw [show ((pre ++ [x]).length : Int) = ((pre.length + 1 : Nat) : Int) by simp] at ih
  simp only [er, Sy.iL h, cond_true, Sy.mid h, ai, Pa.bX (show pre.length < 4611686018427387904 by omega)]
  rw [Sy.dE (Sy.eI (by omega) (by omega)), ih]
  simp
theorem PT (L : List (List (List Int))) (hl : L.length < 1000000) (hL : L.flatten.length < 1000000) : ∀ (r pre : List (List (List Int))), L = pre ++ r → ∀ (M : Nat), r.length < M → al (ew L) M ((pre.flatten.length : Int), (pre.length : Int)) = some L.flatten
 | [], pre, h, M, hM => by
  obtain ⟨m, rfl⟩ : ∃ m, M = m + 1 := ⟨M - 1, by simp at hM; omega⟩
  rw [ao]
  have e : pre = L := by rw [h]; simp
  simp only [ew, Sy.ku h, cond_false]
  rw [e]
  have hg : zv (L.flatten.length : Int) = some [] := by
   unfold zv
   rw [decide_eq_true (show (0 : Int) ≤ (L.flatten.length : Int) by omega), Sy.dE (by rw [Bool.true_and]; exact Sy.eI (by rw [Int.toNat_natCast]; omega) (by rw [Int.toNat_natCast]; omega))]
  rw [hg, ai]
  have := Qa L hl L [] rfl [] au (by simpa using hL) (by show _ < 2 ^ 64; omega)
  rw [show ((([] : List (List (List Int))).length : Nat) : Int) = 0 from rfl] at this
  rw [this, List.nil_append]
 | x :: r, pre, h, M, hM => by
  obtain ⟨m, rfl⟩ : ∃ m, M = m + 1 := ⟨M - 1, by omega⟩
  rw [ao]
  have hlen : pre.length + r.length + 1 = L.length := by rw [h]; simp; omega
  have hf : pre.flatten.length + x.length ≤ L.flatten.length := by rw [h]; simp only [List.flatten_append, List.flatten_cons, List.length_append]; omega
  have ih := PT L hl hL r (pre ++ [x]) (by rw [h]; simp) m (by simp at hM; omega)
  rw [show ((pre ++ [x]).length : Int) = ((pre.length + 1 : Nat) : Int) by simp, show ((pre ++ [x]).flatten.length : Int) = (pre.flatten.length : Int) + (x.length : Int) by simp] at ih
  have hw : IntKind.i64.wrap ((pre.flatten.length : Int) + (x.length : Int)) = (pre.flatten.length : Int) + (x.length : Int) := w64 (by omega)
  simp only [ew, Sy.iL h, cond_true, Sy.mid h, ai, Pa.bX (show pre.length < 4611686018427387904 by omega), hw, ih]
  rw [decide_eq_false (by omega), cond_false]
theorem Bi (L : List (List (List Int))) (hl : L.length < 1000000) (hL : L.flatten.length < 1000000) : fI L = some L.flatten := by
 have := PT L hl hL L [] rfl au (by show _ < 2 ^ 64; omega)
 exact this
/-! ranges of all states -/
noncomputable def inB (S : List (Int × Int)) (v : List Int) : Bool := decide (v.length = S.length) && fits S v
theorem jC {S : List (Int × Int)} {v : List Int} : inB S v = true ↔ InS S v := by
 unfold inB
 rw [Bool.and_eq_true, decide_eq_true_eq]
 exact ⟨fun h => ⟨h.1, h.2⟩, fun h => ⟨h.len, h.fit⟩⟩
theorem NY : @va = @gq := rfl
theorem QG {S : List (Int × Int)} (hS : S.length < 1000) (v : List Int) (N I P C) : mz v N S I P C = some (inB S v) := by
 unfold mz
 rw [NY]
 by_cases hl : v.length = S.length
 ·rw [MZ S v hl (by omega), ai]
  unfold inB
  rw [decide_eq_true hl, Bool.true_and]
  cases fits S v <;> rfl
 ·unfold gq inB
  rw [show ((List.length v : Int) != (List.length S : Int)) = true by simp; omega, cond_true, ai, decide_eq_false hl]
  rfl
theorem EP {S : List (Int × Int)} (hS : S.length < 1000) (l : List (List Int)) (hl : l.length < 1000000) (N I P C) : ∀ (r pre : List (List Int)), l = pre ++ r → ∀ M, r.length < M → al (fy l N S I P C) M (pre.map (inB S), (pre.length : Int)) = some (l.map (inB S))
 | [], pre, h, M, hM => by
  obtain ⟨m, rfl⟩ : ∃ m, M = m + 1 := ⟨M - 1, by simp at hM; omega⟩
  rw [ao]
  simp only [fy, Sy.ku h, cond_false]
  rw [h, List.append_nil]
 | x :: r, pre, h, M, hM => by
  obtain ⟨m, rfl⟩ : ∃ m, M = m + 1 := ⟨M - 1, by omega⟩
  rw [ao]
  have hlen : pre.length + r.length + 1 = l.length := by rw [h]; simp; omega
  have ih := EP hS l hl N I P C r (pre ++ [x]) (by rw [h]; simp) m (by simp at hM; omega)
  rw [show ((pre ++ [x]).length : Int) = ((pre.length + 1 : Nat) : Int) by simp, List.map_append, List.map_cons, List.map_nil] at ih
  simp only [fy, Sy.iL h, cond_true, Sy.mid h, ai, QG hS, Pa.bX (show pre.length < 4611686018427387904 by omega)]
  rw [Sy.dE (Sy.eI (by simp; omega) (by simp; omega)), ih]
theorem pj (l : List Bool) (hl : l.length < 1000000) : ∀ (r pre : List Bool), l = pre ++ r → ∀ M, r.length < M → ∃ i : Int, al (eb l false) M (pre.length : Int) = some i ∧ (decide (0 ≤ i)) = r.contains false
 | [], pre, h, M, hM => by
  obtain ⟨m, rfl⟩ : ∃ m, M = m + 1 := ⟨M - 1, by simp at hM; omega⟩
  rw [ao]
  simp only [eb, Sy.ku h, cond_false]
  exact ⟨_, rfl, rfl⟩
 | x :: r, pre, h, M, hM => by
  obtain ⟨m, rfl⟩ : ∃ m, M = m + 1 := ⟨M - 1, by omega⟩
  rw [ao]
  have hlen : pre.length + r.length + 1 = l.length := by rw [h]; simp; omega
  obtain ⟨i, h1, h2⟩ := pj l hl r (pre ++ [x]) (by rw [h]; simp) m (by simp at hM; omega)
  rw [show ((pre ++ [x]).length : Int) = ((pre.length + 1 : Nat) : Int) by simp] at h1
  simp only [eb, Sy.iL h, cond_true, Sy.mid h, ai, Pa.bX (show pre.length < 4611686018427387904 by omega), h1]
  cases x
  ·exact ⟨_, rfl, by simp⟩
  ·exact ⟨i, rfl, by rw [h2]; simp⟩
theorem I5 (l : List Bool) (hl : l.length < 1000000) : dY l false = some (l.contains false) := by
 unfold dY iw
 obtain ⟨i, h1, h2⟩ := pj l hl l [] rfl au (by show _ < 2 ^ 64; omega)
 rw [show ((([] : List Bool).length : Nat) : Int) = 0 from rfl] at h1
 rw [h1, ai, h2]
/-! alike, and among -/
theorem yG (a b : List Int) (hl : a.length = b.length) (ha : a.length < 1000000000) : ∀ (r pre s : List Int), a = pre ++ r → b = pre ++ s → ∀ M, r.length < M → al (eW a b) M (pre.length : Int) = some (r == s)
 | [], pre, s, h, h2, M, hM => by
  obtain ⟨m, rfl⟩ : ∃ m, M = m + 1 := ⟨M - 1, by simp at hM; omega⟩
  rw [ao]
  have : s = [] := List.eq_nil_of_length_eq_zero (by rw [h, h2] at hl; simp only [List.length_append, List.length_nil] at hl; omega)
  subst this
  simp only [eW, Sy.ku h, cond_false]
  rfl
 | x :: r, pre, [], h, h2, M, hM => by rw [h, h2] at hl; simp at hl
 | x :: r, pre, y :: s, h, h2, M, hM => by
  obtain ⟨m, rfl⟩ : ∃ m, M = m + 1 := ⟨M - 1, by omega⟩
  rw [ao]
  have hlen : pre.length + r.length + 1 = a.length := by rw [h]; simp; omega
  simp only [eW, Sy.iL h, cond_true, Sy.mid h, Sy.mid h2, ai]
  by_cases e : x = y
  ·subst e
   have ih := yG a b hl ha r (pre ++ [x]) s (by rw [h]; simp) (by rw [h2]; simp) m (by simp at hM; omega)
   rw [show ((pre ++ [x]).length : Int) = ((pre.length + 1 : Nat) : Int) by simp] at ih
   rw [show (x != x) = false by simp, cond_false, Pa.bX (show pre.length < 4611686018427387904 by omega), ih]
   simp
  ·rw [show (x != y) = true by simpa using e, cond_true, show ((x :: r) == (y :: s)) = false by simp [e]]
theorem Ed (a b : List Int) (ha : a.length < 1000000000) : eC a b = some (a == b) := by
 unfold eC
 by_cases hl : a.length = b.length
 ·rw [show ((List.length a : Int) != (List.length b : Int)) = false by rw [hl]; simp, cond_false]
  exact yG a b hl ha a [] b rfl rfl au (by show _ < 2 ^ 64; omega)
 ·rw [show ((List.length a : Int) != (List.length b : Int)) = true by simp; omega, cond_true, beq_eq_false_iff_ne.2 (fun e => hl (by rw [e]))]
theorem yI (l : List (List Int)) (y : List Int) (hy : y.length < 1000000000) (hl : l.length < 1000000) : ∀ (r pre : List (List Int)), l = pre ++ r → ∀ M, r.length < M → ∃ i : Int, al (dI l y) M (pre.length : Int) = some i ∧ (decide (0 ≤ i)) = r.contains y
 | [], pre, h, M, hM => by
  obtain ⟨m, rfl⟩ : ∃ m, M = m + 1 := ⟨M - 1, by simp at hM; omega⟩
  rw [ao]
  simp only [dI, Sy.ku h, cond_false]
  exact ⟨_, rfl, rfl⟩
 | x :: r, pre, h, M, hM => by
  obtain ⟨m, rfl⟩ : ∃ m, M = m + 1 := ⟨M - 1, by omega⟩
  rw [ao]
  have hlen : pre.length + r.length + 1 = l.length := by rw [h]; simp; omega
  obtain ⟨i, h1, h2⟩ := yI l y hy hl r (pre ++ [x]) (by rw [h]; simp) m (by simp at hM; omega)
  rw [show ((pre ++ [x]).length : Int) = ((pre.length + 1 : Nat) : Int) by simp] at h1
  simp only [dI, Sy.iL h, cond_true, Sy.mid h, ai, mC, Ed y x hy, Pa.bX (show pre.length < 4611686018427387904 by omega), h1]
  by_cases e : y = x
  ·rw [show (y == x) = true by simpa using e, cond_true]
   exact ⟨_, rfl, by rw [e]; simp⟩
  ·rw [show (y == x) = false by simpa using e, cond_false]
   exact ⟨i, rfl, by rw [h2, List.contains_cons, show (y == x) = false by simpa using e, Bool.false_or]⟩
theorem KE (l : List (List Int)) (y : List Int) (hy : y.length < 1000000000) (hl : l.length < 1000000) : dH l y = some (l.contains y) := by
 unfold dH gz
 obtain ⟨i, h1, h2⟩ := yI l y hy hl l [] rfl au (by show _ < 2 ^ 64; omega)
 rw [show ((([] : List (List Int)).length : Nat) : Int) = 0 from rfl] at h1
 rw [h1, ai, h2]
/-! steps and ways -/
noncomputable def uB (m : Sy.Mdl) (x y : List Int) : Bool := ((uv m.2.1 m.2.2.2.2 x).2 == 0) && (uv m.2.1 m.2.2.2.2 x).1.contains y
noncomputable def chain (m : Sy.Mdl) : List Int → List (List Int) → Bool
 | _, [] => true
 | x, y :: r => uB m x y && chain m y r
noncomputable def nF (m : Sy.Mdl) : List (List Int) → Bool
 | [] => false
 | x :: r => (x == m.2.2.1) && chain m x r
noncomputable def qC (m : Sy.Mdl) (l : Las) : Bool := match l.2 with
 | [] => false
 | c :: _ => (l.1 ++ l.2).all (inB m.2.1) && nF m (l.1 ++ l.2 ++ [c])
theorem Qx {m : Sy.Mdl} (hm : SafeS m.2.1 m.2.2.2.2) {x : List Int} (hx : InS m.2.1 x) (y : List Int) (hy : y.length < 1000000000) : mh x y m.1 m.2.1 m.2.2.1 m.2.2.2.1 m.2.2.2.2 = some (uB m x y) := by
 have hfew := IQ (S := m.2.1) (cmds := m.2.2.2.2) x
 have hc := hm.cmds
 unfold mh uB
 rw [show (m.1, m.2.1, m.2.2.1, m.2.2.2.1, m.2.2.2.2) = m from rfl, ND hm hx, ai]
 simp only [aP]
 rw [KE _ y hy (by omega), pO]
 cases ((uv m.2.1 m.2.2.2.2 x).2 == 0) <;> rfl
theorem y9 {m : Sy.Mdl} (hm : SafeS m.2.1 m.2.2.2.2) (l : List (List Int)) (hl : l.length < 1000000) (hi : ∀ v ∈ l, InS m.2.1 v) : ∀ (r pre : List (List Int)) (x : List Int), l = pre ++ x :: r → ∀ M, r.length < M →
  al (iO l m.1 m.2.1 m.2.2.1 m.2.2.2.1 m.2.2.2.2) M ((pre.length + 1 : Nat) : Int) = some (chain m x r)
 | [], pre, x, h, M, hM => by
  obtain ⟨k, rfl⟩ : ∃ k, M = k + 1 := ⟨M - 1, by simp at hM; omega⟩
  rw [ao]
  have hlen : l.length = pre.length + 1 := by rw [h]; simp
  simp only [iO]
  rw [decide_eq_false (by omega), cond_false, chain]
 | y :: r, pre, x, h, M, hM => by
  obtain ⟨k, rfl⟩ : ∃ k, M = k + 1 := ⟨M - 1, by omega⟩
  rw [ao]
  have hlen : l.length = pre.length + r.length + 2 := by rw [h]; simp; omega
  have ih := y9 hm l hl hi r (pre ++ [x]) y (by rw [h]; simp) k (by simp at hM; omega)
  rw [show (pre ++ [x]).length = pre.length + 1 by simp] at ih
  have e1 : idx l (IntKind.i64.wrap (((pre.length + 1 : Nat) : Int) - 1)) = some x := by
   rw [w64 (by omega), show ((pre.length + 1 : Nat) : Int) - 1 = (pre.length : Int) by omega]
   exact Sy.mid h
  have e2 : idx l ((pre.length + 1 : Nat) : Int) = some y := by
   have h' : l = (pre ++ [x]) ++ y :: r := by rw [h]; simp
   have := Sy.mid h'
   rwa [show (pre ++ [x]).length = pre.length + 1 by simp] at this
  have hx := hi x (by rw [h]; simp)
  have hy := hi y (by rw [h]; simp)
  simp only [iO]
  rw [decide_eq_true (by omega), cond_true, e1, ai, e2, ai, Qx hm hx y (hy.short hm), ai, Pa.bX (show pre.length + 1 < 4611686018427387904 by omega), ih, chain]
  cases uB m x y <;> rfl
theorem OK {S : List (Int × Int)} (l : List (List Int)) : (l.map (inB S)).contains false = !(l.all (inB S)) := by
 induction l with
 | nil => rfl
 | cons x r ih =>
  rw [List.map_cons, List.contains_cons, ih, List.all_cons]
  cases inB S x <;> cases r.all (inB S) <;> rfl
theorem yB {m : Sy.Mdl} (hm : SafeS m.2.1 m.2.2.2.2) {l : Las} {n : Nat} (hs : l.1.length + l.2.length ≤ n) (hn : n < 100000) (hr : ∀ v ∈ l.1 ++ l.2, v.length < 1000000000) : dC m l = some (qC m l) := by
 obtain ⟨st, cy⟩ := l
 simp only at hs hr
 unfold dC
 simp only
 cases cy with
 | nil => rfl
 | cons c r =>
  rw [show qC m (st, c :: r) = ((st ++ (c :: r)).all (inB m.2.1) && nF m (st ++ (c :: r) ++ [c])) from rfl]
  simp only [List.length_cons] at hs
  rw [show ((List.length (c :: r) : Int) == 0) = false by simp; omega, cond_false]
  rw [Sy.dE (show gD 0 1 (List.length (c :: r)) = true by unfold gD; simp; omega), show bN (c :: r) 0 1 = [c] from rfl]
  have hcat : ([st, c :: r, [c]] : List (List (List Int))).flatten = st ++ (c :: r) ++ [c] := by simp
  rw [Bi _ (by simp) (by rw [hcat]; simp; omega), ai, hcat]
  have hS : m.2.1.length < 1000 := by have := hm.few; omega
  unfold jI
  have hmap := EP hS (st ++ (c :: r) ++ [c]) (by simp; omega) m.1 m.2.2.1 m.2.2.2.1 m.2.2.2.2 (st ++ (c :: r) ++ [c]) [] rfl au (by simp; show _ < 2 ^ 64; omega)
  rw [show ((([] : List (List Int)).length : Nat) : Int) = 0 from rfl, List.map_nil] at hmap
  rw [hmap, ai, I5 _ (by simp; omega), ai, OK]
  have hall : (st ++ (c :: r) ++ [c]).all (inB m.2.1) = (st ++ (c :: r)).all (inB m.2.1) := by
   rw [List.all_append]
   cases h : (st ++ (c :: r)).all (inB m.2.1)
   ·rfl
   ·rw [Bool.true_and]
    rw [List.all_append, List.all_cons] at h
    simp only [Bool.and_eq_true] at h
    simp [h.2.1]
  rw [hall]
  cases h : (st ++ (c :: r)).all (inB m.2.1)
  ·rfl
  ·have hin : ∀ v ∈ st ++ (c :: r) ++ [c], InS m.2.1 v := fun v hv => jC.1 (List.all_eq_true.1 (hall.trans h) v hv)
   obtain ⟨x, q, hxq⟩ : ∃ x q, st ++ (c :: r) ++ [c] = x :: q := by
    cases st with
    | nil => exact ⟨_, _, rfl⟩
    | cons a b => exact ⟨_, _, rfl⟩
   have hlq : (x :: q).length < 1000000 := by rw [← hxq]; simp; omega
   rw [hxq] at hin ⊢
   rw [nF]
   simp only [Bool.not_true, Bool.not_false, cd, Bool.false_or, aP, Bool.true_and]
   rw [show idx (x :: q) 0 = some x from rfl, ai, Ed x m.2.2.1 ((hin x (by simp)).short hm), ai]
   cases hx : x == m.2.2.1
   ·rfl
   ·have := y9 hm (x :: q) hlq hin q [] x rfl au (by simp at hlq; show _ < 2 ^ 64; omega)
    rw [show ((([] : List (List Int)).length + 1 : Nat) : Int) = 1 from rfl] at this
    simp only [Bool.not_true, cond_false, Bool.true_and]
    unfold nK
    rw [this, ai]
theorem Oi {l : Las} {n : Nat} (hs : l.1.length + l.2.length ≤ n) (hn : n < 100000) : kB l = some (l.1 ++ l.2, (l.1.length : Int)) := by
 unfold kB
 have hcat : ([l.1, l.2] : List (List (List Int))).flatten = l.1 ++ l.2 := by simp
 rw [Bi _ (by simp) (by rw [hcat]; simp; omega), ai, hcat]
theorem Mo {m : Sy.Mdl} {l : Las} (h : qC m l = true) : l.2 ≠ [] := fun e => by
 unfold qC at h
 rw [e] at h
 cases h
noncomputable def n9 (m : Sy.Mdl) (e : Ex) (l : Las) : Bool := qC m l && !rd (sm (l.1 ++ l.2) l.1.length e) 0
theorem xT {vars : Int} {m : Sy.Mdl} (hm : SafeS m.2.1 m.2.2.2.2) {l : Las} {n : Nat} (hs : l.1.length + l.2.length ≤ n) (hn : n < 100000) (hr : ∀ v ∈ l.1 ++ l.2, v.length < 1000000000) {e : Ex} (hf : Fm vars e) : dL m e l = some (n9 m e l) := by
 unfold dL n9
 rw [yB hm hs hn hr, ai]
 cases h : qC m l
 ·simp only [gG, aP]
  rfl
 ·have hc := Mo h
  have hp : 0 < l.2.length := List.length_pos_iff.2 hc
  simp only [cd, aP]
  rw [Oi hs hn, ai, MD (V := l.1 ++ l.2) (lp := l.1.length) (by simp; omega) (by simp; omega) hf, ai]
end Ls
end Go.Proofs.YtpnogcmollnjeaaGreatDoor
namespace Go.Proofs.YtpnogcmollnjeaaGreatDoor
theorem Ei (k : Ex × Int → Option Bool) (e : Ex) (vars : Int) (hk : ∀ x ∈ e.l, k (x, vars) = some (dR vars x)) (hl : e.l.length < 4611686018427387904) :
  ∀ (r pre : List Ex), e.l = pre ++ r → ∀ (M : Nat), r.length < M → al (eo k e vars (e.l.length : Int)) M (pre.length : Int) = some (kL vars r)
 | [], pre, h, M, hM => by
  obtain ⟨m, rfl⟩ : ∃ m, M = m + 1 := ⟨M - 1, by simp at hM; omega⟩
  rw [ao]
  simp only [eo, Dp h, cond_false, kL]
 | x :: r, pre, h, M, hM => by
  obtain ⟨m, rfl⟩ : ∃ m, M = m + 1 := ⟨M - 1, by omega⟩
  rw [ao]
  have hx := hk x (by rw [h]; simp)
  have hlen : pre.length < 4611686018427387904 := by rw [h] at hl; simp at hl; omega
  have ih := Ei k e vars hk hl r (pre ++ [x]) (by rw [h]; simp) m (by simp at hM; omega)
  rw [show ((pre ++ [x]).length : Int) = ((pre.length + 1 : Nat) : Int) by simp] at ih
  simp only [eo, DW h, cond_true, sX h, ai, hx, tz hlen, kL]
  cases dR vars x
  ·rfl
  ·simp only [Bool.not_true, cond_false, Bool.true_and]; exact ih
theorem Po (k : Ex × Int → Option Bool) (e : Ex) (vars want : Int) (hk : ∀ x ∈ e.l, k (x, vars) = some (dR vars x)) (hl : e.l.length < 4611686018427387904) :
  fW k e vars want = some (kK e.op e.n (e.l.length : Int) want vars && kL vars e.l) := by
 have loop : ((e.l.length : Int) != want) = false → al (eo k e vars want) au 0 = some (kL vars e.l) := fun hw => by
  have hw : (e.l.length : Int) = want := by simpa using hw
  rw [← hw]
  exact Ei k e vars hk hl e.l [] rfl au (by show e.l.length < 2 ^ 64; omega)
 unfold fW kK
 simp only [aP]
 generalize decide (e.op < 1) = c1
 generalize decide (24 < e.op) = c2
 generalize ((e.l.length : Int) != want) = c3 at *
 generalize ((e.op == 1) && (decide (e.n < 0) || decide (1073741824 < e.n)) || (e.op == 2) && (decide (e.n < 0) || decide (vars ≤ e.n)) || decide (2 < e.op) && e.n != 0) = c4
 cases c1 <;> cases c2 <;> cases c3 <;> cases c4 <;> first | exact loop rfl | rfl
theorem QE (k : Ex × Int → Option Bool) (e : Ex) (vars : Int) : dJ k e vars = fW k e vars (fO e.op) := by
 unfold dJ jj mQ fO
 generalize (e.op == 1) = c1
 generalize (e.op == 2) = c2
 generalize (e.op == 13) = c3
 generalize (e.op == 14) = c4
 generalize (e.op == 6) = c5
 generalize (e.op == 15) = c6
 generalize (e.op == 20) = c7
 generalize (e.op == 21) = c8
 generalize (e.op == 22) = c9
 cases c1
 ·cases c2
  ·cases c3
   ·cases c4
    ·cases c5
     ·cases c6
      ·cases c7
       ·cases c8
        ·cases c9 <;> rfl
        ·rfl
       ·rfl
      ·rfl
     ·rfl
    ·rfl
   ·rfl
  ·rfl
 ·rfl
theorem L7 : ∀ (N : Nat) (e : Ex) (vars : Int), e.sz ≤ N → e.sz < 4611686018427387904 → al (fun k (s : Ex × Int) => dJ k s.1 s.2) N (e, vars) = some (dR vars e) := by
 intro N
 induction N with
 | zero => intro e _ h; have := kP e; omega
 | succ N ih =>
  intro e vars h hb
  rw [ao]
  show dJ _ e vars = _
  have hl := sU e
  rw [QE, Po _ e vars _ (fun x hx => ih x vars (by have := iK hx; omega) (by have := iK hx; omega)) (by omega), AK]
theorem Pp (e : Ex) (h : e.sz < 4611686018427387904) (vars : Int) : iJ e vars = some (dR vars e) := L7 au e vars (by show e.sz ≤ 2 ^ 64; omega) h
end Go.Proofs.YtpnogcmollnjeaaGreatDoor
namespace Go.Proofs.YtpnogcmollnjeaaGreatDoor
theorem Bp (k : Ex × Int → Option Int) (e : Ex) (most : Int) (hk : ∀ x ∈ e.l, ∀ m, ∃ d, k (x, m) = some d) (hl : e.l.length < 4611686018427387904) :
  ∀ (r pre : List Ex), e.l = pre ++ r → ∀ (M : Nat) (d : Int), r.length < M → ∃ v, al (dT k e most) M (d, (pre.length : Int)) = some v
 | [], pre, h, M, d, hM => by
  obtain ⟨m, rfl⟩ : ∃ m, M = m + 1 := ⟨M - 1, by simp at hM; omega⟩
  rw [ao]
  simp only [dT, Dp h, aP, Bool.false_and, cond_false]
  exact ⟨_, rfl⟩
 | x :: r, pre, h, M, d, hM => by
  obtain ⟨m, rfl⟩ : ∃ m, M = m + 1 := ⟨M - 1, by omega⟩
  rw [ao]
  obtain ⟨dx, hx⟩ := hk x (by rw [h]; simp) (IntKind.i64.wrap (most - 1))
  have hlen : pre.length < 4611686018427387904 := by rw [h] at hl; simp at hl; omega
  have ih := fun d => Bp k e most hk hl r (pre ++ [x]) (by rw [h]; simp) m d (by simp at hM; omega)
  rw [show ((pre ++ [x]).length : Int) = ((pre.length + 1 : Nat) : Int) by simp] at ih
  simp only [dT, DW h, aP, Bool.true_and]
  cases decide (1 < most)
  ·simp only [cond_false]; exact ⟨_, rfl⟩
  ·simp only [cond_true, sX h, ai, hx, tz hlen]
   cases decide (d < IntKind.i64.wrap (1 + dx))
   ·simp only [cond_false]; exact ih _
   ·simp only [cond_true]; exact ih _
theorem Jp : ∀ (N : Nat) (e : Ex) (most : Int), e.sz ≤ N → e.sz < 4611686018427387904 → ∃ d, al (fun k (s : Ex × Int) => jv k s.1 s.2) N (e, most) = some d := by
 intro N
 induction N with
 | zero => intro e _ h; have := kP e; omega
 | succ N ih =>
  intro e most h hb
  rw [ao]
  show ∃ d, al (dT _ e most) au (1, 0) = some d
  have hl := sU e
  exact Bp _ e most (fun x hx m => ih x m (by have := iK hx; omega) (by have := iK hx; omega)) (by omega) e.l [] rfl au 1 (by show e.l.length < 2 ^ 64; omega)
theorem AW (k : Ex × Int → Option Int) (e : Ex) (most : Int) (hk : ∀ x ∈ e.l, ∀ m, ∃ d, k (x, m) = some d) (hl : e.l.length < 4611686018427387904) :
  ∀ (r pre : List Ex), e.l = pre ++ r → ∀ (M : Nat) (d : Int), r.length < M → ∃ v, al (dW k e most) M (d, (pre.length : Int)) = some v
 | [], pre, h, M, d, hM => by
  obtain ⟨m, rfl⟩ : ∃ m, M = m + 1 := ⟨M - 1, by simp at hM; omega⟩
  rw [ao]
  simp only [dW, Dp h, aP, Bool.false_and, cond_false]
  exact ⟨_, rfl⟩
 | x :: r, pre, h, M, d, hM => by
  obtain ⟨m, rfl⟩ : ∃ m, M = m + 1 := ⟨M - 1, by omega⟩
  rw [ao]
  obtain ⟨dx, hx⟩ := hk x (by rw [h]; simp) most
  have hlen : pre.length < 4611686018427387904 := by rw [h] at hl; simp at hl; omega
  have ih := fun d => AW k e most hk hl r (pre ++ [x]) (by rw [h]; simp) m d (by simp at hM; omega)
  rw [show ((pre ++ [x]).length : Int) = ((pre.length + 1 : Nat) : Int) by simp] at ih
  simp only [dW, DW h, aP, Bool.true_and]
  cases decide (d < most)
  ·simp only [cond_false]; exact ⟨_, rfl⟩
  ·simp only [cond_true, sX h, ai, hx, tz hlen]; exact ih _
theorem JB : ∀ (N : Nat) (e : Ex) (most : Int), e.sz ≤ N → e.sz < 4611686018427387904 → ∃ d, al (fun k (s : Ex × Int) => jm k s.1 s.2) N (e, most) = some d := by
 intro N
 induction N with
 | zero => intro e _ h; have := kP e; omega
 | succ N ih =>
  intro e most h hb
  rw [ao]
  show ∃ d, al (dW _ e most) au (1, 0) = some d
  have hl := sU e
  exact AW _ e most (fun x hx m => ih x m (by have := iK hx; omega) (by have := iK hx; omega)) (by omega) e.l [] rfl au 1 (by show e.l.length < 2 ^ 64; omega)
theorem KZ (e : Ex) (h : e.sz < 4611686018427387904) : ∃ b, fQ e = some b := by
 obtain ⟨d, hd⟩ := Jp au e 45 (by show e.sz ≤ 2 ^ 64; omega) h
 obtain ⟨m, hm⟩ := JB au e 300 (by show e.sz ≤ 2 ^ 64; omega) h
 refine ⟨decide (d < 45) && decide (m < 300), ?_⟩
 unfold fQ hU ia
 rw [hd, hm]
 rfl
end Go.Proofs.YtpnogcmollnjeaaGreatDoor
namespace Go.Proofs.YtpnogcmollnjeaaGreatDoor
namespace Ls
open Sp
/-! which trees are formulas, as the document says it -/
theorem NX {e : Ex} (h : e.sz < 1152921504606846976) (vars : Int) : ∃ b, dV e vars = some b ∧ (b = true → Fm vars e) := by
 unfold dV
 obtain ⟨f, hf⟩ := KZ e (by omega)
 rw [hf, ai, Pp e (by omega), ai]
 simp only [aP]
 cases f
 ·exact ⟨_, rfl, fun h => by cases h⟩
 ·cases hm : dR vars e
  ·exact ⟨_, rfl, fun h => by cases h⟩
  ·simp only [Bool.not_true, Bool.or_self, cond_false]
   rw [DS e h, ai]
   refine ⟨_, rfl, fun hb => ?_⟩
   simp only [Bool.and_eq_true, beq_iff_eq, bne_iff_ne, ne_eq] at hb
   rw [← H6 e.sz e (Nat.le_refl _)] at hb
   exact ⟨hm, hb.1, hb.2, by omega⟩
/-! a formula's negation -/
noncomputable def neg (e : Ex) : Ex := .mk 15 0 0 [e]
theorem Je {V : List (List Int)} {f : List Int → Bool} {i : Nat} (h : i < V.length) : rd (V.map f) i = f V[i] := by
 simp [rd, List.getD, h]
theorem G8 : gJ = some true := by kernel_rfl
theorem Small.rows {l : Las} {n : Nat} (h : Small l n) : ∀ v ∈ l.1 ++ l.2, v.length < 1000000000 := fun v hv => by
 rcases List.mem_append.1 hv with hv | hv
 ·have := h.rows1 v hv; omega
 ·have := h.rows2 v hv; omega
end Ls
end Go.Proofs.YtpnogcmollnjeaaGreatDoor
namespace Go.Proofs.YtpnogcmollnjeaaGreatDoor
namespace Ls
open Sp
/-! the same word, laid in other places -/
noncomputable def it (f : List Bool → List Bool) : Nat → List Bool → List Bool
 | 0, on => on
 | j + 1, on => it f j (f on)
theorem IB {f : List Bool → List Bool} {on : List Bool} (h : on = f on) : ∀ J, it f J on = on
 | 0 => rfl
 | J + 1 => by rw [it, ← h]; exact IB h J
theorem x5 {n : Nat} {f : List Bool → List Bool} (hf : ∀ on, (f on).length = n) {inv : List Bool → Prop} {μ : List Bool → Nat} (hi : ∀ on, on.length = n → inv on → inv (f on) ∧ (on ≠ f on → μ (f on) < μ on)) :
  ∀ (K J : Nat) (on : List Bool), on.length = n → inv on → μ on < K → K ≤ J → it f J on = bA f K on
 | 0, _, _, _, _, hK, _ => by omega
 | K + 1, J, on, h, hin, hK, hJ => by
  rw [bA]
  by_cases e : on = f on
  ·rw [if_pos e]; exact IB e J
  ·rw [if_neg e]
   obtain ⟨h1, h2⟩ := hi on h hin
   have := h2 e
   obtain ⟨j, rfl⟩ : ∃ j, J = j + 1 := ⟨J - 1, by omega⟩
   exact x5 hf hi K j (f on) (hf on) h1 (by omega) (by omega)
theorem ES {n lp : Nat} {a b : List Bool} {J : Nat} (hJ : n + 1 ≤ J) : it (fa n lp a b) J (row n fun _ => false) = qG n lp a b :=
 x5 (n := n) (fun _ => bQ) (inv := fun on => Le on (fa n lp a b on)) (μ := fun on => n - oN on)
  (fun on ho hin => ⟨zc hin, fun hne => by
   have h1 := (vV (b := fa n lp a b on) (by rw [ho]; exact bQ.symm) hin).2 hne
   have h2 := sL (fa n lp a b on)
   have h3 : (fa n lp a b on).length = n := bQ
   show n - oN (fa n lp a b on) < n - oN on
   omega⟩) (n + 1) J _ bQ (fun i hi => by
   by_cases h : i < n
   ·rw [oy h] at hi; cases hi
   ·rw [ta h] at hi; cases hi) (by omega) hJ
theorem Jt {n lp : Nat} {a b : List Bool} {J : Nat} (hJ : n + 1 ≤ J) : it (lh n lp a b) J (row n fun _ => true) = xu n lp a b :=
 x5 (n := n) (fun _ => bQ) (inv := fun on => Le (lh n lp a b on) on) (μ := fun on => oN on)
  (fun on ho hin => ⟨EW hin, fun hne => (vV (a := lh n lp a b on) (by rw [ho]; exact bQ) hin).2 (fun e => hne e.symm)⟩) (n + 1) J _ bQ (fun i hi => by
   by_cases h : i < n
   ·rw [oy h]
   ·unfold lh at hi; rw [ta h] at hi; cases hi) (by
    have := sL (row n fun _ => true)
    rw [bQ] at this
    omega) hJ
section
variable {n n' lp lp' : Nat} {φ : Nat → Nat} (hφ : ∀ i, i < n' → φ i < n) (hp : lp' < n') (hx : ∀ i, i < n' → φ (nx n' lp' i) = nx n lp (φ i))
noncomputable def Sim (n' : Nat) (φ : Nat → Nat) (a' a : List Bool) : Prop := ∀ i, i < n' → rd a' i = rd a (φ i)
theorem CU {f' f : List Bool → List Bool} (h : ∀ on' on, Sim n' φ on' on → Sim n' φ (f' on') (f on)) : ∀ (J : Nat) (on' on : List Bool), Sim n' φ on' on → Sim n' φ (it f' J on') (it f J on)
 | 0, _, _, h0 => h0
 | J + 1, _, _, h0 => CU h J _ _ (h _ _ h0)
include hφ
theorem gU {g' g : Nat → Bool} (h : ∀ i, i < n' → g' i = g (φ i)) : Sim n' φ (row n' g') (row n g) := fun i hi => by
 rw [oy hi, oy (hφ i hi), h i hi]
include hp hx
theorem AS {a' a b' b : List Bool} (ha : Sim n' φ a' a) (hb : Sim n' φ b' b) : Sim n' φ (qG n' lp' a' b') (qG n lp a b) := by
 rw [← ES (J := n + n' + 1) (by omega), ← ES (n := n) (J := n + n' + 1) (by omega)]
 refine CU (fun on' on h => gU hφ fun i hi => ?_) _ _ _ (gU hφ fun _ _ => rfl)
 rw [ha i hi, hb i hi, h _ (wC hp hi), hx i hi]
theorem Gn {a' a b' b : List Bool} (ha : Sim n' φ a' a) (hb : Sim n' φ b' b) : Sim n' φ (xu n' lp' a' b') (xu n lp a b) := by
 rw [← Jt (J := n + n' + 1) (by omega), ← Jt (n := n) (J := n + n' + 1) (by omega)]
 refine CU (fun on' on h => gU hφ fun i hi => ?_) _ _ _ (gU hφ fun _ _ => rfl)
 rw [ha i hi, hb i hi, h _ (wC hp hi), hx i hi]
theorem J7 {op : Int} {a' a b' b : List Bool} (ha : Sim n' φ a' a) (hb : Sim n' φ b' b) : Sim n' φ (comb n' lp' op a' b') (comb n lp op a b) := by
 unfold comb
 split
 ·exact gU hφ fun i hi => by rw [ha i hi]
 split
 ·exact gU hφ fun i hi => by rw [ha i hi, hb i hi]
 split
 ·exact gU hφ fun i hi => by rw [ha i hi, hb i hi]
 split
 ·exact gU hφ fun i hi => by rw [ha i hi, hb i hi]
 split
 ·exact gU hφ fun i hi => by rw [ha i hi, hb i hi]
 split
 ·exact gU hφ fun i hi => by rw [ha _ (wC hp hi), hx i hi]
 split
 ·exact AS hφ hp hx (gU hφ fun _ _ => rfl) ha
 split
 ·exact Gn hφ hp hx (gU hφ fun _ _ => rfl) ha
 split
 ·exact AS hφ hp hx ha hb
 ·exact Gn hφ hp hx ha hb
end
theorem yZ {V' V : List (List Int)} {lp' lp : Nat} {φ : Nat → Nat} (hφ : ∀ i, i < V'.length → φ i < V.length) (hp : lp' < V'.length) (hx : ∀ i, i < V'.length → φ (nx V'.length lp' i) = nx V.length lp (φ i)) (hv : ∀ i, i < V'.length → V'[i]? = V[φ i]?) :
  ∀ (N : Nat) (e : Ex), e.sz ≤ N → Sim V'.length φ (sm V' lp' e) (sm V lp e)
 | 0, e, h => by rw [Ex.Di] at h; omega
 | N + 1, e, h => by
  rw [Cg, Cg V lp]
  cases tJ e
  ·rw [cond_false, cond_false]
   have hl : szL e.l ≤ N := by rw [Ex.Di] at h; omega
   have nil : Sim V'.length φ [] [] := fun _ _ => rfl
   refine J7 hφ hp hx ?_ ?_
   ·cases hq : e.l with
    | nil => exact nil
    | cons x r =>
     rw [hq] at hl
     simp only [szL] at hl
     exact yZ hφ hp hx hv N x (by omega)
   ·cases hq : e.l with
    | nil => exact nil
    | cons x r =>
     rw [hq] at hl
     simp only [szL] at hl
     cases r with
     | nil => exact nil
     | cons y s =>
      simp only [szL] at hl
      exact yZ hφ hp hx hv N y (by omega)
  ·rw [cond_true, cond_true]
   intro i hi
   have h1 := hφ i hi
   rw [Je hi, Je h1]
   have h2 := hv i hi
   rw [List.getElem?_eq_getElem hi, List.getElem?_eq_getElem h1] at h2
   rw [Option.some.inj h2]
/-! a round gone once more, or begun later -/
theorem II (e : Ex) (st : List (List Int)) (c : List Int) (r : List (List Int)) : rd (sm (st ++ ((c :: r) ++ (c :: r))) st.length e) 0 = rd (sm (st ++ (c :: r)) st.length e) 0 := by
 have h := yZ (V' := st ++ ((c :: r) ++ (c :: r))) (V := st ++ (c :: r)) (lp' := st.length) (lp := st.length) (φ := fun i => if i < (st ++ (c :: r)).length then i else i - (c :: r).length)
  (fun i hi => by
   simp only [List.length_append, List.length_cons] at hi ⊢
   split <;> omega)
  (by simp)
  (fun i hi => by
   simp only [List.length_append, List.length_cons, nx] at hi ⊢
   split <;> split <;> split <;> split <;> omega)
  (fun i hi => by
   split
   ·rename_i h
    rw [← List.append_assoc, List.getElem?_append_left h]
   ·rename_i h
    rw [← List.append_assoc, List.getElem?_append_right (by omega)]
    simp only [List.length_append, List.length_cons] at h hi ⊢
    rw [List.getElem?_append_right (by omega)]
    congr 1
    omega) e.sz e (Nat.le_refl _) 0 (by simp; omega)
 rw [h]
 show rd _ (if 0 < (st ++ (c :: r)).length then 0 else _) = _
 rw [if_pos (by simp; omega)]
theorem JE (e : Ex) (st : List (List Int)) (c : List Int) (r : List (List Int)) : rd (sm ((st ++ [c]) ++ (r ++ [c])) (st ++ [c]).length e) 0 = rd (sm (st ++ (c :: r)) st.length e) 0 := by
 have h := yZ (V' := (st ++ [c]) ++ (r ++ [c])) (V := st ++ (c :: r)) (lp' := (st ++ [c]).length) (lp := st.length) (φ := fun i => if i < (st ++ (c :: r)).length then i else st.length)
  (fun i hi => by
   simp only [List.length_append, List.length_cons, List.length_nil] at hi ⊢
   split <;> omega)
  (by simp)
  (fun i hi => by
   simp only [List.length_append, List.length_cons, List.length_nil, nx] at hi ⊢
   split <;> split <;> split <;> split <;> omega)
  (fun i hi => by
   have e1 : (st ++ [c]) ++ (r ++ [c]) = (st ++ (c :: r)) ++ [c] := by simp
   rw [e1] at hi ⊢
   split
   ·rename_i h
    rw [List.getElem?_append_left h]
   ·rename_i h
    rw [List.getElem?_append_right (by omega)]
    simp only [List.length_append, List.length_cons, List.length_nil] at h hi ⊢
    rw [List.getElem?_append_right (by omega), show i - (st.length + (r.length + 1)) = 0 by omega, Nat.sub_self]
    rfl) e.sz e (Nat.le_refl _) 0 (by simp; omega)
 rw [h]
 show rd _ (if 0 < (st ++ (c :: r)).length then 0 else _) = _
 rw [if_pos (by simp; omega)]
theorem rE {m : Sy.Mdl} {y : List Int} {B : List (List Int)} : ∀ (A : List (List Int)) (x : List Int), chain m x (A ++ y :: B) = (chain m x (A ++ [y]) && chain m y B)
 | [], x => by simp only [List.nil_append, chain, Bool.and_true]
 | z :: A, x => by
  simp only [List.cons_append, chain]
  rw [rE A z, Bool.and_assoc]
theorem ub {m : Sy.Mdl} {y : List Int} {B : List (List Int)} (P : List (List Int)) : nF m (P ++ y :: B) = (nF m (P ++ [y]) && chain m y B) := by
 cases P with
 | nil => simp only [List.nil_append, nF, chain, Bool.and_true]
 | cons x P =>
  simp only [List.cons_append, nF]
  rw [rE P x, Bool.and_assoc]
theorem Bn (m : Sy.Mdl) (st : List (List Int)) (c : List Int) (r : List (List Int)) : qC m (st, (c :: r) ++ (c :: r)) = qC m (st, c :: r) := by
 show ((st ++ ((c :: r) ++ (c :: r))).all (inB m.2.1) && nF m (st ++ ((c :: r) ++ (c :: r)) ++ [c])) = ((st ++ (c :: r)).all (inB m.2.1) && nF m (st ++ (c :: r) ++ [c]))
 rw [show st ++ ((c :: r) ++ (c :: r)) ++ [c] = st ++ c :: (r ++ c :: (r ++ [c])) by simp, show st ++ (c :: r) ++ [c] = st ++ c :: (r ++ [c]) by simp, ub (B := r ++ c :: (r ++ [c])) st, rE, ub (B := r ++ [c]) st]
 simp only [List.all_append, List.all_cons]
 cases st.all (inB m.2.1) <;> cases inB m.2.1 c <;> cases r.all (inB m.2.1) <;> cases nF m (st ++ [c]) <;> cases chain m c (r ++ [c]) <;> rfl
theorem A3 (m : Sy.Mdl) (st : List (List Int)) (c : List Int) (r : List (List Int)) : qC m (st ++ [c], r ++ [c]) = qC m (st, c :: r) := by
 obtain ⟨d, s, hd⟩ : ∃ d s, r ++ [c] = d :: s := by
  cases r with
  | nil => exact ⟨_, _, rfl⟩
  | cons a b => exact ⟨_, _, rfl⟩
 have e1 : qC m (st ++ [c], r ++ [c]) = (((st ++ [c]) ++ (r ++ [c])).all (inB m.2.1) && nF m ((st ++ [c]) ++ (r ++ [c]) ++ [d])) := by
  rw [hd]; rfl
 rw [e1]
 show _ = ((st ++ (c :: r)).all (inB m.2.1) && nF m (st ++ (c :: r) ++ [c]))
 rw [show (st ++ [c]) ++ (r ++ [c]) ++ [d] = st ++ c :: (r ++ c :: [d]) by simp, show st ++ (c :: r) ++ [c] = st ++ c :: (r ++ [c]) by simp, ub (B := r ++ c :: [d]) st, rE, ub (B := r ++ [c]) st]
 have e2 : chain m c (r ++ [c]) = (uB m c d && chain m d s) := by rw [hd]; rfl
 have e3 : chain m c [d] = uB m c d := by simp only [chain, Bool.and_true]
 rw [e2, e3]
 simp only [List.all_append, List.all_cons, List.all_nil]
 cases st.all (inB m.2.1) <;> cases inB m.2.1 c <;> cases r.all (inB m.2.1) <;> cases nF m (st ++ [c]) <;> cases uB m c d <;> cases chain m d s <;> rfl
theorem FH (m : Sy.Mdl) (e : Ex) (st : List (List Int)) (c : List Int) (r : List (List Int)) : n9 m e (st, (c :: r) ++ (c :: r)) = n9 m e (st, c :: r) := by
 unfold n9
 rw [Bn]
 simp only
 rw [II]
theorem Fs (m : Sy.Mdl) (e : Ex) (st : List (List Int)) (c : List Int) (r : List (List Int)) : n9 m e (st ++ [c], r ++ [c]) = n9 m e (st, c :: r) := by
 unfold n9
 rw [A3]
 simp only
 rw [JE]
theorem H2 (text : Str) (e : Ex) (l : Las) (hs : e.sz ≤ 1048576) : eA text e l = some true := by
 unfold eA
 obtain ⟨q, hq, hw⟩ := Mr text
 rw [G8, ai, hq, ai]
 simp only [aP]
 cases h2 : q.2
 ·simp only [Bool.not_false, Bool.not_true, gG, Bool.true_or]
  rfl
 ·simp only [Bool.not_true, Bool.not_false, cd, Bool.false_or]
  rw [PV l 12 (by omega), ai]
  cases hf : D9 l 12
  ·simp only [Bool.not_false, gG, Bool.true_or, Bool.not_true]
   rfl
  ·have hl := NR (n := 12) hf
   obtain ⟨st, cy⟩ := l
   cases cy with
   | nil =>
    rw [show (decide ((([] : List (List Int)).length : Int) < 1)) = true from rfl]
    simp only [Bool.or_true, Bool.not_true, gG, Bool.true_or]
    rfl
   | cons c r =>
    rw [show decide (((c :: r).length : Int) < 1) = false by simp; omega]
    obtain ⟨b, hb, hb2⟩ := NX (e := e) (by omega) (q.1.1.length : Int)
    simp only [Bool.not_true, Bool.or_self, Bool.not_false, cd, Bool.false_or]
    rw [hb, ai]
    cases b
    ·rfl
    ·have hfm := hb2 rfl
     have hsm := (NC (hw h2)).toSafeS
     have k1 := hl.stem
     have k2 := hl.cyc
     simp only [List.length_cons] at k1 k2
     have hr := hl.rows
     have hc : c.length < 1000000000 := hr c (by simp)
     have room : ∀ (x y : List (List Int)), x.length ≤ 100 → y.length ≤ 100 → ay (x.length + y.length) 24 = true := fun x y hx hy => Sy.eI (by omega) (by omega)
     have w0 := yB hsm (l := (st, c :: r)) (n := 100) (by simp; omega) (by omega) hr
     have v0 := xT hsm (l := (st, c :: r)) (n := 100) (by simp; omega) (by omega) hr hfm
     have rt : ∀ v ∈ st ++ ((c :: r) ++ (c :: r)), v.length < 1000000000 := fun v hv => hr v (by simp at hv ⊢; rcases hv with h | h | h | h | h <;> simp [h])
     have rl : ∀ v ∈ (st ++ [c]) ++ (r ++ [c]), v.length < 1000000000 := fun v hv => hr v (by simp at hv ⊢; rcases hv with h | h | h | h <;> simp [h])
     have w1 := yB hsm (l := (st, (c :: r) ++ (c :: r))) (n := 100) (by simp; omega) (by omega) rt
     have v1 := xT hsm (l := (st, (c :: r) ++ (c :: r))) (n := 100) (by simp; omega) (by omega) rt hfm
     have w2 := yB hsm (l := (st ++ [c], r ++ [c])) (n := 100) (by simp; omega) (by omega) rl
     have v2 := xT hsm (l := (st ++ [c], r ++ [c])) (n := 100) (by simp; omega) (by omega) rl hfm
     have hcut : bN (c :: r) 1 ((c :: r).length : Int) = r := by
      unfold bN
      simp
     simp only [Bool.not_true, cond_false]
     rw [Sy.dE (room _ _ (by simp) (by simp; omega)), List.nil_append, Sy.dE (room _ _ (by simp; omega) (by simp; omega)), show idx (c :: r) 0 = some c from rfl, ai, Sy.dE (show gD 1 ((c :: r).length : Int) (c :: r).length = true by unfold gD; simp; omega), hcut, ai,
      Sy.dE (room _ _ (by simp) (by omega)), List.nil_append, Sy.dE (room _ _ (by omega) (by simp)), Sy.dE (room _ _ (by simp) (by omega)), List.nil_append, Sy.dE (room _ _ (by omega) (by simp)),
      w0, ai, v0, ai, w1, ai, Bn, beq_self_eq_true, Bool.and_self, cd, w2, ai, A3, beq_self_eq_true, Bool.and_self, cd, v1, ai, FH, beq_self_eq_true, Bool.and_self, cd, v2, ai, Fs, beq_self_eq_true, Bool.and_self]
end Ls
end Go.Proofs.YtpnogcmollnjeaaGreatDoor
namespace Go.Proofs.YtpnogcmollnjeaaGreatDoor
open Go.Lib Go.ChangeAt Go.ChangeShapes Go.WideShapes Go.RowKit
theorem Aq {P : Program} {w : World} : ∀ (l : List (String × DataW Unit)) (ps : List MemPlace), DataW.LaidVars P w l ps → ∀ (i : Nat) (n : String) (d : DataW Unit), l[i]? = some (n, d) →
  ∃ g t cs fuel p, P.globalNamed n = some g ∧ (P.globals[g]?).map (·.type) = some t ∧ w.var? P n = some cs ∧ DataW.trod (fun _ => ()) P w 0 (fun _ => true) false fuel t cs.toList = some (d, p)
 | [], _, _, i, n, d, h => by simp at h
 | (n0, d0) :: l, ps, h, i, n, d, hi => by
  obtain ⟨g, t, cs, fuel, p, q, h1, h2, h3, h4, h5, _⟩ := h
  cases i with
  | zero =>
   simp only [List.getElem?_cons_zero, Option.some.injEq, Prod.mk.injEq] at hi
   obtain ⟨rfl, rfl⟩ := hi
   exact ⟨g, t, cs, fuel, p, h1, h2, h3, h4⟩
  | succ i => exact Aq l q h5 i n d (by simpa using hi)
theorem BJ {H : Type} {enc : TypeId × Value → H} {P : Program} {w : World} {base : Nat} {sp : Nat → Bool} {held : Bool} {fuel : Nat} {t e : TypeId} {n : Nat} {cs : List Value} {zs : List Str} {p : List MemPlace}
  (ht : P.underlying t = some (.array n e)) (he : P.underlying e = some .string) (hce : P.cellsOf e = 1) (hct : P.cellsOf t = n)
  (h : DataW.trod enc P w base sp held fuel t cs = some (.agg (zs.map fun z => .lit (.string z)), p)) : cs = zs.map S := by
 cases fuel with
 | zero => simp [DataW.trod] at h
 | succ fuel =>
  simp only [DataW.trod, ht, hce, hct, Nat.mul_one] at h
  split at h
  ·rename_i hl
   obtain ⟨xs, hm, hx⟩ := Option.map_eq_some_iff.1 h
   have hxs : xs.map (·.1) = zs.map fun z => (DataW.lit (.string z) : DataW H) := by
    have := congrArg Prod.fst hx
    simpa using this
   have hxl : xs.length = n := by simpa using mapM_length hm
   have hzl : zs.length = n := by
    have := congrArg List.length hxs
    simp at this
    omega
   apply List.ext_getElem?
   intro i
   by_cases hi : i < n
   ·obtain ⟨b, hb, hf⟩ := mapM_at hm i i (by simp [hi])
    obtain ⟨z, hc, rfl, _⟩ := DataW.trod_string he hf
    have h1 : cs[i]? = some (.string z) := by
     have := congrArg (·[0]?) hc
     simpa [List.getElem?_take, List.getElem?_drop] using this
    have h2 : (xs.map (·.1))[i]? = some (DataW.lit (.string z.data.toList) : DataW H) := by simp [hb]
    rw [hxs] at h2
    simp only [List.getElem?_map, Option.map_eq_some_iff, DataW.lit.injEq, Lit.string.injEq] at h2
    obtain ⟨z', hz', hz2⟩ := h2
    subst hz2
    simp [h1, hz', S]
   ·rw [List.getElem?_eq_none (by omega), List.getElem?_eq_none (by simp; omega)]
  ·cases h
theorem HZ {P : Program} {laid : List (String × DataW Unit)} {w : World} (hf : (laid.filter fun x => x.2.handleName?.isSome) = []) (h : laidMetH P laid w) : laidMet P laid w := by
 unfold laidMetH at h
 rw [hf] at h
 exact h
theorem gl_strs {P : Program} {laid : List (String × DataW Unit)} {w : World} {Γ : Ctx} (h : laidMet P laid w) (i : Nat) {n : String} {zs : List Str} {g : Nat} {t e : TypeId} {k : Nat}
  (hi : laid[i]? = some (n, .agg (zs.map fun z => .lit (.string z)))) (hg : P.globalNamed n = some g) (hty : (P.globals[g]?).map (·.type) = some t)
  (ht : P.underlying t = some (.array k e)) (he : P.underlying e = some .string) (hce : P.cellsOf e = 1) (hct : P.cellsOf t = k) (hM : ¬ Γ.M g) : (gl g (zs.map S)).P Γ.M w := by
 obtain ⟨ps, hl, _⟩ := h
 obtain ⟨g', t', cs, fuel, p, hg', ht', hv, hd⟩ := Aq _ _ hl i n _ hi
 obtain rfl := Option.some.inj (hg.symm.trans hg')
 obtain rfl := Option.some.inj (hty.symm.trans ht')
 have e1 := BJ ht he hce hct hd
 refine ⟨hM, ?_⟩
 unfold World.var? at hv
 rw [hg] at hv
 simp only [Option.bind_some] at hv
 split at hv
 ·rename_i c ty fr hb
  obtain rfl := Option.some.inj hv
  exact ⟨ty, fr, by rw [hb, ← e1]⟩
 ·cases hv
theorem Og {P : Program} {laid : List (String × DataW Unit)} {w : World} {Γ : Ctx} (h : laidMet P laid w) (i : Nat) {n : String} {kd : IntKind} {zs : List Int} {g : Nat} {t e : TypeId} {k : Nat}
  (hi : laid[i]? = some (n, tabData kd zs)) (hg : P.globalNamed n = some g) (hty : (P.globals[g]?).map (·.type) = some t)
  (ht : P.underlying t = some (.array k e)) (he : P.underlying e = some (.int kd)) (hce : P.cellsOf e = 1) (hct : P.cellsOf t = k) (hM : ¬ Γ.M g) : (gl g (zs.map (Value.int kd))).P Γ.M w := by
 obtain ⟨ps, hl, _⟩ := h
 obtain ⟨g', t', cs, fuel, p, hg', ht', hv, hd⟩ := Aq _ _ hl i n _ hi
 obtain rfl := Option.some.inj (hg.symm.trans hg')
 obtain rfl := Option.some.inj (hty.symm.trans ht')
 have e1 := cells_of_tab ht he hce hct hd
 refine ⟨hM, ?_⟩
 unfold World.var? at hv
 rw [hg] at hv
 simp only [Option.bind_some] at hv
 split at hv
 ·rename_i c ty fr hb
  obtain rfl := Option.some.inj hv
  exact ⟨ty, fr, by rw [hb, ← e1]⟩
 ·cases hv
/-! the row at the start: nothing is owned -/
def NoM (Γ : Ctx) : Prop := ∀ b, ¬ Γ.M b
theorem Gp : NoM [] := fun b h => by obtain ⟨it, h, _⟩ := h; cases h
theorem EZ {it : Item} {Γ : Ctx} (hp : it.own = []) (h : NoM Γ) : NoM (it :: Γ) := fun b hb => by
 rcases Ctx.ob.1 hb with h1 | h1
 ·rw [hp] at h1; cases h1
 ·exact h b h1
theorem Io (w : World) : Sat [kept w (fun _ => False)] w := Sat.nil.add rfl ⟨dq.refl w, Nat.le_refl _, fun b _ _ => ⟨Gp b, rfl⟩⟩
theorem IV (w : World) : NoM [kept w (fun _ => False)] := EZ rfl Gp
theorem J4 {w : World} {Γ : Ctx} (h : NoM Γ) : Mv (fun _ => False) w Γ.M w := ⟨Nat.le_refl _, fun b _ _ => ⟨h b, rfl⟩⟩
theorem JG {w w' : World} {Γ : Ctx} {i : Nat} (h : Sat Γ w') (hi : Γ[i]? = some (kept w (fun _ => False))) : Below w.heap.size w w' := by
 obtain ⟨h1, h2, h3⟩ := h.kept hi
 exact ⟨h1.os, h1.tape, h1.output, h2, fun k hk => (h3 k hk (fun h => h)).2⟩
end Go.Proofs.YtpnogcmollnjeaaGreatDoor
namespace Go.Proofs.YtpnogcmollnjeaaGreatDoor
open Go.Lib Go.ChangeAt Go.ChangeShapes Go.WideShapes Go.RowKit
theorem yK {Y : Type} (R : Nat → Y → Ex → Prop) : ∀ (ys : List Y), (∀ i y, ys[i]? = some y → ∃ e, R i y e) → ∃ l : List Ex, l.length = ys.length ∧ ∀ i y e, ys[i]? = some y → l[i]? = some e → R i y e
 | [], _ => ⟨[], rfl, fun i y e h => by simp at h⟩
 | y :: ys, h => by
  obtain ⟨e, he⟩ := h 0 y rfl
  obtain ⟨l, hl, hr⟩ := yK (fun i => R (i + 1)) ys (fun i y hy => h (i + 1) y (by simpa using hy))
  refine ⟨e :: l, by simp [hl], fun i y' e' hy hx => ?_⟩
  cases i with
  | zero =>
   simp only [List.getElem?_cons_zero, Option.some.injEq] at hy hx
   subst hy; subst hx; exact he
  | succ i => exact hr i y' e' (by simpa using hy) (by simpa using hx)
theorem IH {H : Type} : ∀ (l : List Ex) (ds : List (DataW H)), l.length = ds.length → (∀ (i : Nat) (e : Ex) (d : DataW H), l[i]? = some e → ds[i]? = some d → e.sz ≤ Rows.uptoBulk d) → szL l ≤ Rows.uptoBulkAll ds
 | [], [], _, _ => Nat.le_refl _
 | e :: l, d :: ds, hl, h => by
  have h1 := h 0 e d rfl rfl
  have h2 := IH l ds (by simpa using hl) (fun i e d he hd => h (i + 1) e d (by simpa using he) (by simpa using hd))
  simp only [szL, Rows.uptoBulkAll]
  omega
 | [], _ :: _, h, _ => by simp at h
 | _ :: _, [], h, _ => by simp at h
theorem xG {H : Type} (d : DataW H) : 1 ≤ Rows.uptoBulk d := by
 cases d with
 | lit l => cases l <;> simp [Rows.uptoBulk]
 | nil => simp [Rows.uptoBulk]
 | ptr d => simp [Rows.uptoBulk]
 | slice elems spare => simp [Rows.uptoBulk]
 | agg parts => simp [Rows.uptoBulk]
 | iface t d => simp [Rows.uptoBulk]
 | map entries => simp [Rows.uptoBulk]
 | held h => simp [Rows.uptoBulk]
theorem jW {H : Type} {d : DataW H} : ∀ {l : List (DataW H)}, d ∈ l → Rows.uptoBulk d ≤ Rows.uptoBulkAll l
 | x :: r, h => by
  simp only [Rows.uptoBulkAll]
  rcases List.mem_cons.1 h with rfl | h
  ·omega
  ·have := jW h; omega
structure IU (P : Program) (t : TypeId) : Prop where
 fields : ∃ (fs : Array Field) (f0 f1 f2 f3 : Field), P.underlying t = some (.struct fs) ∧ fs.size = 4 ∧ fs[0]? = some f0 ∧ fs[1]? = some f1 ∧ fs[2]? = some f2 ∧ fs[3]? = some f3 ∧
  (f0.offset = 0 ∧ P.underlying f0.type = some (.int .i64) ∧ P.cellsOf f0.type = 1) ∧ (f1.offset = 1 ∧ P.underlying f1.type = some (.int .i64) ∧ P.cellsOf f1.type = 1) ∧
  (f2.offset = 2 ∧ P.underlying f2.type = some (.int .i64) ∧ P.cellsOf f2.type = 1) ∧ (f3.offset = 3 ∧ P.underlying f3.type = some (.slice t) ∧ P.cellsOf f3.type = 1)
 cells : P.cellsOf t = 4
theorem O2 {P : Program} {w : World} {base : Nat} {t : TypeId} {v : Value} {fs : Array Field} (ht : P.underlying t = some (.struct fs)) (h : Value.okWide P w .any base t v) :
  ∃ cs, v = .agg cs ∧ cs.size = P.cellsOf t ∧ Row.okWide P w .any base t cs := by
 unfold Value.okWide at h
 rw [ht] at h
 exact h
theorem GV {w : World} {a : Addr} {v : Value} (h : w.cell? a = some v) : a.spot = none ∧ ∃ cs e fr, w.heap[a.block]? = some (.cells cs e fr) ∧ cs[a.off]? = some v := by
 unfold World.cell? at h
 split at h
 ·rename_i cs e fr hb
  split at h
  ·cases h
  ·rename_i hs
   exact ⟨by simpa using hs, cs, e, fr, hb, h⟩
 ·cases h
theorem Hq {H : Type} {enc : TypeId × Value → H} {P : Program} {W : World} {t : TypeId} (L : IU P t) : ∀ (fuel : Nat) (cs : List Value) (x : DataW H × List MemPlace),
  DataW.trod enc P W 0 (fun _ => true) true fuel t cs = some x → ∃ e, mZ (fun _ => False) W cs e ∧ e.sz ≤ Rows.uptoBulk x.1 := by
 intro fuel
 induction fuel using Nat.strongRecOn with
 | ind fuel ih =>
 intro cs x h
 obtain ⟨⟨fs, f0, f1, f2, f3, hT, hsz, g0, g1, g2, g3, ⟨o0, u0, c0⟩, ⟨o1, u1, c1⟩, ⟨o2, u2, c2⟩, ⟨o3, u3, c3⟩⟩, hc⟩ := L
 obtain ⟨xs, n, rfl, rfl, hl, hxs, hf⟩ := DataW.trod_struct hT h
 rw [hc] at hl
 rw [hsz] at hxs
 obtain ⟨a0, a1, a2, a3, rfl⟩ : ∃ a0 a1 a2 a3, cs = [a0, a1, a2, a3] := by
  match cs, hl with
  | [a, b, c, d], _ => exact ⟨a, b, c, d, rfl⟩
 obtain ⟨x0, x1, x2, x3, rfl⟩ : ∃ a0 a1 a2 a3, xs = [a0, a1, a2, a3] := by
  match xs, hxs with
  | [a, b, c, d], _ => exact ⟨a, b, c, d, rfl⟩
 have t0 := hf 0 f0 g0
 have t1 := hf 1 f1 g1
 have t2 := hf 2 f2 g2
 have t3 := hf 3 f3 g3
 rw [o0, c0] at t0; rw [o1, c1] at t1; rw [o2, c2] at t2; rw [o3, c3] at t3
 simp only [List.drop_zero, List.take_succ_cons, List.take_zero, List.drop_succ_cons, List.getElem?_cons_zero, List.getElem?_cons_succ] at t0 t1 t2 t3
 obtain ⟨z0, e0, _, _⟩ := DataW.trod_int u0 t0
 obtain ⟨z1, e1, _, _⟩ := DataW.trod_int u1 t1
 obtain ⟨z2, e2, _, _⟩ := DataW.trod_int u2 t2
 obtain rfl : a0 = .int .i64 z0 := by simpa using e0
 obtain rfl : a1 = .int .i64 z1 := by simpa using e1
 obtain rfl : a2 = .int .i64 z2 := by simpa using e2
 have hb : ∀ d, x3.1 = d → Rows.uptoBulk d + 1 ≤ Rows.uptoBulk (DataW.agg ([x0, x1, x2, x3].map (·.1))) := fun d hd => by
  subst hd
  have := jW (d := x3.1) (l := [x0, x1, x2, x3].map (·.1)) (by simp)
  simp only [Rows.uptoBulk]
  omega
 rcases DataW.trod_slice u3 t3 with ⟨h3, hx3⟩ | ⟨a, len, cap, elems, rest, m, rfl, h3, hx3, _, hlc, _, hlen, hel, hsp, _⟩
 ·obtain rfl : a3 = .slice none 0 0 := by simpa using h3
  refine ⟨.mk z0 z1 z2 [], .nil z0 z1 z2 none, ?_⟩
  have := hb _ rfl
  have := xG x3.1
  simp only [Ex.sz, szL]
  omega
 ·obtain rfl : a3 = .slice (some a) len cap := by simpa using h3
  obtain ⟨hrl, hre⟩ := hsp rfl
  rw [hc] at hel hre
  -- all of it is there
  have cell : ∀ i, i < cap → ∃ us y, W.cells? 0 (a.add (i * 4)) 4 = some us ∧ us.length = 4 ∧ (∀ j, j < 4 → W.cell? ((a.add (i * 4)).add j) = us[j]?) ∧ DataW.trod enc P W 0 (fun _ => true) true m t us = some y ∧ (i < len → elems[i]? = some y) := fun i hi => by
   by_cases hil : i < len
   ·obtain ⟨y, hy⟩ : ∃ y, elems[i]? = some y := ⟨elems[i]'(by omega), List.getElem?_eq_getElem _⟩
    have := hel i hil
    rw [hy, Option.bind_eq_some_iff] at this
    obtain ⟨us, h1, h2⟩ := this
    obtain ⟨_, h3, h4⟩ := World.cells?_some h1
    exact ⟨us, y, h1, h3, h4, h2, fun _ => hy⟩
   ·obtain ⟨y, hy⟩ : ∃ y, rest[i - len]? = some y := ⟨rest[i - len]'(by omega), List.getElem?_eq_getElem _⟩
    have := hre (i - len) (by omega)
    rw [hy, Option.bind_eq_some_iff] at this
    obtain ⟨us, h1, h2⟩ := this
    have e : len + (i - len) = i := by omega
    rw [e] at h1
    obtain ⟨_, h3, h4⟩ := World.cells?_some h1
    exact ⟨us, y, h1, h3, h4, h2, fun h => absurd h hil⟩
  by_cases hcap : cap = 0
  ·subst hcap
   obtain rfl : len = 0 := by omega
   refine ⟨.mk z0 z1 z2 [], .nil z0 z1 z2 (some a), ?_⟩
   have := hb _ rfl
   have := xG x3.1
   simp only [Ex.sz, szL]
   omega
  ·obtain ⟨us0, _, _, hl0, hc0, _⟩ := cell 0 (by omega)
   have h00 := hc0 0 (by omega)
   rw [List.getElem?_eq_getElem (by omega)] at h00
   obtain ⟨hs, cs', e', fr, hblk, _⟩ := GV h00
   have hs' : a.spot = none := by simpa [Addr.add] using hs
   have hblk' : W.heap[a.block]? = some (.cells cs' e' fr) := by simpa [Addr.add] using hblk
   obtain ⟨b, off, sp⟩ := a
   simp only at hs' hblk'
   subst hs'
   have at_ : ∀ i j, ((⟨b, off, none⟩ : Addr).add (i * 4)).add j = ⟨b, off + i * 4 + j, none⟩ := fun i j => by
    unfold Addr.add
    split <;> split <;> simp_all
   have cellx : ∀ i, i < cap → ∃ us y, us.length = 4 ∧ (∀ j, j < 4 → cs'[off + i * 4 + j]? = us[j]?) ∧ DataW.trod enc P W 0 (fun _ => true) true m t us = some y ∧ (i < len → elems[i]? = some y) := fun i hi => by
    obtain ⟨us, y, _, h3, h4, h5, h6⟩ := cell i hi
    refine ⟨us, y, h3, fun j hj => ?_, h5, h6⟩
    have := h4 j hj
    rw [at_] at this
    simpa [World.cell?, hblk'] using this
   have hsize : off + cap * 4 ≤ cs'.size := by
    obtain ⟨us, _, h3, h4, _⟩ := cellx (cap - 1) (by omega)
    have := h4 3 (by omega)
    rw [List.getElem?_eq_getElem (by omega)] at this
    have := (Array.getElem?_eq_some_iff.1 this).1
    omega
   have hel' : ∀ i y, elems[i]? = some y → ∃ e, (mZ (fun _ => False) W (((cs'.toList.drop off).drop (i * 4)).take 4) e ∧ e.sz ≤ Rows.uptoBulk y.1) := fun i y hy => by
    have hi : i < len := by rw [← hlen]; exact (List.getElem?_eq_some_iff.1 hy).1
    obtain ⟨us, y', h3, h4, h5, h6⟩ := cellx i (by omega)
    obtain rfl : y' = y := by have := h6 hi; rw [hy] at this; exact (Option.some.inj this).symm
    have hus : ((cs'.toList.drop off).drop (i * 4)).take 4 = us := by
     apply List.ext_getElem?
     intro j
     by_cases hj : j < 4
     ·rw [List.getElem?_take, if_pos hj, List.getElem?_drop, List.getElem?_drop, ← h4 j hj]
      simp [Nat.add_assoc]
     ·rw [List.getElem?_take, if_neg hj, List.getElem?_eq_none (by omega)]
    rw [hus]
    exact ih m (by omega) us y' h5
   obtain ⟨l, hll, hR⟩ := yK (fun i y e => mZ (fun _ => False) W (((cs'.toList.drop off).drop (i * 4)).take 4) e ∧ e.sz ≤ Rows.uptoBulk y.1) elems hel'
   have hll' : l.length = len := by omega
   refine ⟨.mk z0 z1 z2 l, ?_, ?_⟩
   ·rw [← hll']
    refine .some z0 z1 z2 l b off cap cs' e' fr (fun h => h) hblk' (by omega) (by omega) ?_ (fun i hi => ?_)
    ·simp only [List.length_take, List.length_drop, Array.length_toList]
     omega
    ·obtain ⟨y, hy⟩ : ∃ y, elems[i]? = some y := ⟨elems[i]'(by omega), List.getElem?_eq_getElem _⟩
     have := (hR i y l[i] hy (List.getElem?_eq_getElem _)).1
     rw [List.drop_take, List.take_take]
     have e4 : min 4 (l.length * 4 - i * 4) = 4 := by omega
     rw [e4]
     exact this
   ·have h1 := IH l (elems.map (·.1)) (by simp [hll]) (fun i e d he hd => by
     rw [List.getElem?_map, Option.map_eq_some_iff] at hd
     obtain ⟨y, hy, rfl⟩ := hd
     exact (hR i y e hy he).2)
    have h2 : x3.1 = .slice (elems.map (·.1)) (rest.map (·.1)) := by rw [hx3]
    have h3 := hb _ h2
    simp only [Ex.sz]
    have h4 : Rows.uptoBulk (DataW.slice (elems.map (·.1)) (rest.map (·.1))) = Rows.uptoBulkAll (elems.map (·.1)) + Rows.uptoBulkAll (rest.map (·.1)) + 1 := by simp only [Rows.uptoBulk]
    omega
end Go.Proofs.YtpnogcmollnjeaaGreatDoor
namespace Go.Proofs.YtpnogcmollnjeaaGreatDoor
open Go.Lib Go.ChangeAt Go.ChangeShapes Go.WideShapes Go.RowKit
open Go.ChangeMaps (open_string)
def kN : Ty → List (Option TypeId)
 | .p a b => kN a ++ kN b
 | .l _ | .ex => [none]
 | _ => []
def Pc : Ty → Pt
 | .i k => .int k
 | .bo => .bool
 | .s => .str
 | .l t => .sli t
 | t => .dat t (kN t)
def Dom (Q : Nat → Prop) : (t : Ty) → t.T → Prop
 | .i k, x => (Lit.int k x).wf = true
 | .s, x => x.length ≤ 9223372036854775807
 | .p a b, x => Dom Q a x.1 ∧ Dom Q b x.2
 | .l t, x => (List.length (α := t.T) x ≤ 9223372036854775807 ∧ Q (List.length (α := t.T) x)) ∧ ∀ y : t.T, List.Mem y x → Dom Q t y
 | .ex, x => Q x.sz
 | _, _ => True
/-! the program's types and codes -/
def vl (P : Program) (t : TypeId) : Bool := (match P.underlying t with
 | some (.int .i64) => true
 | _ => false) && P.cellsOf t == 1
def exB (P : Program) (t : TypeId) : Bool := (match P.underlying t with
 | some (.struct fs) => (match fs.toList with
  | [f0, f1, f2, f3] => f0.offset == 0 && vl P f0.type && (f1.offset == 1 && vl P f1.type) && (f2.offset == 2 && vl P f2.type) && (f3.offset == 3 && P.cellsOf f3.type == 1 && (match P.underlying f3.type with
   | some (.slice e) => e == t
   | _ => false))
  | _ => false)
 | _ => false) && P.cellsOf t == 4
def wE (P : Program) (fit : TypeId → Ty → Bool) (tot : Nat) : List Field → Nat → Ty → Bool
 | [], _, _ => false
 | [f], off, t => f.offset == off && off + P.cellsOf f.type == tot && P.cellsOf f.type == t.rep.n && fit f.type t
 | f :: g :: fs, off, t => match t with
  | .p a b => f.offset == off && P.cellsOf f.type == a.rep.n && fit f.type a && wE P fit tot (g :: fs) (off + P.cellsOf f.type) b
  | _ => false
def fits (P : Program) : Nat → TypeId → Ty → Bool
 | 0, _, _ => false
 | n + 1, i, t => match P.underlying i with
  | some (.int k) => (match t with
   | .i k' => decide (k = k')
   | _ => false)
  | some .bool => (match t with
   | .bo => true
   | _ => false)
  | some .string => (match t with
   | .s => true
   | _ => false)
  | some (.slice e) => (match t with
   | .l u => P.cellsOf e == u.rep.n && Nat.blt 0 u.rep.n && fits P n e u
   | _ => false)
  | some (.struct fs) => (match t with
   | .ex => exB P i
   | .p a b => wE P (fits P n) (P.cellsOf i) fs.toList 0 (.p a b)
   | _ => false)
  | _ => false
theorem lM {P : Program} {t : TypeId} (h : vl P t = true) : P.underlying t = some (.int .i64) ∧ P.cellsOf t = 1 := by
 unfold vl at h
 simp only [Bool.and_eq_true, beq_iff_eq] at h
 refine ⟨?_, h.2⟩
 revert h
 split
 ·rename_i h; intro _; exact h
 ·intro h; cases h.1
theorem O0 {P : Program} {t : TypeId} (h : exB P t = true) : IU P t := by
 unfold exB at h
 simp only [Bool.and_eq_true, beq_iff_eq] at h
 obtain ⟨h1, h2⟩ := h
 split at h1
 ·rename_i fs hfs
  split at h1
  ·rename_i f0 f1 f2 f3 hl
   simp only [Bool.and_eq_true, beq_iff_eq] at h1
   obtain ⟨⟨⟨⟨a0, b0⟩, a1, b1⟩, a2, b2⟩, ⟨a3, c3⟩, b3⟩ := h1
   have g : ∀ i : Nat, fs[i]? = [f0, f1, f2, f3][i]? := fun i => by rw [← hl, Array.getElem?_toList]
   have u3 : P.underlying f3.type = some (.slice t) := by
    revert b3
    split
    ·rename_i e he
     intro hb
     rw [he, (by simpa using hb : e = t)]
    ·intro hb; cases hb
   refine ⟨⟨fs, f0, f1, f2, f3, hfs, ?_, g 0, g 1, g 2, g 3, ⟨a0, (lM b0).1, (lM b0).2⟩, ⟨a1, (lM b1).1, (lM b1).2⟩, ⟨a2, (lM b2).1, (lM b2).2⟩, ⟨a3, u3, c3⟩⟩, h2⟩
   rw [← Array.length_toList, hl]; rfl
  ·cases h1
 ·cases h1
theorem Kf {w : World} {a : Addr} {v : Value} (h : w.cell? a = some v) : a.spot = none ∧ ∃ cs e fr, w.heap[a.block]? = some (.cells cs e fr) ∧ cs[a.off]? = some v := by
 unfold World.cell? at h
 split at h
 ·rename_i cs e fr hb
  split at h
  ·cases h
  ·rename_i hs
   exact ⟨by simpa using hs, cs, e, fr, hb, h⟩
 ·cases h
theorem xi {Y α : Type} (R : Nat → Y → α → Prop) : ∀ (ys : List Y), (∀ i y, ys[i]? = some y → ∃ e, R i y e) → ∃ l : List α, l.length = ys.length ∧ ∀ i y e, ys[i]? = some y → l[i]? = some e → R i y e
 | [], _ => ⟨[], rfl, fun i y e h => by simp at h⟩
 | y :: ys, h => by
  obtain ⟨e, he⟩ := h 0 y rfl
  obtain ⟨l, hl, hr⟩ := xi (fun i => R (i + 1)) ys (fun i y hy => h (i + 1) y (by simpa using hy))
  refine ⟨e :: l, by simp [hl], fun i y' e' hy hx => ?_⟩
  cases i with
  | zero =>
   simp only [List.getElem?_cons_zero, Option.some.injEq] at hy hx
   subst hy; subst hx; exact he
  | succ i => exact hr i y' e' (by simpa using hy) (by simpa using hx)
theorem w5 {H : Type} : ∀ (l : List (DataW H)), l.length ≤ Rows.uptoBulkAll l
 | [] => Nat.zero_le _
 | d :: l => by
  have := w5 l
  have := xG d
  simp only [List.length_cons, Rows.uptoBulkAll]
  omega
theorem Iz {H α : Type} {enc : TypeId × Value → H} {P : Program} {W : World} {t e : TypeId} {A : Rep α} {Q : Nat → Prop} {D : α → Prop} (ht : P.underlying t = some (.slice e)) (hA : P.cellsOf e = A.n) (hn : 0 < A.n)
  (fuel : Nat) (cs : List Value) (x : DataW H × List MemPlace) (hQ : ∀ n, n ≤ Rows.uptoBulk x.1 → Q n)
  (he : ∀ (fuel : Nat) (us : List Value) (y : DataW H × List MemPlace), (∀ n, n ≤ Rows.uptoBulk y.1 → Q n) → DataW.trod enc P W 0 (fun _ => true) true fuel e us = some y → ∃ z, A.rd (fun _ => False) W us z ∧ D z)
  (h : DataW.trod enc P W 0 (fun _ => true) true fuel t cs = some x) :
  ∃ (u : SLV) (zs : List α), cs = [sl u] ∧ SRd A (fun _ => False) W (sl u) zs ∧ (zs.length ≤ 9223372036854775807 ∧ Q zs.length) ∧ ∀ z ∈ zs, D z := by
 rcases DataW.trod_slice ht h with ⟨h3, _⟩ | ⟨a, len, cap, elems, rest, m, rfl, h3, hx, _, hlc, hmx, hlen, hel, hsp, _⟩
 ·exact ⟨(none, 0, 0), [], h3, SRd.nil, ⟨by simp, hQ _ (Nat.zero_le _)⟩, by simp⟩
 ·obtain ⟨hrl, hre⟩ := hsp rfl
  rw [hA] at hel hre
  have hmx : cap ≤ 9223372036854775807 := hmx
  have hb : Rows.uptoBulk x.1 = Rows.uptoBulkAll (elems.map (·.1)) + Rows.uptoBulkAll (rest.map (·.1)) + 1 := by rw [hx]; simp only [Rows.uptoBulk]
  have hlb : len ≤ Rows.uptoBulk x.1 := by
   have := w5 (elems.map (·.1))
   simp only [List.length_map] at this
   omega
  have hQe : ∀ y ∈ elems, ∀ n, n ≤ Rows.uptoBulk y.1 → Q n := fun y hy n hn => hQ n (by
   have := jW (d := y.1) (l := elems.map (·.1)) (List.mem_map.2 ⟨y, hy, rfl⟩)
   omega)
  have cell : ∀ i, i < cap → ∃ us y, us.length = A.n ∧ (∀ j, j < A.n → W.cell? ((a.add (i * A.n)).add j) = us[j]?) ∧ DataW.trod enc P W 0 (fun _ => true) true m e us = some y ∧ (i < len → elems[i]? = some y) := fun i hi => by
   by_cases hil : i < len
   ·obtain ⟨y, hy⟩ : ∃ y, elems[i]? = some y := ⟨elems[i]'(by omega), List.getElem?_eq_getElem _⟩
    have := hel i hil
    rw [hy, Option.bind_eq_some_iff] at this
    obtain ⟨us, h1, h2⟩ := this
    obtain ⟨_, h3, h4⟩ := World.cells?_some h1
    exact ⟨us, y, h3, h4, h2, fun _ => hy⟩
   ·obtain ⟨y, hy⟩ : ∃ y, rest[i - len]? = some y := ⟨rest[i - len]'(by omega), List.getElem?_eq_getElem _⟩
    have := hre (i - len) (by omega)
    rw [hy, Option.bind_eq_some_iff, show len + (i - len) = i by omega] at this
    obtain ⟨us, h1, h2⟩ := this
    obtain ⟨_, h3, h4⟩ := World.cells?_some h1
    exact ⟨us, y, h3, h4, h2, fun h => absurd h hil⟩
  by_cases hcap : cap = 0
  ·subst hcap
   obtain rfl : len = 0 := by omega
   exact ⟨(some a, 0, 0), [], h3, SRd.emp, ⟨by simp, hQ _ (Nat.zero_le _)⟩, by simp⟩
  ·obtain ⟨us0, _, hl0, hc0, _⟩ := cell 0 (by omega)
   have h00 := hc0 0 hn
   rw [List.getElem?_eq_getElem (by omega)] at h00
   obtain ⟨hs, cs', e', fr, hblk, _⟩ := Kf h00
   have hs' : a.spot = none := by simpa [Addr.add] using hs
   have hblk' : W.heap[a.block]? = some (.cells cs' e' fr) := by simpa [Addr.add] using hblk
   obtain ⟨b, off, sp⟩ := a
   simp only at hs' hblk'
   subst hs'
   have at_ : ∀ i j, ((⟨b, off, none⟩ : Addr).add (i * A.n)).add j = ⟨b, off + i * A.n + j, none⟩ := fun i j => by
    unfold Addr.add
    split <;> split <;> simp_all
   have cellx : ∀ i, i < cap → ∃ us y, us.length = A.n ∧ (∀ j, j < A.n → cs'[off + i * A.n + j]? = us[j]?) ∧ DataW.trod enc P W 0 (fun _ => true) true m e us = some y ∧ (i < len → elems[i]? = some y) := fun i hi => by
    obtain ⟨us, y, h3, h4, h5, h6⟩ := cell i hi
    refine ⟨us, y, h3, fun j hj => ?_, h5, h6⟩
    have := h4 j hj
    rw [at_] at this
    simpa [World.cell?, hblk'] using this
   have hsize : off + cap * A.n ≤ cs'.size := by
    obtain ⟨us, _, h3, h4, _⟩ := cellx (cap - 1) (by omega)
    have := h4 (A.n - 1) (by omega)
    rw [List.getElem?_eq_getElem (by omega)] at this
    have := (Array.getElem?_eq_some_iff.1 this).1
    have e1 : cap * A.n = (cap - 1) * A.n + A.n := by
     have : cap = (cap - 1) + 1 := by omega
     conv => lhs; rw [this]
     rw [Nat.add_mul, Nat.one_mul]
    omega
   have hel' : ∀ i y, elems[i]? = some y → ∃ z, (A.rd (fun _ => False) W (((cs'.toList.drop off).drop (i * A.n)).take A.n) z ∧ D z) := fun i y hy => by
    have hi : i < len := by rw [← hlen]; exact (List.getElem?_eq_some_iff.1 hy).1
    obtain ⟨us, y', h3, h4, h5, h6⟩ := cellx i (by omega)
    obtain rfl : y' = y := by have := h6 hi; rw [hy] at this; exact (Option.some.inj this).symm
    have hus : ((cs'.toList.drop off).drop (i * A.n)).take A.n = us := by
     apply List.ext_getElem?
     intro j
     by_cases hj : j < A.n
     ·rw [List.getElem?_take, if_pos hj, List.getElem?_drop, List.getElem?_drop, ← h4 j hj]
      simp [Nat.add_assoc]
     ·rw [List.getElem?_take, if_neg hj, List.getElem?_eq_none (by omega)]
    rw [hus]
    exact he m us y' (hQe y' (List.mem_of_getElem? hy)) h5
   obtain ⟨l, hll, hR⟩ := xi (fun i y z => A.rd (fun _ => False) W (((cs'.toList.drop off).drop (i * A.n)).take A.n) z ∧ D z) elems hel'
   have hll' : l.length = len := by omega
   have get : ∀ i (hi : i < l.length), A.rd (fun _ => False) W (((cs'.toList.drop off).drop (i * A.n)).take A.n) l[i] ∧ D l[i] := fun i hi => by
    obtain ⟨y, hy⟩ : ∃ y, elems[i]? = some y := ⟨elems[i]'(by omega), List.getElem?_eq_getElem _⟩
    exact hR i y l[i] hy (List.getElem?_eq_getElem _)
   refine ⟨(some ⟨b, off, none⟩, len, cap), l, h3, .inr ⟨b, off, cap, cs', e', fr, by rw [hll']; rfl, (fun h => h), hblk', by omega, hsize, ?_⟩, ⟨by omega, hQ _ (by omega)⟩, fun z hz => ?_⟩
   ·have hle : l.length * A.n ≤ cap * A.n := Nat.mul_le_mul_right _ (by omega)
    refine ⟨?_, fun i hi => ?_⟩
    ·simp only [List.length_take, List.length_drop, Array.length_toList]
     omega
    ·have h1 : i * A.n + A.n ≤ l.length * A.n := by rw [← Nat.succ_mul]; exact Nat.mul_le_mul_right _ hi
     rw [List.drop_take, List.take_take, Nat.min_eq_left (by omega)]
     exact (get i hi).1
   ·obtain ⟨i, hi, rfl⟩ := List.getElem_of_mem hz
    exact (get i hi).2
theorem Fo {H : Type} {enc : TypeId × Value → H} {P : Program} {W : World} {Q : Nat → Prop} : ∀ (n : Nat) (i : TypeId) (t : Ty), fits P n i t = true → ∀ (fuel : Nat) (cs : List Value) (x : DataW H × List MemPlace),
  (∀ n, n ≤ Rows.uptoBulk x.1 → Q n) → DataW.trod enc P W 0 (fun _ => true) true fuel i cs = some x → ∃ z : t.T, t.rep.rd (fun _ => False) W cs z ∧ Dom Q t z := by
 intro n
 induction n with
 | zero => intro i t h; cases h
 | succ n ih =>
 intro i t hf fuel cs x hQ h
 unfold fits at hf
 split at hf
 ·rename_i k hu
  split at hf
  ·obtain ⟨z, h1, _, h3⟩ := DataW.trod_int hu h
   have e := of_decide_eq_true hf
   subst e
   exact ⟨z, h1, h3⟩
  ·cases hf
 ·rename_i hu
  split at hf
  ·obtain ⟨z, h1, _⟩ := DataW.trod_bool hu h
   exact ⟨z, h1, trivial⟩
  ·cases hf
 ·rename_i hu
  split at hf
  ·obtain ⟨⟨⟨z⟩⟩, h1, _, h3⟩ := DataW.trod_string hu h
   exact ⟨z, h1, h3⟩
  ·cases hf
 ·rename_i e hu
  split at hf
  ·rename_i u
   simp only [Bool.and_eq_true, beq_iff_eq, Nat.blt_eq] at hf
   obtain ⟨⟨h1, h2⟩, h3⟩ := hf
   obtain ⟨p, zs, a1, a2, a3, a4⟩ := Iz (A := u.rep) (Q := Q) (D := Dom Q u) hu h1 h2 fuel cs x hQ (fun fuel us y hy h => ih e u h3 fuel us y hy h) h
   exact ⟨zs, ⟨p, a1, a2⟩, a3, a4⟩
  ·cases hf
 ·rename_i fs hu
  have key : ∀ t : Ty, wE P (fits P n) (P.cellsOf i) fs.toList 0 t = true → ∃ z : t.T, t.rep.rd (fun _ => False) W cs z ∧ Dom Q t z := fun t hf => by
   obtain ⟨xs, m, _, hx, hl, hxs, hfl⟩ := DataW.trod_struct hu h
   have hb : Rows.uptoBulk x.1 = Rows.uptoBulkAll (xs.map (·.1)) + 1 := by rw [hx]; simp only [Rows.uptoBulk]
   have hQe : ∀ y ∈ xs, ∀ n, n ≤ Rows.uptoBulk y.1 → Q n := fun y hy n hn => hQ n (by
    have := jW (d := y.1) (l := xs.map (·.1)) (List.mem_map.2 ⟨y, hy, rfl⟩)
    omega)
   have one : ∀ (j : Nat) (f : Field) (t : Ty), fs.toList[j]? = some f → fits P n f.type t = true → ∃ z : t.T, t.rep.rd (fun _ => False) W ((cs.drop f.offset).take (P.cellsOf f.type)) z ∧ Dom Q t z := fun j f t hj ht => by
    have hj' : fs[j]? = some f := by simpa using hj
    have h1 := hfl j f hj'
    have hjl : j < xs.length := by rw [hxs]; exact (Array.getElem?_eq_some_iff.1 hj').1
    rw [List.getElem?_eq_getElem hjl] at h1
    exact ih f.type t ht m _ _ (hQe _ (List.getElem_mem _)) h1
   have go : ∀ (r : List Field) (j off : Nat) (t : Ty), fs.toList.drop j = r → wE P (fits P n) (P.cellsOf i) r off t = true → ∃ z : t.T, t.rep.rd (fun _ => False) W (cs.drop off) z ∧ Dom Q t z := fun r => by
    induction r with
    | nil => intro j off t _ h; cases h
    | cons f r ihr =>
     intro j off t hr hf
     have hj : fs.toList[j]? = some f := by
      have := congrArg (·[0]?) hr
      simpa [List.getElem?_drop] using this
     have hr' : fs.toList.drop (j + 1) = r := by
      rw [← List.drop_drop, hr]; rfl
     cases r with
     | nil =>
      simp only [wE, Bool.and_eq_true, beq_iff_eq] at hf
      obtain ⟨⟨⟨h1, h2⟩, h3⟩, h4⟩ := hf
      obtain ⟨z, z1, z2⟩ := one j f t hj h4
      rw [h1, List.take_of_length_le (by simp; omega)] at z1
      exact ⟨z, z1, z2⟩
     | cons g r =>
      unfold wE at hf
      split at hf
      ·rename_i a b
       simp only [Bool.and_eq_true, beq_iff_eq] at hf
       obtain ⟨⟨⟨h1, h2⟩, h3⟩, h4⟩ := hf
       obtain ⟨z, z1, z2⟩ := one j f a hj h3
       obtain ⟨y, y1, y2⟩ := ihr (j + 1) _ b hr' h4
       rw [h1] at z1
       refine ⟨(z, y), ⟨_, _, ?_, z1, y1⟩, z2, y2⟩
       rw [← List.drop_drop]; exact (List.take_append_drop ..).symm
      ·cases hf
   obtain ⟨z, z1, z2⟩ := go fs.toList 0 0 t rfl hf
   exact ⟨z, by simpa using z1, z2⟩
  split at hf
  ·obtain ⟨e, h1, h2⟩ := Hq (O0 hf) fuel cs x h
   exact ⟨e, h1, hQ _ h2⟩
  ·exact key _ hf
  ·cases hf
 ·cases hf
def gS (W : World) (I : Its) : Prop := ∀ it ∈ I, it.1 = false ∧ it.2.bU = true ∧ ∀ M, Mv (fun _ => False) W M W → it.2.P M W
theorem gS.nil {W : World} : gS W [] := fun it h => by cases h
theorem gS.app {W : World} {I J : Its} (h : gS W I) (k : gS W J) : gS W (I ++ J) := fun it hit => by
 rcases List.mem_append.1 hit with h1 | h1
 ·exact h it h1
 ·exact k it h1
theorem gS.one {W : World} {α : Type} {A : Rep α} {p : SLV} {l : List α} (h : SRd A (fun _ => False) W (sl p) l) : gS W [(false, vm true A p l false)] := fun it hit => by
 rcases List.mem_singleton.1 hit with rfl
 exact ⟨rfl, rfl, fun M hm _ => ⟨h.mv hm, fun h => by cases h⟩⟩
theorem tR {W : World} : ∀ (t : Ty) (cs : List Value) (x : t.T), t.rep.rd (fun _ => False) W cs x → ∀ (o : List (Option TypeId)) (N : List Nm), ∃ I N', yl t x cs (kN t ++ o) N I N' o ∧ gS W I
 | .i k, cs, x, h, o, N => ⟨[], N, ⟨h, rfl, rfl, rfl⟩, .nil⟩
 | .bo, cs, x, h, o, N => ⟨[], N, ⟨h, rfl, rfl, rfl⟩, .nil⟩
 | .s, cs, x, h, o, N => ⟨[], N, ⟨h, rfl, rfl, rfl⟩, .nil⟩
 | .un, cs, x, h, o, N => ⟨[], N, ⟨h, rfl, rfl, rfl⟩, .nil⟩
 | .n, cs, x, h, o, N => absurd h id
 | .mp _ _, cs, x, h, o, N => absurd h id
 | .p a b, cs, x, h, o, N => by
  obtain ⟨c1, c2, h1, h2, h3⟩ := h
  obtain ⟨I1, N1, s1, g1⟩ := tR a c1 x.1 h2 (kN b ++ o) N
  obtain ⟨I2, N2, s2, g2⟩ := tR b c2 x.2 h3 o N1
  refine ⟨I1 ++ I2, N2, ⟨c1, c2, N1, I1, I2, kN b ++ o, ?_, s2, h1, rfl⟩, g1.app g2⟩
  rw [show kN (.p a b) ++ o = kN a ++ (kN b ++ o) by simp [kN]]
  exact s1
 | .l t, cs, x, h, o, N => by
  obtain ⟨p, h1, h2⟩ := h
  exact ⟨_, _, ⟨⟨0, p, ⟨0, 0, none⟩, none, .bool false, ⟨.un, ()⟩⟩, h1, rfl, .inl ⟨rfl, rfl⟩⟩, .one h2⟩
 | .ex, cs, x, h, o, N => by
  obtain ⟨p, h1, h2⟩ := uE h
  exact ⟨_, _, ⟨⟨0, p, ⟨0, 0, none⟩, none, .bool false, ⟨.un, ()⟩⟩, h1, rfl, .inl ⟨rfl, rfl⟩⟩, .one h2⟩
def Arg (W : World) (t : Ty) (v : Value) (z : t.T) : Prop := ∀ N : List Nm, ∃ I N', Sem (Pc t) v none none N [⟨t, z⟩] I [] N' ∧ gS W I
theorem rW {H : Type} {enc : TypeId × Value → H} {P : Program} {W : World} {Q : Nat → Prop} {base : Nat} {n : Nat} {i : TypeId} (t : Ty) (hf : fits P n i t = true) {v : Value} {d : DataW H} {ps : List MemPlace}
  (hw : Value.okWide P W .any base i v) (hQ : ∀ n, n ≤ Rows.uptoBulk d → Q n) (h : DataW.Trod enc P W 0 (fun _ => true) true i v d ps) : ∃ z : t.T, Arg W t v z ∧ Dom Q t z := by
 have hk := h
 obtain ⟨fuel, hx⟩ := h
 obtain ⟨z, h1, h2⟩ := Fo n i t hf fuel _ _ hQ hx
 refine ⟨z, ?_, h2⟩
 cases n with
 | zero => cases hf
 | succ n =>
 unfold fits at hf
 split at hf
 ·rename_i k hu
  split at hf
  ·have e := of_decide_eq_true hf
   subst e
   obtain ⟨y, rfl, _⟩ := open_int hu hw hk
   have : y = z := by
    have h1 : ([.int k y] : List Value) = [.int k z] := h1
    injection h1 with h1 _
    injection h1
   subst this
   exact fun N => ⟨[], N, ⟨y, rfl, rfl, rfl, rfl, rfl⟩, .nil⟩
  ·cases hf
 ·rename_i hu
  split at hf
  ·obtain ⟨y, rfl, _⟩ := open_bool hu hw hk
   have : y = z := by
    have h1 : ([.bool y] : List Value) = [.bool z] := h1
    injection h1 with h1 _
    injection h1
   subst this
   exact fun N => ⟨[], N, ⟨y, rfl, rfl, rfl, rfl, rfl⟩, .nil⟩
  ·cases hf
 ·rename_i hu
  split at hf
  ·obtain ⟨⟨⟨y⟩⟩, rfl, _⟩ := open_string hu hw hk
   have : y = z := by
    have h1 : ([S y] : List Value) = [S z] := h1
    injection h1 with h1 _
    injection h1 with h1
    injection h1 with h1
    injection h1
   subst this
   exact fun N => ⟨[], N, ⟨y, rfl, rfl, rfl, rfl, rfl⟩, .nil⟩
  ·cases hf
 ·rename_i e hu
  split at hf
  ·rename_i u
   obtain ⟨a, len, cap, rfl⟩ := okWide_slice hu hw
   obtain ⟨p, e1, h3⟩ := h1
   have e2 : Value.slice a len cap = sl p := by simpa [Value.cells] using e1
   rw [e2]
   exact fun N => ⟨_, _, ⟨⟨0, p, ⟨0, 0, none⟩, none, .bool false, ⟨.un, ()⟩⟩, z, rfl, rfl, rfl, rfl, rfl⟩, .one h3⟩
  ·cases hf
 ·rename_i fs hu
  obtain ⟨cs, rfl, _, _⟩ := O2 hu hw
  split at hf
  ·obtain ⟨p, e1, h3⟩ := uE h1
   exact fun N => ⟨_, _, ⟨cs.toList, z, [], by simp, rfl, ⟨⟨0, p, ⟨0, 0, none⟩, none, .bool false, ⟨.un, ()⟩⟩, e1, rfl, .inl ⟨rfl, rfl⟩⟩, rfl⟩, .one h3⟩
  ·rename_i a b
   exact fun N => by
    obtain ⟨I, N', s, g⟩ := tR (.p a b) _ z h1 [] N
    exact ⟨I, N', ⟨cs.toList, z, [], by simp, rfl, by simpa [Value.cells] using s, rfl⟩, g⟩
  ·cases hf
 ·cases hf
def KJ (W : World) (ps : List Pt) (vs : List Value) (D : List Dyn) : Prop := ∀ N : List Nm, ∃ I N', mP ps vs [] N D I [] N' ∧ gS W I
theorem MA {W : World} : KJ W [] [] [] := fun N => ⟨[], N, ⟨rfl, rfl, rfl, rfl, rfl⟩, .nil⟩
theorem vC {W : World} {t : Ty} {v : Value} {z : t.T} {ps : List Pt} {vs : List Value} {D : List Dyn} (h : Arg W t v z) (k : KJ W ps vs D) : KJ W (Pc t :: ps) (v :: vs) (⟨t, z⟩ :: D) := fun N => by
 obtain ⟨I1, N1, s1, g1⟩ := h N
 obtain ⟨I2, N2, s2, g2⟩ := k N1
 exact ⟨I1 ++ I2, N2, ⟨v, vs, [⟨t, z⟩], D, I1, I2, [], [], N1, rfl, s1, s2, rfl, rfl, rfl⟩, g1.app g2⟩
theorem JX {W : World} {I : Its} {Γ : Ctx} (g : gS W I) (hn : NoM Γ) (h : Sat Γ W) : Sat (ck I ++ Γ) W := qN h _ (fun it hit => by
 obtain ⟨x, hx, rfl⟩ := List.mem_map.1 hit
 exact ⟨(g x hx).2.1, (g x hx).2.2 _ (J4 hn)⟩)
end Go.Proofs.YtpnogcmollnjeaaGreatDoor
namespace Go.Proofs.YtpnogcmollnjeaaGreatDoor
namespace Ls
theorem Nt (text : Str) (e : Ex) (l : Las) (_ : Dom (fun n => n ≤ 1048576) .s text) (h : Dom (fun n => n ≤ 1048576) .ex e) (_ : Dom (fun n => n ≤ 1048576) (.p (.l (.l (.i .i64))) (.l (.l (.i .i64)))) l) : eA text e l = some true := H2 text e l h
end Ls
end Go.Proofs.YtpnogcmollnjeaaGreatDoor
