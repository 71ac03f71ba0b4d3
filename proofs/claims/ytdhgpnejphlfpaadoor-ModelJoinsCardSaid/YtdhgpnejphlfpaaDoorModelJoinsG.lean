/-
  Own texts for the statement ModelJoins, cut down to what it needs: MoItems0, MoWhole, TrSame, MoSame, MoC, MoD, MoE, MoSml, MoJoin1, MoJoin2, MoShown, MoJoin3, KFr, KFx, KArg, MoJoinT. (cut and joined by a program)
-/
import Derived.Test.YtdhgpnejphlfpaaDoorModelJoinsA
import Derived.Test.YtdhgpnejphlfpaaDoorModelJoinsB
import Derived.Test.YtdhgpnejphlfpaaDoorModelJoinsC
import Derived.Test.YtdhgpnejphlfpaaDoorModelJoinsD
import Derived.Test.YtdhgpnejphlfpaaDoorModelJoinsE
import Derived.Test.YtdhgpnejphlfpaaDoorModelJoinsF
import Derived.Lib.LaidTab
import Derived.Below
import Derived.WalkKit
import Derived.ProofKit
import Derived.Test.YtdhgpnejphlfpaaDoorRows
import Derived.Carry
import Derived.ChangeSlices
import Derived.OpenShut
namespace Go.Proofs.YtdhgpnejphlfpaaDoor
namespace Mo
open Pa Sy
open Lx (strip)
structure Le (m p : Mdl) : Prop where
 names : m.1 <+: p.1
 procs : m.2.2.2.1 <+: p.2.2.2.1
 cmds : m.2.2.2.2.length ≤ p.2.2.2.2.length
theorem Le.refl (m : Mdl) : Le m m := ⟨List.prefix_refl _, List.prefix_refl _, Nat.le_refl _⟩
theorem Le.trans {a b c : Mdl} (h : Le a b) (k : Le b c) : Le a c := ⟨h.names.trans k.names, h.procs.trans k.procs, Nat.le_trans h.cmds k.cmds⟩
theorem Fit.le {m0 m p : Mdl} (h : Fit m0 p) (k : Le m p) : Fit m0 m := ⟨fun x hx => h.free x (by
  rcases hx with hx | hx
  ·exact .inl (k.names.mem hx)
  ·exact .inr (k.procs.mem hx)), by have := h.names; have := k.names.length_le; omega, by have := h.procs; have := k.procs.length_le; omega, by have := h.cmds; have := k.cmds; omega⟩
theorem zK {f : Nat} {m p : Mdl} {t : Tok} {r : List Tok} (h : bB (f + 1) m (t :: r) = .ok p) :
  (t.1 = 4 ∧ m.1 ≠ [] ∧ p = m) ∨ (t.1 ≠ 4 ∧ isT 1 [118, 97, 114] t = true ∧ ∃ m1 r1, jl m r = .ok (m1, r1) ∧ bB f m1 r1 = .ok p) ∨ (t.1 ≠ 4 ∧ isT 1 [118, 97, 114] t = false ∧ isT 1 [112, 114, 111, 99] t = true ∧ ∃ m1 r1, eT m r = .ok (m1, r1) ∧ bB f m1 r1 = .ok p) := by
 simp only [bB] at h
 cases c4 : (t.1 == 4)
 ·rw [c4] at h
  simp only [cond_false] at h
  have h4 : t.1 ≠ 4 := by simpa using c4
  cases cv : isT 1 [118, 97, 114] t
  ·rw [cv] at h
   simp only [cond_false] at h
   cases cp : isT 1 [112, 114, 111, 99] t
   ·rw [cp] at h; cases h
   ·rw [cp] at h
    simp only [cond_true] at h
    cases h1 : eT m r with
    | error e => rw [h1] at h; cases h
    | ok q => rw [h1] at h; exact .inr (.inr ⟨h4, rfl, rfl, q.1, q.2, rfl, h⟩)
  ·rw [cv] at h
   simp only [cond_true] at h
   cases h1 : jl m r with
   | error e => rw [h1] at h; cases h
   | ok q => rw [h1] at h; exact .inr (.inl ⟨h4, rfl, q.1, q.2, rfl, h⟩)
 ·rw [c4] at h
  simp only [cond_true] at h
  cases hne : m.1.isEmpty
  ·rw [hne] at h
   cases h
   exact .inl ⟨by simpa using c4, fun e => (by rw [e] at hne; cases hne), rfl⟩
  ·rw [hne] at h; cases h
theorem Iv {g : Nat} {M M1 : Mdl} {t t' : Tok} {r r' : List Tok} (hv : isT 1 [118, 97, 114] t = true) (ht : strip t' = strip t) (h : jl M r = .ok (M1, r')) : bB (g + 1) M (t' :: r) = bB g M1 r' := by
 have h4 : (t'.1 == 4) = false := by
  rw [st1 ht]
  exact beq_eq_false_iff_ne.2 (kE hv (by decide))
 simp only [bB, h4, nP ht, hv, cond_false, cond_true, h]
theorem Ia {g : Nat} {M M1 : Mdl} {t t' : Tok} {r r' : List Tok} (hv : isT 1 [118, 97, 114] t = false) (hp : isT 1 [112, 114, 111, 99] t = true) (ht : strip t' = strip t) (h : eT M r = .ok (M1, r')) : bB (g + 1) M (t' :: r) = bB g M1 r' := by
 have h4 : (t'.1 == 4) = false := by
  rw [st1 ht]
  exact beq_eq_false_iff_ne.2 (kE hp (by decide))
 simp only [bB, h4, nP ht, hv, hp, cond_false, cond_true, h]
theorem Pv {t : Tok} (h : qF t = false) : t.1 ≠ 4 := by
 intro e
 unfold qF at h
 rw [e] at h; cases h
theorem Oo : ∀ (f : Nat) (m p : Mdl) (ts : List Tok), Pa.Ends ts → NK m → bB f m ts = .ok p →
  ∃ a z r, ts = a ++ z :: r ∧ z.1 = 4 ∧ (∀ t ∈ a, t.1 ≠ 4) ∧ NK p ∧ Le m p ∧ p.1 ≠ [] ∧ 4 * p.2.2.2.2.length ≤ 4 * m.2.2.2.2.length + a.length ∧
   ∀ (m0 M : Mdl) a' r' f', RM m0 m M → Fit m0 p → tl a a' → a'.length < f' → ∃ g M1, f' ≤ g + a'.length ∧ bB f' M (a' ++ r') = bB g M1 r' ∧ RM m0 p M1 := by
 intro f
 induction f with
 | zero => intro _ _ _ _ _ h; simp [bB] at h
 | succ f ih =>
  intro m p ts he hk h
  obtain ⟨t, r, rfl⟩ := he.ne
  rcases zK h with ⟨h4, hne, rfl⟩ | ⟨h4, hv, m1, r1, h1, h2⟩ | ⟨h4, hv, hp, m1, r1, h1, h2⟩
  ·exact ⟨[], t, r, rfl, h4, fun u hu => (by cases hu), hk, Le.refl _, hne, by simp, fun m0 M a' r' f' hM hF ha hf => by
    have : a' = [] := by simpa [tl] using ha
    subst this
    exact ⟨f', M, by simp, rfl, hM⟩⟩
  ·obtain ⟨a, c, name, lo, hi, fi, rfl, hb, hc, her, hm1, hkn, hl⟩ := Pj (he.tail h4) h1
   have hk1 : NK m1 := by
    rw [hm1]
    intro n hn
    rcases List.mem_append.1 hn with hn | hn
    ·exact hk n hn
    ·rw [List.mem_singleton.1 hn]; exact hkn
   obtain ⟨a2, z, r2, rfl, hz, hn4, hkp, hle, hne, hcm, hl2⟩ := ih m1 p r1 her hk1 h2
   have hle1 : Le m m1 := by rw [hm1]; exact ⟨List.prefix_append _ _, List.prefix_refl _, Nat.le_refl _⟩
   refine ⟨t :: (a ++ c :: a2), z, r2, by simp, hz, fun u hu => ?_, hkp, hle1.trans hle, hne, ?_, fun m0 M a' r' f' hM hF ha hf => ?_⟩
   ·rcases List.mem_cons.1 hu with rfl | hu
    ·exact h4
    ·rcases List.mem_append.1 hu with hu | hu
     ·exact Pv (u7 (hb u hu))
     ·rcases List.mem_cons.1 hu with rfl | hu
      ·exact kE hc (by decide)
      ·exact hn4 u hu
   ·rw [hm1] at hcm
    simp only [List.length_cons, List.length_append] at hcm ⊢
    omega
   ·obtain ⟨t', b, rfl, ht', hb'⟩ := map_cons ha
    obtain ⟨b1, b2, rfl, hb1, hb2⟩ := ig hb'
    obtain ⟨c', b3, rfl, hc', hb3⟩ := map_cons hb2
    obtain ⟨M1, q1, q2⟩ := hl m0 M b1 c' (b3 ++ r') hM (hF.le hle) hb1 hc'
    obtain ⟨n, rfl⟩ : ∃ n, f' = n + 1 := ⟨f' - 1, by omega⟩
    simp only [List.length_cons, List.length_append] at hf
    obtain ⟨g, M2, g1, g2, g3⟩ := hl2 m0 M1 b3 r' n q2 hF hb3 (by omega)
    refine ⟨g, M2, by simp only [List.length_cons, List.length_append]; omega, ?_, g3⟩
    rw [List.cons_append, List.append_assoc, List.cons_append, Iv hv ht' q1, g2]
  ·obtain ⟨x, o, a, c, name, C, rfl, hx, hx1, ho, hb, hc, her, hm1, hC, hl⟩ := Nd (he.tail h4) hk h1
   have hk1 : NK m1 := by rw [hm1]; exact hk
   obtain ⟨a2, z, r2, rfl, hz, hn4, hkp, hle, hne, hcm, hl2⟩ := ih m1 p r1 her hk1 h2
   have hle1 : Le m m1 := by rw [hm1]; exact ⟨List.prefix_refl _, List.prefix_append _ _, by simp⟩
   refine ⟨t :: x :: o :: (a ++ c :: a2), z, r2, by simp, hz, fun u hu => ?_, hkp, hle1.trans hle, hne, ?_, fun m0 M a' r' f' hM hF ha hf => ?_⟩
   ·rcases List.mem_cons.1 hu with rfl | hu
    ·exact h4
    ·rcases List.mem_cons.1 hu with rfl | hu
     ·rw [hx1]; decide
     ·rcases List.mem_cons.1 hu with rfl | hu
      ·exact kE ho (by decide)
      ·rcases List.mem_append.1 hu with hu | hu
       ·exact Pv (hb u hu)
       ·rcases List.mem_cons.1 hu with rfl | hu
        ·exact kE hc (by decide)
        ·exact hn4 u hu
   ·rw [hm1] at hcm
    simp only [List.length_cons, List.length_append] at hcm ⊢
    omega
   ·obtain ⟨t', b, rfl, ht', hb'⟩ := map_cons ha
    obtain ⟨x', b0, rfl, hx', hb0⟩ := map_cons hb'
    obtain ⟨o', b00, rfl, ho', hb00⟩ := map_cons hb0
    obtain ⟨b1, b2, rfl, hb1, hb2⟩ := ig hb00
    obtain ⟨c', b3, rfl, hc', hb3⟩ := map_cons hb2
    obtain ⟨M1, q1, q2⟩ := hl m0 M x' o' b1 c' (b3 ++ r') hM (hF.le hle) hx' ho' hb1 hc'
    obtain ⟨n, rfl⟩ : ∃ n, f' = n + 1 := ⟨f' - 1, by omega⟩
    simp only [List.length_cons, List.length_append] at hf
    obtain ⟨g, M2, g1, g2, g3⟩ := hl2 m0 M1 b3 r' n q2 hF hb3 (by omega)
    refine ⟨g, M2, by simp only [List.length_cons, List.length_append]; omega, ?_, g3⟩
    simp only [List.cons_append, List.append_assoc]
    rw [Ia hv hp ht' q1, g2]
noncomputable def E0 : Mdl := ([], [], [], [], [])
theorem RM.none (m : Mdl) : RM m E0 m := ⟨by simp [E0], by simp [E0], by simp [E0], by simp [E0], by simp [E0]⟩
structure Few (p : Mdl) : Prop where
 names : p.1.length ≤ 16
 procs : p.2.2.2.1.length < 1000000
 cmds : p.2.2.2.2.length ≤ 256
theorem Few.fit {p : Mdl} (h : Few p) : Fit E0 p := ⟨fun x _ => ⟨List.not_mem_nil, List.not_mem_nil⟩, by have := h.names; simp [E0]; omega, by have := h.procs; simp [E0]; omega, by have := h.cmds; simp [E0]; omega⟩
end Mo
end Go.Proofs.YtdhgpnejphlfpaaDoor
namespace Go.Proofs.YtdhgpnejphlfpaaDoor
namespace Lx
noncomputable def Whole (x : Tok) : Prop := (∃ c s, x.2.1 = c :: s ∧ (c == 35) = false) ∧ step x.2.1 = .tok x.1 x.2.1 x.2.2.1
theorem JI : ∀ (s : Str) (l : List Tok), lex s = .ok l → ∀ x ∈ l.dropLast, Whole x := by
 intro s
 refine Ax (P := fun s => ∀ (l : List Tok), lex s = .ok l → ∀ x ∈ l.dropLast, Whole x) ?_ ?_ ?_ ?_ s
 ·intro l h; rw [lex_nil] at h; cases h; simp
 ·intro c s k hst ih l h x hx
  rw [rq hst] at h
  cases hl : lex ((c :: s).drop k) with
  | ok l' =>
   rw [hl] at h; simp only [shE, Except.ok.injEq] at h
   subst h
   rw [← List.map_dropLast] at hx
   obtain ⟨y, hy, rfl⟩ := List.mem_map.1 hx
   exact ih l' hl y hy
  | error e => rw [hl] at h; cases h
 ·intro c s e hst l h; rw [xo hst] at h; cases h
 ·intro c s k t n hst ih l h x hx
  rw [xJ hst] at h
  cases hl : lex ((c :: s).drop t.length) with
  | ok l' =>
   rw [hl] at h; simp only [shE, Cf, Except.ok.injEq] at h
   subst h
   have hne := BB _ _ hl
   rw [List.dropLast_cons_of_ne_nil (by simpa using hne)] at hx
   rcases List.mem_cons.1 hx with rfl | hx
   ·obtain ⟨h1, ⟨s', h2⟩, _, _⟩ := BM hst
    obtain ⟨_, hc, _, _⟩ := kO hst
    exact ⟨⟨c, s', h2, hc⟩, h1⟩
   ·rw [← List.map_dropLast] at hx
    obtain ⟨y, hy, rfl⟩ := List.mem_map.1 hx
    exact ih l' hl y hy
  | error e => rw [hl] at h; cases h
end Lx
end Go.Proofs.YtdhgpnejphlfpaaDoor
namespace Go.Proofs.YtdhgpnejphlfpaaDoor
mutual
noncomputable def same : Ex → Ex → Bool
 | .mk o n _ l, b => o == b.op && n == b.n && lz l b.l
noncomputable def lz : List Ex → List Ex → Bool
 | [], [] => true
 | x :: l, y :: m => same x y && lz l m
 | [], _ :: _ => false
 | _ :: _, [] => false
end
theorem FF (a b : Ex) : same a b = (a.op == b.op && a.n == b.n && lz a.l b.l) := by cases a; simp only [same, Ex.op, Ex.n, Ex.l]
theorem Bl : ∀ (l m : List Ex), l.length ≠ m.length → lz l m = false
 | [], [], h => absurd rfl h
 | x :: l, y :: m, h => by simp only [lz, Bl l m (by simpa using h), Bool.and_false]
 | [], _ :: _, _ => by simp only [lz]
 | _ :: _, [], _ => by simp only [lz]
theorem BU (k : Ex × Ex → Option Bool) (a b : Ex) (hk : ∀ x ∈ a.l, ∀ y, k (x, y) = some (same x y)) (hl : a.l.length < 4611686018427387904) :
  ∀ (r r' pre pre' : List Ex), a.l = pre ++ r → b.l = pre' ++ r' → pre.length = pre'.length → r.length = r'.length → ∀ (M : Nat), r.length < M → an (fN k a b) M (pre.length : Int) = some (lz r r')
 | [], r', pre, pre', h, h', _, hrr, M, hM => by
  obtain ⟨m, rfl⟩ : ∃ m, M = m + 1 := ⟨M - 1, by simp at hM; omega⟩
  obtain rfl : r' = [] := List.eq_nil_of_length_eq_zero (by simpa using hrr.symm)
  rw [au]
  simp only [fN, O3 h, cond_false, lz]
 | x :: r, r', pre, pre', h, h', hpp, hrr, M, hM => by
  obtain ⟨m, rfl⟩ : ∃ m, M = m + 1 := ⟨M - 1, by omega⟩
  obtain ⟨y, r'', rfl⟩ : ∃ y t, r' = y :: t := by
   cases r' with
   | nil => simp at hrr
   | cons y t => exact ⟨y, t, rfl⟩
  rw [au]
  have hlen : pre.length < 4611686018427387904 := by rw [h] at hl; simp at hl; omega
  have hx := hk x (by rw [h]; simp) y
  have ih := BU k a b hk hl r r'' (pre ++ [x]) (pre' ++ [y]) (by rw [h]; simp) (by rw [h']; simp) (by simp [hpp]) (by simpa using hrr) m (by simp at hM; omega)
  rw [show ((pre ++ [x]).length : Int) = ((pre.length + 1 : Nat) : Int) by simp] at ih
  have hy : idx b.l (pre.length : Int) = some y := by rw [hpp]; exact A1 h'
  simp only [fN, Pr h, cond_true, A1 h, hy, aq, hx, im hlen, lz]
  cases same x y
  ·rfl
  ·simp only [Bool.not_true, cond_false, Bool.true_and]; exact ih
theorem JO : ∀ (N : Nat) (a b : Ex), a.sz ≤ N → a.sz < 4611686018427387904 → an (fun k (s : Ex × Ex) => dD k s.1 s.2) N (a, b) = some (same a b) := by
 intro N
 induction N with
 | zero => intro e _ h; have := ug e; omega
 | succ N ih =>
  intro a b h hb
  rw [au]
  have hl := z4 a
  show dD _ a b = _
  unfold dD
  simp only [cz, bne]
  rw [FF]
  cases (a.op == b.op)
  ·rfl
  cases (a.n == b.n)
  ·rfl
  cases hq : ((List.length a.l : Int) == (List.length b.l : Int))
  ·simp only [Bool.not_true, Bool.or_false, Bool.not_false, Bool.or_true, cond_true, Bool.true_and]
   rw [Bl _ _ (by have := beq_eq_false_iff_ne.1 hq; omega)]
  ·simp only [Bool.not_true, Bool.or_false, cond_false, Bool.true_and]
   have hq' := beq_iff_eq.1 hq
   exact BU (an (fun k (s : Ex × Ex) => dD k s.1 s.2) N) a b (fun x hx y => ih x y (by have := qj hx; omega) (by have := qj hx; omega)) (by omega) a.l b.l [] [] rfl rfl rfl (by omega) ar (by show a.l.length < 2 ^ 64; omega)
theorem CL (a b : Ex) (h : a.sz < 4611686018427387904) : dX a b = some (same a b) := JO ar a b (by show a.sz ≤ 2 ^ 64; omega) h
end Go.Proofs.YtdhgpnejphlfpaaDoor
namespace Go.Proofs.YtdhgpnejphlfpaaDoor
noncomputable def iN {α β : Type} (R : α → β → Bool) : List α → List β → Bool
 | [], [] => true
 | x :: l, y :: m => R x y && iN R l m
 | _, _ => false
theorem yX {α β : Type} {R : α → β → Bool} : ∀ {l : List α} {m : List β}, l.length ≠ m.length → iN R l m = false
 | [], [], h => absurd rfl h
 | x :: l, y :: m, h => by simp only [iN, yX (l := l) (m := m) (by simpa using h), Bool.and_false]
 | [], _ :: _, _ => rfl
 | _ :: _, [], _ => rfl
theorem Av {α : Type} [DecidableEq α] : ∀ (l m : List α), iN (fun x y => decide (x = y)) l m = decide (l = m)
 | [], [] => by simp [iN]
 | x :: l, y :: m => by
  simp only [iN, Av l m, List.cons.injEq, Bool.decide_and]
 | [], _ :: _ => by simp [iN]
 | _ :: _, [] => by simp [iN]
theorem B0 {α β : Type} {F : (Int → Option Bool) → Int → Option Bool} {s1 : List α} {s2 : List β} {R : α → β → Bool} (hl : s1.length < 4611686018427387904)
  (hstep : ∀ again (i : Nat) (x : α) (y : β), s1[i]? = some x → s2[i]? = some y → F again (i : Int) = bif R x y then again (((i + 1 : Nat) : Int)) else some false)
  (hend : ∀ again, F again (s1.length : Int) = some true) :
  ∀ (r : List α) (r' : List β) (pre : List α) (pre' : List β), s1 = pre ++ r → s2 = pre' ++ r' → pre.length = pre'.length → r.length = r'.length → ∀ M, r.length < M → an F M (pre.length : Int) = some (iN R r r')
 | [], r', pre, pre', h, h', hp, hr, M, hM => by
  obtain ⟨m, rfl⟩ : ∃ m, M = m + 1 := ⟨M - 1, by simp at hM; omega⟩
  obtain rfl : r' = [] := List.eq_nil_of_length_eq_zero (by simpa using hr.symm)
  rw [au]
  have : pre = s1 := by simpa using h.symm
  rw [this]
  exact hend _
 | x :: r, [], pre, pre', h, h', hp, hr, M, hM => by simp at hr
 | x :: r, y :: r', pre, pre', h, h', hp, hr, M, hM => by
  obtain ⟨m, rfl⟩ : ∃ m, M = m + 1 := ⟨M - 1, by omega⟩
  rw [au]
  have ih := B0 hl hstep hend r r' (pre ++ [x]) (pre' ++ [y]) (by rw [h]; simp) (by rw [h']; simp) (by simp [hp]) (by simpa using hr) m (by simp at hM; omega)
  rw [show ((pre ++ [x]).length : Int) = ((pre.length + 1 : Nat) : Int) by simp] at ih
  rw [hstep _ pre.length x y (by rw [h]; simp) (by rw [h', hp]; simp), ih]
  simp only [iN]
  cases R x y <;> rfl
theorem yJ {α β : Type} {F : (Int → Option Bool) → Int → Option Bool} {s1 : List α} {s2 : List β} {R : α → β → Bool} (hl : s1.length < 4611686018427387904) (he : s1.length = s2.length)
  (hstep : ∀ again (i : Nat) (x : α) (y : β), s1[i]? = some x → s2[i]? = some y → F again (i : Int) = bif R x y then again (((i + 1 : Nat) : Int)) else some false)
  (hend : ∀ again, F again (s1.length : Int) = some true) : an F ar 0 = some (iN R s1 s2) :=
 B0 hl hstep hend s1 s2 [] [] rfl rfl rfl he ar (by show _ < 2 ^ 64; omega)
theorem mC {α : Type} {l : List α} {i : Nat} {x : α} (h : l[i]? = some x) : idx l (i : Int) = some x ∧ i < l.length := ⟨by simp [idx, h], (List.getElem?_eq_some_iff.1 h).1⟩
theorem zo {α β : Type} {l : List α} {m : List β} : ((List.length l : Int) != (List.length m : Int)) = !decide (l.length = m.length) := by
 by_cases h : l.length = m.length
 ·rw [decide_eq_true h, h]; simp
 ·rw [decide_eq_false h]; simp; omega
mutual
theorem AE : ∀ x y : Ex, mp 0 x = mp 0 y → same x y = true
 | .mk o n a l, .mk o' n' a' l', h => by
  simp only [mp, Ex.mk.injEq, true_and] at h
  obtain ⟨h1, h2, h3⟩ := h
  subst h1
  have hn : n = n' := by
   cases hc : (o == 2)
   ·rw [hc] at h2; exact h2
   ·rw [hc] at h2; simp only [cond_true] at h2; omega
  subst hn
  rw [FF]
  simp only [Ex.op, Ex.n, Ex.l, beq_self_eq_true, Bool.true_and]
  exact CC l l' h3
theorem CC : ∀ l m : List Ex, mpL 0 l = mpL 0 m → lz l m = true
 | [], [], _ => by simp only [lz]
 | x :: l, y :: m, h => by
  simp only [mpL, List.cons.injEq] at h
  simp only [lz, AE x y h.1, CC l m h.2, Bool.and_self]
 | [], _ :: _, h => by simp [mpL] at h
 | _ :: _, [], h => by simp [mpL] at h
end
namespace Mo
open Pa Sy
noncomputable def Ad (x y : Int × Ex) : Bool := x.1 == y.1 && same x.2 y.2
noncomputable def xI (x y : Cmd) : Bool := x.1 == y.1 && same x.2.1 y.2.1 && iN Ad x.2.2 y.2.2
noncomputable def Cj (m n : Mdl) : Bool := decide (m.1 = n.1) && decide (m.2.1 = n.2.1) && decide (m.2.2.1 = n.2.2.1) && decide (m.2.2.2.1 = n.2.2.2.1) && iN xI m.2.2.2.2 n.2.2.2.2
theorem Bq : ∀ (l m : List (Int × Ex)), m.map od = l.map od → iN Ad l m = true
 | [], [], _ => rfl
 | x :: l, y :: m, h => by
  simp only [List.map_cons, List.cons.injEq] at h
  obtain ⟨h1, h2⟩ := h
  have e1 : y.1 = x.1 := congrArg (·.1) h1
  have e2 : mp 0 y.2 = mp 0 x.2 := congrArg (·.2) h1
  simp only [iN, Ad, e1, beq_self_eq_true, AE x.2 y.2 e2.symm, Bq l m h2, Bool.and_self]
 | [], _ :: _, h => by simp at h
 | _ :: _, [], h => by simp at h
theorem BX : ∀ (l m : List Cmd), m.map ri = l.map ri → iN xI l m = true
 | [], [], _ => rfl
 | x :: l, y :: m, h => by
  simp only [List.map_cons, List.cons.injEq] at h
  obtain ⟨h1, h2⟩ := h
  have e1 : y.1 = x.1 := congrArg (·.1) h1
  have e2 : mp 0 y.2.1 = mp 0 x.2.1 := congrArg (·.2.1) h1
  have e3 : y.2.2.map od = x.2.2.map od := congrArg (·.2.2) h1
  simp only [iN, xI, e1, beq_self_eq_true, AE x.2.1 y.2.1 e2.symm, Bq _ _ e3, BX l m h2, Bool.and_self]
 | [], _ :: _, h => by simp at h
 | _ :: _, [], h => by simp at h
theorem Ke {m n : Mdl} (h : eqM m n) : Cj m n = true := by
 obtain ⟨h1, h2, h3, h4, h5⟩ := h
 unfold Cj
 rw [h1, h2, h3, h4, BX _ _ h5]
 simp
structure Sml (m : Mdl) : Prop where
 names : m.1.length < 4611686018427387904
 schema : m.2.1.length < 4611686018427387904
 init : m.2.2.1.length < 4611686018427387904
 procs : m.2.2.2.1.length < 4611686018427387904
 cmds : m.2.2.2.2.length < 4611686018427387904
 cmd : ∀ c ∈ m.2.2.2.2, c.2.1.sz < 4611686018427387904 ∧ c.2.2.length < 4611686018427387904 ∧ ∀ s ∈ c.2.2, s.2.sz < 4611686018427387904
theorem Sml.empty : Sml ([], [], [], [], []) := ⟨by decide, by decide, by decide, by decide, by decide, fun c h => by cases h⟩
theorem Sml.of {m : Mdl} (h : Part m) (hq : m.2.2.2.1.length < 4611686018427387904) : Sml m := ⟨by have := h.names; omega, by have := h.schema; have := h.names; omega, by have := h.init; have := h.names; omega, hq, by have := h.cmds; omega, fun c hc => by
 have := h.cmd c hc
 exact ⟨by have := this.sz; omega, by have := this.len; omega, fun s hs => by have := (this.sets s hs).sz; omega⟩⟩
theorem Jq (x y : Int × Int) : xG x.1 x.2 y.1 y.2 = decide (x = y) := by
 obtain ⟨a, b⟩ := x
 obtain ⟨c, d⟩ := y
 simp only [xG, Prod.mk.injEq, Bool.decide_and]
 congr 1
theorem Gi {l m : List Str} (hl : l.length < 4611686018427387904) : dc l m = some (decide (l = m)) := by
 unfold dc
 rw [zo]
 by_cases h : l.length = m.length
 ·rw [decide_eq_true h]
  rw [Bool.not_true, cond_false, yJ (R := fun x y => decide (x = y)) hl h (fun again i x y hx hy => ?_) (fun again => ?_), Av]
  ·obtain ⟨x1, x2⟩ := mC hx
   obtain ⟨y1, y2⟩ := mC hy
   simp only [iS, x1, y1, aq, decide_eq_true (show ((i : Nat) : Int) < (l.length : Int) by omega), cond_true, Pa.gW (show i < 4611686018427387904 by omega)]
   by_cases e : x = y
   ·rw [decide_eq_true e, e]; simp
   ·rw [decide_eq_false e, show (x != y) = true by simpa using e]; rfl
  ·simp only [iS, decide_eq_false (show ¬ (l.length : Int) < (l.length : Int) by omega), cond_false]
 ·rw [decide_eq_false h, decide_eq_false (fun e => h (by rw [e]))]; rfl
theorem P6 {l m : List Int} (hl : l.length < 4611686018427387904) : gu l m = some (decide (l = m)) := by
 unfold gu
 rw [zo]
 by_cases h : l.length = m.length
 ·rw [decide_eq_true h]
  rw [Bool.not_true, cond_false, yJ (R := fun x y => decide (x = y)) hl h (fun again i x y hx hy => ?_) (fun again => ?_), Av]
  ·obtain ⟨x1, x2⟩ := mC hx
   obtain ⟨y1, y2⟩ := mC hy
   simp only [jG, x1, y1, aq, decide_eq_true (show ((i : Nat) : Int) < (l.length : Int) by omega), cond_true, Pa.gW (show i < 4611686018427387904 by omega)]
   by_cases e : x = y
   ·rw [decide_eq_true e, e]; simp
   ·rw [decide_eq_false e, show (x != y) = true by simpa using e]; rfl
  ·simp only [jG, decide_eq_false (show ¬ (l.length : Int) < (l.length : Int) by omega), cond_false]
 ·rw [decide_eq_false h, decide_eq_false (fun e => h (by rw [e]))]; rfl
/-! the program's Same -/
/-! the document's Same -/
theorem L0 {m n : Mdl} {i : Nat} {c d : Cmd} (hc : m.2.2.2.2[i]? = some c) (hd : n.2.2.2.2[i]? = some d) (hl : c.2.2.length < 4611686018427387904) (hs : ∀ s ∈ c.2.2, s.2.sz < 4611686018427387904)
  (_he : c.2.2.length = d.2.2.length) (again : Int → Option Bool) : ∀ (r r' pre pre' : List (Int × Ex)), c.2.2 = pre ++ r → d.2.2 = pre' ++ r' → pre.length = pre'.length → r.length = r'.length → ∀ M, r.length < M →
  an (fT m n (i : Int) again) M (pre.length : Int) = bif iN Ad r r' then again (IntKind.i64.wrap ((i : Int) + 1)) else some false := by
 obtain ⟨c1, c2⟩ := mC hc
 obtain ⟨d1, d2⟩ := mC hd
 intro r
 induction r with
 | nil =>
  intro r' pre pre' h h' hp hr M hM
  obtain ⟨k, rfl⟩ : ∃ k, M = k + 1 := ⟨M - 1, by simp at hM; omega⟩
  obtain rfl : r' = [] := List.eq_nil_of_length_eq_zero (by simpa using hr.symm)
  rw [au]
  simp only [fT, c1, aq, Sy.G0 h, cond_false]
  rfl
 | cons x r ih =>
  intro r' pre pre' h h' hp hr M hM
  obtain ⟨k, rfl⟩ : ∃ k, M = k + 1 := ⟨M - 1, by omega⟩
  obtain ⟨y, r'', rfl⟩ : ∃ y t, r' = y :: t := by
   cases r' with
   | nil => simp at hr
   | cons y t => exact ⟨y, t, rfl⟩
  rw [au]
  have hlen : pre.length < 4611686018427387904 := by rw [h] at hl; simp at hl; omega
  have ih := ih r'' (pre ++ [x]) (pre' ++ [y]) (by rw [h]; simp) (by rw [h']; simp) (by simp [hp]) (by simpa using hr) k (by simp at hM; omega)
  rw [show ((pre ++ [x]).length : Int) = ((pre.length + 1 : Nat) : Int) by simp] at ih
  have hy : idx d.2.2 (pre.length : Int) = some y := by rw [hp]; exact Sy.mid h'
  have hsx := CL x.2 y.2 (hs x (by rw [h]; simp))
  simp only [fT, c1, d1, aq, Sy.G2 h, cond_true, Sy.mid h, hy, hsx, cz, im hlen, ih, iN, Ad]
  cases same x.2 y.2
  ·rw [Bool.and_false]; rfl
  ·simp only [Bool.not_true, Bool.not_false, tT, cond_true, Bool.false_or, bne, Sy.mid h, hy]
   cases (x.1 == y.1) <;> rfl
theorem NS {m n : Mdl} (h : Sml m) : fE m n = some (Cj m n) := by
 unfold fE
 rw [Gi h.names, aq, Gi h.procs, aq, P6 h.init, aq]
 simp only [cz, zo]
 unfold Cj
 by_cases h1 : m.1 = n.1
 case neg => rw [decide_eq_false h1]; rfl
 by_cases h4 : m.2.2.2.1 = n.2.2.2.1
 case neg => rw [decide_eq_false h4]; simp
 by_cases h3 : m.2.2.1 = n.2.2.1
 case neg => rw [decide_eq_false h3]; simp
 by_cases l2 : m.2.1.length = n.2.1.length
 case neg => rw [decide_eq_false l2, decide_eq_false (fun e : m.2.1 = n.2.1 => l2 (by rw [e]))]; simp
 by_cases l5 : m.2.2.2.2.length = n.2.2.2.2.length
 case neg => rw [decide_eq_false l5, yX l5]; simp
 rw [decide_eq_true h1, decide_eq_true h4, decide_eq_true h3, decide_eq_true l2, decide_eq_true l5]
 simp only [Bool.not_true, Bool.or_false, cond_false, Bool.and_true, Bool.true_and]
 have cm : an (fR m n) ar 0 = some (iN xI m.2.2.2.2 n.2.2.2.2) := by
  refine yJ h.cmds l5 (fun again i x y hx hy => ?_) (fun again => ?_)
  ·obtain ⟨x1, x2⟩ := mC hx
   obtain ⟨y1, y2⟩ := mC hy
   obtain ⟨c1, c2, c3⟩ := h.cmd x (List.mem_of_getElem? hx)
   have i1 := CL x.2.1 y.2.1 c1
   have hlc := h.cmds
   have i2 := fun he => L0 hx hy c2 c3 he again x.2.2 y.2.2 [] [] rfl rfl rfl he ar (by show _ < 2 ^ 64; omega)
   simp only [fR, x1, y1, aq, decide_eq_true (show ((i : Nat) : Int) < (m.2.2.2.2.length : Int) by omega), cond_true, i1, cz, zo, xI]
   cases same x.2.1 y.2.1
   ·rw [Bool.and_false, Bool.false_and]; rfl
   ·simp only [Bool.not_true, Bool.not_false, tT, cond_true, Bool.false_or, bne]
    by_cases hq : (x.1 == y.1) = true
    case neg =>
     have hq' : (x.1 == y.1) = false := by simpa using hq
     simp only [hq', Bool.not_false, Bool.true_or, cond_true, Bool.false_and, cond_false]
    ·simp only [hq, Bool.not_true, Bool.not_false, cond_true, Bool.false_or, Bool.and_true, Bool.true_and]
     by_cases he : x.2.2.length = y.2.2.length
     ·rw [decide_eq_true he]
      simp only [Bool.not_true, cond_false]
      have := i2 he
      rw [Pa.gW (show i < 4611686018427387904 by omega)] at this
      exact this
     ·rw [decide_eq_false he, yX he]; rfl
  ·simp only [fR, decide_eq_false (show ¬ (m.2.2.2.2.length : Int) < (m.2.2.2.2.length : Int) by omega), cond_false]
 -- the ranges, and then the commands
 have key : ∀ (r r' pre pre' : List (Int × Int)), m.2.1 = pre ++ r → n.2.1 = pre' ++ r' → pre.length = pre'.length → r.length = r'.length → ∀ M, r.length < M →
   an (fO m n) M (pre.length : Int) = some (decide (r = r') && iN xI m.2.2.2.2 n.2.2.2.2) := by
  intro r
  induction r with
  | nil =>
   intro r' pre pre' h h' hp hr M hM
   obtain ⟨k, rfl⟩ : ∃ k, M = k + 1 := ⟨M - 1, by simp at hM; omega⟩
   obtain rfl : r' = [] := List.eq_nil_of_length_eq_zero (by simpa using hr.symm)
   rw [au]
   simp only [fO, Sy.G0 h, cond_false]
   rw [cm]; rfl
  | cons x r ih =>
   intro r' pre pre' h' h'' hp hr M hM
   obtain ⟨k, rfl⟩ : ∃ k, M = k + 1 := ⟨M - 1, by omega⟩
   obtain ⟨y, r'', rfl⟩ : ∃ y t, r' = y :: t := by
    cases r' with
    | nil => simp at hr
    | cons y t => exact ⟨y, t, rfl⟩
   rw [au]
   have hlen : pre.length < 4611686018427387904 := by have hl := h.schema; rw [h'] at hl; simp at hl; omega
   have ih := ih r'' (pre ++ [x]) (pre' ++ [y]) (by rw [h']; simp) (by rw [h'']; simp) (by simp [hp]) (by simpa using hr) k (by simp at hM; omega)
   rw [show ((pre ++ [x]).length : Int) = ((pre.length + 1 : Nat) : Int) by simp] at ih
   have hy : idx n.2.1 (pre.length : Int) = some y := by rw [hp]; exact Sy.mid h''
   simp only [fO, aq, Sy.G2 h', cond_true, Sy.mid h', hy, Jq, im hlen, ih, List.cons.injEq, Bool.decide_and]
   cases decide (x = y) <;> rfl
 exact key m.2.1 n.2.1 [] [] rfl rfl rfl l2 ar (by have := h.schema; show _ < 2 ^ 64; omega)
end Mo
end Go.Proofs.YtdhgpnejphlfpaaDoor
namespace Go.Proofs.YtdhgpnejphlfpaaDoor
namespace Mo
open Pa Sy
noncomputable def pZ (N : List Str) (f : Nat) (acc : List (Int × Ex)) (ts : List Tok) : Except Err (List (Int × Ex) × List Tok) := match eo N f acc ts with
 | .error e => .error e
 | .ok p => match aZ [59] p.2 with
  | .error e => .error e
  | .ok r => .ok (p.1, r)
theorem NN {N : List Str} {f : Nat} {acc : List (Int × Ex)} {ts : List Tok} {e : Err} (h : mf N acc ts = .error e) : pZ N (f + 1) acc ts = .error e := by
 unfold pZ
 rw [mw, h]
theorem H7 {N : List Str} {f : Nat} {acc : List (Int × Ex)} {ts : List Tok} {p : (Int × Ex) × List Tok} (h : mf N acc ts = .ok p) (hh : isH 3 [44] p.2 = true) : pZ N (f + 1) acc ts = pZ N f (acc ++ [p.1]) p.2.tail := by
 unfold pZ
 rw [mw, h]
 simp only [hh, cond_true]
theorem zt {N : List Str} {f : Nat} {acc : List (Int × Ex)} {ts : List Tok} {p : (Int × Ex) × List Tok} (h : mf N acc ts = .ok p) (hh : isH 3 [44] p.2 = false) : pZ N (f + 1) acc ts = match aZ [59] p.2 with
  | .error e => .error e
  | .ok r => .ok (acc ++ [p.1], r) := by
 unfold pZ
 rw [mw, h]
 simp only [hh, cond_false]
theorem PC {t : Tok} (h : isT 3 [59] t = true) : isT 3 [44] t = false := by
 unfold isT at *
 simp only [Bool.and_eq_true, beq_iff_eq] at h
 rw [h.2, Bool.and_eq_false_iff]
 exact .inr (by decide)
section
variable {l : List Tok} (N : List Str) (S_ : List (Int × Int)) (I : List Int) (Q : List Str) (C : List Cmd)
theorem Iq (hk : l.length < 1099511627776) (hN : N.length < 1099511627776) (hC : C.length < 1000000) (g : Ex × Int) : ∀ (f : Nat) (acc : List (Int × Ex)) (k M : Nat), Pa.Ends (l.drop k) → (l.drop k).length < f → (l.drop k).length < M → acc.length ≤ k → k ≤ l.length →
  Rd l (pZ N f acc (l.drop k)) (fun sets k' => (k', C ++ [(IntKind.i64.wrap ((Q.length : Int) - 1), g.1, sets)])) (an (jj l N S_ I Q C g) M ((k : Int), acc))
 | 0, acc, k, M, he, hf, hM, ha, hkl => by omega
 | f + 1, acc, k, 0, he, hf, hM, ha, hkl => by omega
 | f + 1, acc, k, M + 1, he, hf, hM, ha, hkl => by
  rw [au]
  simp only [jj]
  have h1 := Dt N S_ I Q C (l := l) (k := k) he hk hN (acc := acc) (by omega)
  cases ho : mf N acc (l.drop k) with
  | error e =>
   rw [ho] at h1
   rw [NN ho, show cJ acc l (k : Int) N S_ I Q C = some (.error e) from h1]
   rfl
  | ok p =>
   rw [ho] at h1
   obtain ⟨k1, hm1, hd1⟩ := h1
   have hsh := Gh he ho
   obtain ⟨t2, r2, ht2⟩ := hsh.1.ne
   have hd2 : l.drop k1 = t2 :: r2 := by rw [hd1, ht2]
   have hlt := (ik hd2).2.2.1
   have hkk : k < k1 := qx rfl hd1 hsh.2
   rw [hm1, eM]
   simp only
   rw [Sy.sM (Sy.qz (by simp; omega) (by simp; omega)), AZ N S_ I Q C hd2, aq]
   cases h59 : isT 3 [59] t2
   ·simp only [cond_false]
    have hs := wU N S_ I Q C (l := l) (k := k1) (by rw [hd1]; exact hsh.1) (by omega) [44]
    rw [hd2] at hs
    cases h44 : isT 3 [44] t2
    ·have e1 : aZ [44] (t2 :: r2) = .error (2, t2.2.2.2) := by simp only [aZ, h44, cond_false]
     have e2 : aZ [59] (t2 :: r2) = .error (2, t2.2.2.2) := by simp only [aZ, h59, cond_false]
     rw [e1] at hs
     rw [zt ho (by rw [ht2]; exact h44), ht2, e2, show ba [44] l (k1 : Int) N S_ I Q C = some (.error (2, t2.2.2.2)) from hs]
     rfl
    ·have e1 : aZ [44] (t2 :: r2) = .ok r2 := by simp only [aZ, h44, cond_true]
     rw [e1] at hs
     obtain ⟨k2, hm2, hd3⟩ := hs
     have hr2 : Pa.Ends r2 := by
      have := hsh.1
      rw [ht2] at this
      exact this.tail (kE h44 (by decide))
     have hk2 : k1 < k2 := qx hd2 hd3 (by simp)
     have hlen2 : (l.drop k2).length < (l.drop k).length := by
      rw [hd3]
      have := hsh.2
      rw [ht2] at this
      simp only [List.length_cons] at this
      omega
     have hk2l : k2 ≤ l.length := by
      obtain ⟨t3, r3, ht3⟩ := hr2.ne
      have := (ik (hd3.trans ht3)).2.2.1
      omega
     rw [hm2, eM, H7 ho (by rw [ht2]; exact h44), ht2]
     have := Iq hk hN hC g f (acc ++ [p.1]) k2 M (by rw [hd3]; exact hr2) (by omega) (by omega) (by simp; omega) hk2l
     rw [hd3] at this
     exact this
   ·simp only [cond_true]
    have e2 : aZ [59] (t2 :: r2) = .ok r2 := by simp only [aZ, h59, cond_true]
    rw [Sy.sM (Sy.qz (by simp; omega) (by simp; omega)), zt ho (by rw [ht2]; exact PC h59), ht2, e2]
    exact ⟨k1 + 1, by rw [gW (show k1 < 4611686018427387904 by omega)], (ik hd2).2.1⟩
variable {k : Nat}
theorem JG (he : Pa.Ends (l.drop k)) (hk : l.length < 1099511627776) (hN : N.length < 1099511627776) (_hkl : k ≤ l.length) :
  Rd l (kg (N, S_, I, Q, C) (l.drop k)) (fun m' k' => (k', m'.2.2.2.2)) (fD l (k : Int) N S_ I Q C) := by
 obtain ⟨t, r, ht⟩ := he.ne
 unfold fD kg
 simp only [cz]
 cases h256 : decide (256 ≤ (List.length C : Int))
 ·have hC : C.length < 256 := by have := of_decide_eq_false h256; omega
  simp only [cond_false, mB]
  have hx := wT N S_ I Q C (l := l) (k := k) he hk (by omega) 2
  cases h1 : dY 2 N (l.drop k) with
  | error e =>
   rw [h1] at hx
   rw [show bH 2 l (k : Int) N S_ I Q C = some (.error e) from hx]
   rfl
  | ok p =>
   rw [h1] at hx
   obtain ⟨k1, hm1, hd1⟩ := hx
   have he1 := (gL he h1).1
   have hk1 : k < k1 := qx rfl hd1 he1.2
   rw [hm1, eM]
   have hs := wU N S_ I Q C (l := l) (k := k1) (by rw [hd1]; exact he1.1) (by omega) [58]
   rw [hd1] at hs
   simp only
   cases h2 : aZ [58] p.2 with
   | error e =>
    rw [h2] at hs
    rw [show ba [58] l (k1 : Int) N S_ I Q C = some (.error e) from hs]
    rfl
   | ok r2 =>
    rw [h2] at hs
    obtain ⟨k2, hm2, hd2⟩ := hs
    have he2 := dJ he1.1 h2
    have hk2 : k1 < k2 := qx hd1 hd2 he2.2
    rw [hm2, eM]
    have hk2l : k2 ≤ l.length := by
     obtain ⟨t3, r3, ht3⟩ := he2.1.ne
     have := (ik (hd2.trans ht3)).2.2.1
     omega
    have hdl : (l.drop k2).length ≤ l.length := by simp
    have hl := Iq (l := l) N S_ I Q C hk hN (by omega) (p.1, (k1 : Int)) (r2.length + 1) [] k2 ar (by rw [hd2]; exact he2.1) (by rw [hd2]; omega) (by show _ < 2 ^ 64; omega) (by simp) hk2l
    rw [hd2] at hl
    unfold pZ at hl
    simp only
    cases h3 : eo N (r2.length + 1) [] r2 with
    | error e => rw [h3] at hl; exact hl
    | ok q =>
     rw [h3] at hl
     simp only at hl ⊢
     cases h4 : aZ [59] q.2 with
     | error e => rw [h4] at hl; exact hl
     | ok r4 =>
      rw [h4] at hl
      obtain ⟨k4, hm4, hd4⟩ := hl
      exact ⟨k4, hm4, hd4⟩
 ·simp only [cond_true, lj N S_ I Q C ht, jn]
  rw [ht]
  rfl
end
end Mo
end Go.Proofs.YtdhgpnejphlfpaaDoor
namespace Go.Proofs.YtdhgpnejphlfpaaDoor
namespace Mo
open Pa Sy
theorem MP : ∃ m, ar = m + 2 := ⟨18446744073709551614, rfl⟩
theorem Ni (lo hi : Int) : kj [(lo, hi)] = some (dk lo hi) := by
 obtain ⟨m, hm⟩ := MP
 unfold kj kb gE iH
 rw [hm]
 have h1 : (decide ((1 : Int) ≤ (List.length ([(lo, hi)] : List (Int × Int)) : Int)) && decide ((List.length ([(lo, hi)] : List (Int × Int)) : Int) ≤ 17)) = true := rfl
 simp only [cz]
 rw [h1, gi, Sy.sM (by rfl), Sy.sM (by rfl)]
 have h2 : an (fv [(lo, hi)]) (m + 2) (List.replicate (Int.toNat (List.length ([(lo, hi)] : List (Int × Int)) : Int)) false, 0) = some [dk lo hi] := by
  rw [au]
  have hb : kl (lo, hi) = some (dk lo hi) := by
   unfold kl dk
   simp only [cz]
   congr 1
   by_cases a1 : lo < -1073741824 <;> by_cases a2 : 1073741824 < hi <;> by_cases a3 : hi < lo <;> by_cases a4 : 65535 < IntKind.i64.wrap (hi - lo) <;>
    simp [a1, a2, a3, a4] <;> omega
  simp only [fv]
  rw [show decide ((0 : Int) < (List.length ([(lo, hi)] : List (Int × Int)) : Int)) = true from rfl, cond_true, show idx ([(lo, hi)] : List (Int × Int)) 0 = some (lo, hi) from rfl, aq, hb, aq]
  rw [show idx (List.replicate (Int.toNat (List.length ([(lo, hi)] : List (Int × Int)) : Int)) false) 0 = some false from rfl, aq]
  rw [show IntKind.i64.wrap (0 + 1) = (1 : Int) from rfl, au]
  simp only [fv]
  rw [show decide ((1 : Int) < (List.length ([(lo, hi)] : List (Int × Int)) : Int)) = false from rfl, cond_false]
  rfl
 rw [h2, aq, gi]
 have h3 : an (dZ [dk lo hi] false) (m + 2) 0 = some (bif dk lo hi then -1 else 0) := by
  rw [au]
  simp only [dZ]
  rw [show decide ((0 : Int) < (List.length ([dk lo hi] : List Bool) : Int)) = true from rfl, cond_true, show idx ([dk lo hi] : List Bool) 0 = some (dk lo hi) from rfl, aq]
  rw [show IntKind.i64.wrap (0 + 1) = (1 : Int) from rfl, au]
  simp only [dZ]
  rw [show decide ((1 : Int) < (List.length ([dk lo hi] : List Bool) : Int)) = false from rfl, cond_false]
  cases dk lo hi <;> rfl
 rw [h3, aq, aq]
 cases dk lo hi <;> rfl
theorem Qt (lo hi v : Int) : ng [(lo, hi)] [v] = some (bif decide (lo ≤ v) && decide (v ≤ hi) then 0 else 5) := by
 obtain ⟨m, hm⟩ := MP
 unfold ng
 rw [hm, show ((List.length ([v] : List Int) : Int) != (List.length ([(lo, hi)] : List (Int × Int)) : Int)) = false from rfl, cond_false, au]
 simp only [np]
 rw [show decide ((0 : Int) < (List.length ([v] : List Int) : Int)) = true from rfl, cond_true, show idx ([v] : List Int) 0 = some v from rfl, aq, show idx ([(lo, hi)] : List (Int × Int)) 0 = some (lo, hi) from rfl, aq]
 rw [show nc (lo, hi) v = some (decide (lo ≤ v) && decide (v ≤ hi)) from rfl, aq, show IntKind.i64.wrap (0 + 1) = (1 : Int) from rfl, au]
 simp only [np]
 rw [show decide ((1 : Int) < (List.length ([v] : List Int) : Int)) = false from rfl, cond_false]
 cases (decide (lo ≤ v) && decide (v ≤ hi)) <;> rfl
theorem Ga (a b : Int) : decide (a < b) = !decide (b ≤ a) := by
 by_cases h : a < b
 ·rw [decide_eq_true h, decide_eq_false (by omega)]; rfl
 ·rw [decide_eq_false h, decide_eq_true (by omega)]; rfl
section
variable {l : List Tok} {k : Nat} (N : List Str) (S_ : List (Int × Int)) (I : List Int) (Q : List Str) (C : List Cmd)
theorem GU (he : Pa.Ends (l.drop k)) (hk : l.length < 1099511627776) (hN : N.length ≤ l.length) (hS : S_.length ≤ l.length) (hI : I.length ≤ l.length) (hQ : Q.length ≤ l.length) :
  Rd l (jl (N, S_, I, Q, C) (l.drop k)) (fun m' k' => (k', m'.1, m'.2.1, m'.2.2.1)) (eX l (k : Int) N S_ I Q C) := by
 unfold eX jl
 have h1 := Ix N S_ I Q C (l := l) (k := k) he (by omega) (by omega) (by omega) (decide (16 ≤ (N.length : Int)))
 simp only
 try simp only [cz]
 cases e1 : er (decide (16 ≤ (N.length : Int))) N Q (l.drop k) with
 | error e => rw [e1] at h1; rw [show ew _ l (k : Int) N S_ I Q C = some (.error e) from h1]; rfl
 | ok p1 =>
  rw [e1] at h1
  obtain ⟨k1, m1, d1⟩ := h1
  have s1 := (oh he e1).1
  obtain ⟨t1, r1, ht1⟩ := s1.1.ne
  rw [m1, eM]
  simp only
  rw [qM N S_ I Q C (d1.trans ht1), aq]
  have h2 := yW N S_ I Q C (l := l) (k := k1) (by rw [d1]; exact s1.1) (by omega)
  rw [d1] at h2
  cases e2 : eY p1.2 with
  | error e => rw [e2] at h2; rw [show cI l (k1 : Int) N S_ I Q C = some (.error e) from h2]; rfl
  | ok p2 =>
   rw [e2] at h2
   obtain ⟨k2, m2, d2⟩ := h2
   have s2 := qu s1.1 e2
   rw [m2, eM]
   simp only
   have h3 := yW N S_ I Q C (l := l) (k := k2) (by rw [d2]; exact s2.1) (by omega)
   rw [d2] at h3
   cases e3 : eY p2.2 with
   | error e => rw [e3] at h3; rw [show cI l (k2 : Int) N S_ I Q C = some (.error e) from h3]; rfl
   | ok p3 =>
    rw [e3] at h3
    obtain ⟨k3, m3, d3⟩ := h3
    have s3 := qu s2.1 e3
    rw [m3, eM]
    simp only
    have h4 := yW N S_ I Q C (l := l) (k := k3) (by rw [d3]; exact s3.1) (by omega)
    rw [d3] at h4
    cases e4 : eY p3.2 with
    | error e => rw [e4] at h4; rw [show cI l (k3 : Int) N S_ I Q C = some (.error e) from h4]; rfl
    | ok p4 =>
     rw [e4] at h4
     obtain ⟨k4, m4, d4⟩ := h4
     have s4 := qu s3.1 e4
     rw [m4, eM]
     simp only
     have h5 := wU N S_ I Q C (l := l) (k := k4) (by rw [d4]; exact s4.1) (by omega) [59]
     rw [d4] at h5
     cases e5 : aZ [59] p4.2 with
     | error e => rw [e5] at h5; rw [show ba [59] l (k4 : Int) N S_ I Q C = some (.error e) from h5]; rfl
     | ok r5 =>
      rw [e5] at h5
      obtain ⟨k5, m5, d5⟩ := h5
      rw [m5, eM, Ni, aq, Qt]
      have hg : (az (!!dk p2.1 p3.1) default (some (bif decide (p2.1 ≤ p4.1) && decide (p4.1 ≤ p3.1) then (0 : Int) else 5)) fun r83 =>
        bif (!dk p2.1 p3.1 || r83 != 0) then (some (.error (5, t1.2.2.2)) : Option (Except (Int × Int) (Int × List Str × List (Int × Int) × List Int))) else fy N S_ I (p1.1, (k1 : Int)) (p2.1, (k2 : Int)) (p3.1, (k3 : Int)) (p4.1, (k4 : Int)) (k5 : Int)) =
        bif !(dk p2.1 p3.1) || decide (p4.1 < p2.1) || decide (p3.1 < p4.1) then some (.error (5, t1.2.2.2)) else fy N S_ I (p1.1, (k1 : Int)) (p2.1, (k2 : Int)) (p3.1, (k3 : Int)) (p4.1, (k4 : Int)) (k5 : Int) := by
       cases dk p2.1 p3.1
       ·rfl
       ·simp only [Bool.not_true, Bool.not_false, gi, aq, Bool.false_or]
        rw [Ga p4.1 p2.1, Ga p3.1 p4.1]
        cases decide (p2.1 ≤ p4.1) <;> cases decide (p4.1 ≤ p3.1) <;> rfl
      rw [hg]
      have hp : H2 p1.2 = t1.2.2.2 := by rw [ht1]; rfl
      rw [hp]
      cases hb : (!(dk p2.1 p3.1) || decide (p4.1 < p2.1) || decide (p3.1 < p4.1))
      ·simp only [cond_false, fy]
       rw [Sy.sM (Sy.qz (by simp; omega) (by simp; omega)), show idx ([(p2.1, p3.1)] : List (Int × Int)) 0 = some (p2.1, p3.1) from rfl, aq, Sy.sM (Sy.qz (by simp; omega) (by simp; omega)), Sy.sM (Sy.qz (by simp; omega) (by simp; omega))]
       exact ⟨k5, rfl, d5⟩
      ·rfl
theorem zC (hk : l.length < 1099511627776) (hN : N.length < 1099511627776) (nm : Str × Int) : ∀ (f : Nat) (C : List Cmd) (k M : Nat), Pa.Ends (l.drop k) → (l.drop k).length < f → (l.drop k).length < M →
  Rd l (fU f (N, S_, I, Q ++ [nm.1], C) (l.drop k)) (fun m' k' => (k', m'.2.2.2.1, m'.2.2.2.2)) (an (jb l N S_ I Q nm) M ((k : Int), C))
 | 0, C, k, M, he, hf, hM => by omega
 | f + 1, C, k, 0, he, hf, hM => by omega
 | f + 1, C, k, M + 1, he, hf, hM => by
  rw [au]
  obtain ⟨t, r, ht⟩ := he.ne
  have hd := ik ht
  simp only [jb]
  rw [AZ N S_ I (Q ++ [nm.1]) C ht, aq]
  have hH : isH 3 [125] (l.drop k) = isT 3 [125] t := by rw [ht]; rfl
  unfold fU
  rw [hH]
  cases h1 : isT 3 [125] t
  ·simp only [Bool.not_false, cond_true, cond_false]
   have hc := JG N S_ I (Q ++ [nm.1]) C (l := l) (k := k) he hk hN (Nat.le_of_lt hd.2.2.1)
   cases h2 : kg (N, S_, I, Q ++ [nm.1], C) (l.drop k) with
   | error e =>
    rw [h2] at hc
    rw [show fD l (k : Int) N S_ I (Q ++ [nm.1]) C = some (.error e) from hc]
    rfl
   | ok p =>
    rw [h2] at hc
    obtain ⟨k1, m1, d1⟩ := hc
    obtain ⟨s1, g, r1, r2, sets, r3, _, _, _, _, hp, _, _⟩ := xD he h2
    rw [m1, eM]
    have ih := zC hk hN nm f p.1.2.2.2.2 k1 M (by rw [d1]; exact s1.1) (by rw [d1]; have := s1.2; omega) (by rw [d1]; have := s1.2; omega)
    rw [d1] at ih
    have hpe : p.1 = (N, S_, I, Q ++ [nm.1], p.1.2.2.2.2) := by rw [hp]
    rw [← hpe] at ih
    exact ih
  ·simp only [Bool.not_true, cond_true, cond_false]
   exact ⟨k + 1, by rw [gW (show k < 4611686018427387904 by omega)], by rw [ht, hd.2.1]; rfl⟩
theorem IH (he : Pa.Ends (l.drop k)) (hk : l.length < 1099511627776) (hN : N.length ≤ l.length) (hQ : Q.length ≤ l.length) :
  Rd l (eT (N, S_, I, Q, C) (l.drop k)) (fun m' k' => (k', m'.2.2.2.1, m'.2.2.2.2)) (fI l (k : Int) N S_ I Q C) := by
 unfold fI eT
 have h1 := Ix N S_ I Q C (l := l) (k := k) he (by omega) (by omega) (by omega) false
 simp only
 cases e1 : er false N Q (l.drop k) with
 | error e => rw [e1] at h1; rw [show ew false l (k : Int) N S_ I Q C = some (.error e) from h1]; rfl
 | ok p1 =>
  rw [e1] at h1
  obtain ⟨k1, m1, d1⟩ := h1
  have s1 := (oh he e1).1
  rw [m1, eM]
  simp only
  rw [Sy.sM (Sy.qz (by simp; omega) (by simp; omega))]
  have h2 := wU N S_ I (Q ++ [p1.1]) C (l := l) (k := k1) (by rw [d1]; exact s1.1) (by omega) [123]
  rw [d1] at h2
  cases e2 : aZ [123] p1.2 with
  | error e => rw [e2] at h2; rw [show ba [123] l (k1 : Int) N S_ I (Q ++ [p1.1]) C = some (.error e) from h2]; rfl
  | ok r2 =>
   rw [e2] at h2
   obtain ⟨k2, m2, d2⟩ := h2
   have s2 := dJ s1.1 e2
   rw [m2, eM]
   have hdl : (l.drop k2).length ≤ l.length := by simp
   have := zC (l := l) N S_ I Q hk (by omega) (p1.1, (k1 : Int)) (r2.length + 1) C k2 ar (by rw [d2]; exact s2.1) (by rw [d2]; omega) (by show _ < 2 ^ 64; omega)
   rw [d2] at this
   exact this
end
end Mo
end Go.Proofs.YtdhgpnejphlfpaaDoor
namespace Go.Proofs.YtdhgpnejphlfpaaDoor
namespace Mo
open Pa Sy
noncomputable def RdA (s : Except Err Mdl) (m : Option (Except Err (Int × List Str × List (Int × Int) × List Int × List Str × List Cmd))) : Prop := match s with
 | .error e => m = some (.error e)
 | .ok m' => ∃ k : Nat, m = some (.ok ((k : Int), m'))
theorem uY {m : Mdl} {ts : List Tok} {p : Mdl × List Tok} (he : Pa.Ends ts) (h : eT m ts = .ok p) : cL ts p.2 ∧ p.1.1 = m.1 ∧ p.1.2.1 = m.2.1 ∧ p.1.2.2.1 = m.2.2.1 ∧ p.1.2.2.2.1.length = m.2.2.2.1.length + 1 := by
 unfold eT at h
 cases h1 : er false m.1 m.2.2.2.1 ts with
 | error e => rw [h1] at h; cases h
 | ok q1 =>
  rw [h1] at h
  simp only at h
  have s1 := (oh he h1).1
  cases h2 : aZ [123] q1.2 with
  | error e => rw [h2] at h; cases h
  | ok r2 =>
   rw [h2] at h
   simp only at h
   have s2 := dJ s1.1 h2
   have key : ∀ (f : Nat) (m : Mdl) (ts : List Tok) (p : Mdl × List Tok), Pa.Ends ts → fU f m ts = .ok p → cL ts p.2 ∧ p.1.1 = m.1 ∧ p.1.2.1 = m.2.1 ∧ p.1.2.2.1 = m.2.2.1 ∧ p.1.2.2.2.1 = m.2.2.2.1 := by
    intro f
    induction f with
    | zero => intro m ts p _ h; cases h
    | succ f ih =>
     intro m ts p he h
     unfold fU at h
     cases hh : isH 3 [125] ts
     ·rw [hh] at h
      simp only [cond_false] at h
      cases hc : kg m ts with
      | error e => rw [hc] at h; cases h
      | ok q =>
       rw [hc] at h
       obtain ⟨s3, g, r1, r2, sets, r3, _, _, _, _, hp, _, _⟩ := xD he hc
       obtain ⟨a1, a2, a3, a4, a5⟩ := ih _ _ _ s3.1 h
       rw [hp] at a2 a3 a4 a5
       exact ⟨s3.trans a1, a2, a3, a4, a5⟩
     ·rw [hh] at h
      simp only [cond_true] at h
      cases h
      have := oz he (by decide) hh
      exact ⟨⟨this.1, by have := this.2; simp only; omega⟩, rfl, rfl, rfl, rfl⟩
   obtain ⟨a1, a2, a3, a4, a5⟩ := key _ _ _ _ s2.1 h
   exact ⟨(s1.trans s2).trans a1, a2, a3, a4, by rw [a5]; simp⟩
theorem GS {l : List Tok} (hk : l.length < 1099511627776) : ∀ (f : Nat) (N : List Str) (S_ : List (Int × Int)) (I : List Int) (Q : List Str) (C : List Cmd) (k M : Nat), Pa.Ends (l.drop k) → (l.drop k).length < f → (l.drop k).length < M → N.length ≤ k → S_.length ≤ k → I.length ≤ k → Q.length ≤ k →
  RdA (bB f (N, S_, I, Q, C) (l.drop k)) (an (iV l) M ((k : Int), N, S_, I, Q, C))
 | 0, N, S_, I, Q, C, k, M, he, hf, hM, _, _, _, _ => by omega
 | f + 1, N, S_, I, Q, C, k, 0, he, hf, hM, _, _, _, _ => by omega
 | f + 1, N, S_, I, Q, C, k, M + 1, he, hf, hM, bN, bS, bI, bQ => by
  rw [au]
  obtain ⟨t, r, ht⟩ := he.ne
  have hd := ik ht
  have hw : IntKind.i64.wrap ((k : Int) + 1) = ((k + 1 : Nat) : Int) := gW (by omega)
  simp only [iV]
  rw [qM N S_ I Q C ht, aq, AZ N S_ I Q C ht, AZ N S_ I Q C ht, aq, hw, ht]
  unfold bB
  simp only
  have hr : t.1 ≠ 4 → Pa.Ends (l.drop (k + 1)) := fun h => by
   rw [hd.2.1]
   rw [ht] at he
   exact he.tail h
  have hdl : (l.drop k).length = r.length + 1 := by rw [ht]; rfl
  cases h4 : (t.1 == 4)
  ·rw [show (t.1 != 4) = true by simpa [bne] using h4, cond_true, cond_false]
   have ht4 : t.1 ≠ 4 := by simpa using h4
   cases hv : isT 1 [118, 97, 114] t
   ·simp only [cond_false, aq]
    cases hp : isT 1 [112, 114, 111, 99] t
    ·simp only [Bool.not_false, cond_true, cond_false, lj N S_ I Q C ht, jn]; rfl
    ·simp only [Bool.not_true, cond_true, cond_false]
     have h := IH N S_ I Q C (l := l) (k := k + 1) (hr ht4) hk (by omega) (by omega)
     rw [hd.2.1] at h
     cases e1 : eT (N, S_, I, Q, C) r with
     | error e =>
      rw [e1] at h
      rw [show fI l ((k + 1 : Nat) : Int) N S_ I Q C = some (.error e) from h]
      rfl
     | ok p =>
      rw [e1] at h
      obtain ⟨k1, m1, d1⟩ := h
      obtain ⟨s1, a2, a3, a4, a5⟩ := uY (by rw [← hd.2.1]; exact hr ht4) e1
      have hkk : k + 1 < k1 := qx hd.2.1 d1 s1.2
      rw [m1, eM]
      simp only at a2 a3 a4 a5 ⊢
      have ih := GS hk f p.1.1 p.1.2.1 p.1.2.2.1 p.1.2.2.2.1 p.1.2.2.2.2 k1 M (by rw [d1]; exact s1.1) (by rw [d1]; have := s1.2; omega) (by rw [d1]; have := s1.2; omega) (by rw [a2]; omega) (by rw [a3]; omega) (by rw [a4]; omega) (by rw [a5]; omega)
      rw [d1] at ih
      have e2 : ((k1 : Int), N, S_, I, p.1.2.2.2.1, p.1.2.2.2.2) = ((k1 : Int), p.1.1, p.1.2.1, p.1.2.2.1, p.1.2.2.2.1, p.1.2.2.2.2) := by rw [a2, a3, a4]
      rw [e2]
      exact ih
   ·simp only [cond_true]
    have h := GU N S_ I Q C (l := l) (k := k + 1) (hr ht4) hk (by omega) (by omega) (by omega) (by omega)
    rw [hd.2.1] at h
    cases e1 : jl (N, S_, I, Q, C) r with
    | error e =>
     rw [e1] at h
     rw [show eX l ((k + 1 : Nat) : Int) N S_ I Q C = some (.error e) from h]
     rfl
    | ok p =>
     rw [e1] at h
     obtain ⟨k1, m1, d1⟩ := h
     obtain ⟨s1, name, lo, hi, first, hp, _⟩ := tY (by rw [← hd.2.1]; exact hr ht4) e1
     have hkk : k + 1 < k1 := qx hd.2.1 d1 s1.2
     rw [m1, eM]
     simp only at hp ⊢
     have ih := GS hk f p.1.1 p.1.2.1 p.1.2.2.1 p.1.2.2.2.1 p.1.2.2.2.2 k1 M (by rw [d1]; exact s1.1) (by rw [d1]; have := s1.2; omega) (by rw [d1]; have := s1.2; omega) (by rw [hp]; simp; omega) (by rw [hp]; simp; omega) (by rw [hp]; simp; omega) (by rw [hp]; simp; omega)
     rw [d1] at ih
     have e2 : ((k1 : Int), p.1.1, p.1.2.1, p.1.2.2.1, Q, C) = ((k1 : Int), p.1.1, p.1.2.1, p.1.2.2.1, p.1.2.2.2.1, p.1.2.2.2.2) := by rw [hp]
     rw [e2]
     exact ih
  ·rw [show (t.1 != 4) = false by simpa [bne] using h4, cond_true, cond_false]
   cases N with
   | nil =>
    rw [show ((List.length ([] : List Str) : Int) == 0) = true from rfl, cond_true]
    simp only [lj [] S_ I Q C ht, jn]
    rfl
   | cons x N =>
    rw [show ((List.length (x :: N) : Int) == 0) = false by simp; omega, cond_false]
    exact ⟨k, rfl⟩
theorem AJ (text : Str) : cM text = some (Ap (iJ text)) := by
 unfold cM iJ
 rw [Lx.Ju, aq]
 unfold Lx.tokens
 by_cases h : 65536 < text.length
 ·rw [if_pos h, if_pos h]
  rfl
 ·rw [if_neg h, if_neg h]
  have hx : Lx.dP (text.length + 1) 0 text = Lx.lex text := rfl
  rw [hx]
  cases hl : Lx.lex text with
  | error e =>
   have h0 : (e.1 != 0) = true := bne_iff_ne.2 (CJ _ _ _ _ hl)
   simp only [Lx.res, h0, cond_true]
   rfl
  | ok l =>
   have hg := n9 hl
   have hlen := hg.len
   simp only [Lx.res, show ((0 : Int) != 0) = false from rfl, cond_false]
   have := GS (l := l) (by omega) (l.length + 1) [] [] [] [] [] 0 ar (by simpa using hg.ends) (by simp) (by show _ < 2 ^ 64; simp; omega) (by simp) (by simp) (by simp) (by simp)
   unfold oq
   rw [show l.drop 0 = l from rfl, show ((0 : Nat) : Int) = 0 from rfl] at this
   have hs : bB (l.length + 1) ([], [], [], [], []) l = Sy.sys l := rfl
   rw [hs] at this
   cases hsys : Sy.sys l with
   | error e =>
    rw [hsys] at this
    rw [show an (iV l) ar (0, [], [], [], [], []) = some (.error e) from this]
    rfl
   | ok m =>
    rw [hsys] at this
    obtain ⟨k, hm⟩ := this
    rw [hm]
    rfl
end Mo
end Go.Proofs.YtdhgpnejphlfpaaDoor
namespace Go.Proofs.YtdhgpnejphlfpaaDoor
namespace Mo
open Pa Sy
theorem xY {m : Mdl} {ts : List Tok} {p : Mdl × List Tok} (he : Pa.Ends ts) (h : eT m ts = .ok p) : p.1.2.2.2.1.length ≤ m.2.2.2.1.length + 1 := by
 have := (uY he h).2.2.2.2
 omega
theorem qZ : ∀ (f : Nat) (m : Mdl) (ts : List Tok) (p : Mdl), Pa.Ends ts → bB f m ts = .ok p → p.2.2.2.1.length ≤ m.2.2.2.1.length + ts.length := by
 intro f
 induction f with
 | zero => intro _ _ _ _ h; simp [bB] at h
 | succ f ih =>
  intro m ts p he h
  obtain ⟨t, r, rfl⟩ := he.ne
  simp only [bB] at h
  cases c4 : (t.1 == 4)
  ·rw [c4] at h
   simp only [cond_false] at h
   have her := he.tail (by simpa using c4)
   cases cv : isT 1 [118, 97, 114] t
   ·rw [cv] at h
    simp only [cond_false] at h
    cases cp : isT 1 [112, 114, 111, 99] t
    ·rw [cp] at h; cases h
    ·rw [cp] at h
     simp only [cond_true] at h
     cases h1 : eT m r with
     | error e => rw [h1] at h; cases h
     | ok q =>
      obtain ⟨m', r'⟩ := q
      rw [h1] at h
      simp only at h
      have g := uY her h1
      have g1 := xY her h1
      have i1 := ih m' r' p g.1.1 h
      have := g.1.2
      simp only [List.length_cons] at *
      omega
   ·rw [cv] at h
    simp only [cond_true] at h
    cases h1 : jl m r with
    | error e => rw [h1] at h; cases h
    | ok q =>
     obtain ⟨m', r'⟩ := q
     rw [h1] at h
     simp only at h
     obtain ⟨g, name, lo, hi, first, g2, _⟩ := tY her h1
     have i1 := ih m' r' p g.1 h
     have := g.2
     simp only at g2
     rw [g2] at i1
     simp only [List.length_cons] at *
     omega
  ·rw [c4] at h
   simp only [cond_true] at h
   cases hne : m.1.isEmpty
   ·rw [hne] at h; cases h; simp only [List.length_cons]; omega
   ·rw [hne] at h; cases h
theorem Mn {text : Str} {m : Mdl} (h : iJ text = .ok m) : Sml m := by
 refine Sml.of (sL h).toPart ?_
 unfold iJ at h
 split at h
 ·cases h
 ·rename_i hl
  cases hx : Lx.lex text with
  | error e => rw [hx] at h; cases h
  | ok l =>
   rw [hx] at h
   have hg := n9 hx
   have := qZ _ _ _ _ hg.ends h
   have := hg.len
   simp at *
   omega
end Mo
end Go.Proofs.YtdhgpnejphlfpaaDoor
namespace Go.Proofs.YtdhgpnejphlfpaaDoor
namespace Mo
open Pa Sy
open Lx (strip)
theorem Md {text : Str} {l : List Tok} (hl : Lx.lex text = .ok l) : ∀ t ∈ l.dropLast, t.1 ≠ 4 := fun t ht => by
 obtain ⟨⟨c, s, h1, _⟩, h2⟩ := Lx.JI _ _ hl t ht
 rw [h1] at h2
 have := (Lx.BM h2).2.2.1
 omega
theorem BQ {text : Str} {p : Mdl} {l : List Tok} (hl : Lx.lex text = .ok l) (h6 : text.length ≤ 65536) (h : iJ text = .ok p) : Few p ∧ bB (l.length + 1) E0 l = .ok p := by
 have hg := (sL h).toPart
 have h2 : bB (l.length + 1) E0 l = .ok p := by
  unfold iJ at h
  rw [if_neg (by omega), hl] at h
  exact h
 have hx := n9 hl
 have := qZ _ _ _ _ hx.ends h2
 have := hx.len
 exact ⟨⟨hg.names, by simp [E0] at *; omega, hg.cmds⟩, h2⟩
theorem Cy {text : Str} {p : Mdl} (h : iJ text = .ok p) : ∃ l, Lx.lex text = .ok l := by
 unfold iJ at h
 split at h
 ·cases h
 ·split at h
  ·exact ⟨_, by assumption⟩
  ·cases h
theorem K3 (k : Nat) (l : List Tok) : tl l (l.map (Lx.shT k)) := by
 unfold tl
 rw [List.map_map]
 exact List.map_congr_left fun t _ => rfl
theorem ss {text : Str} {p : Mdl} (h : iJ text = .ok p) (h6 : text.length ≤ 400) : ∃ l A z, Lx.lex text = .ok l ∧ l = A ++ [z] ∧ z.1 = 4 ∧ Few p ∧ p.1 ≠ [] ∧ 4 * p.2.2.2.2.length ≤ A.length ∧ A.length ≤ 400 ∧ p.2.2.2.1.length ≤ 401 ∧
  ∀ (m0 M : Mdl) a' r' f', RM m0 E0 M → Fit m0 p → tl A a' → a'.length < f' → ∃ g M1, f' ≤ g + a'.length ∧ bB f' M (a' ++ r') = bB g M1 r' ∧ RM m0 p M1 := by
 obtain ⟨l, hl⟩ := Cy h
 obtain ⟨hf, hs⟩ := BQ hl (by omega) h
 have hg := n9 hl
 obtain ⟨A, z, r, e, h4, hA, _, _, hne, hc, hx⟩ := Oo _ _ _ _ hg.ends (show NK E0 from fun n hn => by cases hn) hs
 have hr : r = [] := by
  cases r with
  | nil => rfl
  | cons y r =>
   exfalso
   refine Md hl z ?_ h4
   rw [e, List.dropLast_append_of_ne_nil (by simp)]
   simp [List.dropLast]
 subst hr
 have hlen := hg.len
 have hll : l.length = A.length + 1 := by rw [e]; simp
 have hp := qZ _ _ _ _ hg.ends hs
 refine ⟨l, A, z, hl, e, h4, hf, hne, by simpa [E0] using hc, by omega, by simp [E0] at hp; omega, hx⟩
noncomputable def PIx (m : Mdl) : Prop := ∀ c ∈ m.2.2.2.2, -1 ≤ c.1 ∧ c.1 ≤ m.2.2.2.1.length
theorem NM {m : Mdl} {ts : List Tok} {p : Mdl × List Tok} (h : kg m ts = .ok p) (hq : m.2.2.2.1.length ≤ 1099511627776) (hp : PIx m) : PIx p.1 ∧ p.1.2.2.2.1 = m.2.2.2.1 := by
 unfold kg at h
 cases hb : decide (256 ≤ (m.2.2.2.2.length : Int))
 ·rw [hb] at h
  simp only [cond_false] at h
  split at h
  ·cases h
  split at h
  ·cases h
  split at h
  ·cases h
  split at h
  ·cases h
  cases h
  refine ⟨fun c hc => ?_, rfl⟩
  rcases List.mem_append.1 hc with hc | hc
  ·exact hp c hc
  ·rw [List.mem_singleton.1 hc]
   simp only
   rw [w64 (by omega)]
   omega
 ·rw [hb] at h; cases h
theorem Kk : ∀ (f : Nat) {m : Mdl} {ts : List Tok} {p : Mdl × List Tok}, fU f m ts = .ok p → m.2.2.2.1.length ≤ 1099511627776 → PIx m → PIx p.1 := by
 intro f
 induction f with
 | zero => intro _ _ _ h; simp [fU] at h
 | succ f ih =>
  intro m ts p h hq hp
  simp only [fU] at h
  cases h0 : isH 3 [125] ts
  ·rw [h0] at h
   simp only [cond_false] at h
   cases h1 : kg m ts with
   | error e => rw [h1] at h; cases h
   | ok q =>
    obtain ⟨m', r'⟩ := q
    rw [h1] at h
    obtain ⟨g1, g2⟩ := NM h1 hq hp
    exact ih h (by simp only at g2; rw [g2]; exact hq) g1
  ·rw [h0] at h
   cases h; exact hp
theorem J7 {m : Mdl} {ts : List Tok} {p : Mdl × List Tok} (h : eT m ts = .ok p) (hq : m.2.2.2.1.length < 1099511627776) (hp : PIx m) : PIx p.1 := by
 unfold eT at h
 split at h
 ·cases h
 split at h
 ·cases h
 refine Kk _ h (by simp only [List.length_append, List.length_singleton]; omega) (fun c hc => ?_)
 have := hp c hc
 simp only [List.length_append, List.length_singleton]
 omega
theorem Iw : ∀ (f : Nat) (m : Mdl) (ts : List Tok) (p : Mdl), Pa.Ends ts → bB f m ts = .ok p → m.2.2.2.1.length + ts.length < 1099511627776 → PIx m → PIx p := by
 intro f
 induction f with
 | zero => intro _ _ _ _ h; simp [bB] at h
 | succ f ih =>
  intro m ts p he h hq hp
  obtain ⟨t, r, rfl⟩ := he.ne
  simp only [List.length_cons] at hq
  rcases zK h with ⟨_, _, rfl⟩ | ⟨h4, _, m1, r1, h1, h2⟩ | ⟨h4, _, _, m1, r1, h1, h2⟩
  ·exact hp
  ·obtain ⟨g, name, lo, hi, first, g2, _⟩ := tY (he.tail h4) h1
   have := g.2
   simp only at g2 this
   exact ih m1 r1 p g.1 h2 (by rw [g2]; simp only; omega) (by rw [g2]; exact hp)
  ·have g := uY (he.tail h4) h1
   have g1 := xY (he.tail h4) h1
   have := g.1.2
   simp only at g1 this
   exact ih m1 r1 p g.1.1 h2 (by omega) (J7 h1 (by omega) hp)
theorem FG {text : Str} {p : Mdl} (h : iJ text = .ok p) (h6 : text.length ≤ 400) : PIx p := by
 obtain ⟨l, hl⟩ := Cy h
 have hs := (BQ hl (by omega) h).2
 have hg := n9 hl
 have := hg.len
 exact Iw _ _ _ _ hg.ends hs (by simp [E0]; omega) (fun c hc => by cases hc)
theorem KT {a b : Str} {pa pb : Mdl} (ha : iJ a = .ok pa) (hb : iJ b = .ok pb) (la : a.length ≤ 400) (lb : b.length ≤ 400) (hn : pa.1.length + pb.1.length ≤ 16)
  (hF : wv pa pb.1 pb.2.2.2.1) : ∃ M1 M, iJ (a ++ 10 :: b) = .ok M ∧ RM E0 pa M1 ∧ RM M1 pb M := by
 obtain ⟨lA, A, z, hlA, eA, hz, fA, nA, cA, kA, qA, xA⟩ := ss ha la
 obtain ⟨lB, B, w, hlB, eB, hw, fB, nB, cB, kB, qB, xB⟩ := ss hb lb
 have hlex : Lx.lex (a ++ 10 :: b) = .ok (A ++ (B.map (Lx.shT (a.length + 1)) ++ [Lx.shT (a.length + 1) w])) := by
  rw [Lx.Kb, hlA, hlB]
  simp only [Lx.pX, Lx.shE, eA, eB, List.map_append, List.map_cons, List.map_nil, List.dropLast_concat]
 generalize a.length + 1 = k at hlex
 obtain ⟨g1, M1, u1, u2, u3⟩ := xA E0 E0 A (B.map (Lx.shT k) ++ [Lx.shT k w]) ((A ++ (B.map (Lx.shT k) ++ [Lx.shT k w])).length + 1) (RM.none E0) fA.fit rfl (by simp only [List.length_append, List.length_cons]; omega)
 have n1 : M1.1 = pa.1 := by rw [u3.names]; rfl
 have p1 : M1.2.2.2.1 = pa.2.2.2.1 := by rw [u3.procs]; rfl
 have fit : Fit M1 pb := ⟨fun x hx => by rw [n1, p1]; exact hF x hx, by rw [n1]; exact hn, by rw [p1]; omega, by rw [u3.len]; simp only [E0, List.length_nil]; omega⟩
 simp only [List.length_append, List.length_cons, List.length_nil, List.length_map] at u1
 obtain ⟨g2, M2, v1, v2, v3⟩ := xB M1 M1 (B.map (Lx.shT k)) [Lx.shT k w] g1 (RM.none M1) fit (K3 k B) (by rw [List.length_map]; omega)
 refine ⟨M1, M2, ?_, u3, v3⟩
 have e : iJ (a ++ 10 :: b) = bB ((A ++ (B.map (Lx.shT k) ++ [Lx.shT k w])).length + 1) E0 (A ++ (B.map (Lx.shT k) ++ [Lx.shT k w])) := by
  unfold iJ
  rw [if_neg (by simp only [List.length_append, List.length_cons]; omega), hlex]
  rfl
 rw [e, u2, v2]
 rw [List.length_map] at v1
 obtain ⟨n, rfl⟩ : ∃ n, g2 = n + 1 := ⟨g2 - 1, by omega⟩
 have hw' : ((Lx.shT k w).1 == 4) = true := by simpa [Lx.shT] using hw
 have hne : M2.1.isEmpty = false := by
  rw [v3.names, n1]
  cases hp : pa.1 with
  | nil => exact absurd hp nA
  | cons x l => rfl
 simp only [bB, hw', hne, cond_true, cond_false]
end Mo
end Go.Proofs.YtdhgpnejphlfpaaDoor
namespace Go.Proofs.YtdhgpnejphlfpaaDoor
namespace Mo
open Pa Sy
theorem Ej {l : List Str} {x : Str} (hl : l.length < 4611686018427387904) : ∀ (r pre : List Str), l = pre ++ r → ∀ M, r.length < M → an (eS l x) M (pre.length : Int) = some (r.contains x)
 | [], pre, h, M, hM => by
  obtain ⟨m, rfl⟩ : ∃ m, M = m + 1 := ⟨M - 1, by simp at hM; omega⟩
  rw [au]
  have : pre = l := by simpa using h.symm
  rw [this]
  simp only [eS, decide_eq_false (show ¬ (l.length : Int) < (l.length : Int) by omega), cond_false, List.contains_nil]
 | y :: r, pre, h, M, hM => by
  obtain ⟨m, rfl⟩ : ∃ m, M = m + 1 := ⟨M - 1, by omega⟩
  rw [au]
  have ih := Ej (x := x) hl r (pre ++ [y]) (by rw [h]; simp) m (by simp at hM; omega)
  rw [show ((pre ++ [y]).length : Int) = ((pre.length + 1 : Nat) : Int) by simp] at ih
  have hlen : l.length = pre.length + r.length + 1 := by rw [h]; simp; omega
  have hx : idx l (pre.length : Int) = some y := by rw [h]; simp [idx]
  simp only [eS, decide_eq_true (show (pre.length : Int) < (l.length : Int) by omega), cond_true, hx, aq, Pa.gW (show pre.length < 4611686018427387904 by omega), ih, List.contains_cons]
  by_cases e : y = x
  ·subst e; simp
  ·rw [show (y == x) = false from beq_eq_false_iff_ne.2 e, show (x == y) = false from beq_eq_false_iff_ne.2 (fun h => e h.symm)]; rfl
theorem Ck {l : List Str} {x : Str} (hl : l.length < 1000000) : bD l x = some (l.contains x) :=
 Ej (l := l) (by omega) l [] rfl ar (by show _ < 2 ^ 64; omega)
theorem Gy (k : Int) : ∀ l, mpL k l = l.map (mp k)
 | [] => rfl
 | x :: r => by simp only [mpL, List.map_cons, Gy k r]
theorem Qu (k : Int) (e : Ex) : mp k e = .mk e.op (bif e.op == 2 then e.n + k else e.n) 0 (e.l.map (mp k)) := by
 cases e; simp only [mp, Gy, Ex.op, Ex.n, Ex.l]
theorem F6 (kk : Ex × Int → Option Ex) (e : Ex) (k c : Int) (hk : ∀ x ∈ e.l, kk (x, k) = some (mp k x)) (hl : e.l.length < 1000000000) :
  ∀ (r pre : List Ex), e.l = pre ++ r → ∀ M, r.length < M → an (ej kk e k c) M (pre.map (mp k), (pre.length : Int)) = some (.mk e.op c 0 (e.l.map (mp k)))
 | [], pre, h, M, hM => by
  obtain ⟨m, rfl⟩ : ∃ m, M = m + 1 := ⟨M - 1, by simp at hM; omega⟩
  rw [au]
  have : pre = e.l := by simpa using h.symm
  rw [this]
  simp only [ej, decide_eq_false (show ¬ (e.l.length : Int) < (e.l.length : Int) by omega), cond_false]
 | y :: r, pre, h, M, hM => by
  obtain ⟨m, rfl⟩ : ∃ m, M = m + 1 := ⟨M - 1, by omega⟩
  rw [au]
  have ih := F6 kk e k c hk hl r (pre ++ [y]) (by rw [h]; simp) m (by simp at hM; omega)
  rw [show ((pre ++ [y]).length : Int) = ((pre.length + 1 : Nat) : Int) by simp, List.map_append, List.map_cons, List.map_nil] at ih
  have hlen : e.l.length = pre.length + r.length + 1 := by rw [h]; simp; omega
  have hx : idx e.l (pre.length : Int) = some y := by rw [h]; simp [idx]
  have hy := hk y (by rw [h]; simp)
  simp only [ej, decide_eq_true (show (pre.length : Int) < (e.l.length : Int) by omega), cond_true, hx, aq, Pa.gW (show pre.length < 4611686018427387904 by omega), hy]
  rw [Lx.dj (by simp only [List.length_map, List.length_cons, List.length_nil]; omega) (by simp only [List.length_map, List.length_cons, List.length_nil]; omega), Lx.cD]
  exact ih
theorem OM (k : Nat) (hk : k ≤ 16) : ∀ (N : Nat) (e : Ex), e.sz ≤ N → e.sz < 1000000000 → gw 16 e = true → an (fun kk (s : Ex × Int) => ct kk s.1 s.2) N (e, (k : Int)) = some (mp k e) := by
 intro N
 induction N with
 | zero => intro e h; have := ug e; omega
 | succ N ih =>
  intro e h hb hm
  rw [au]
  have hf := Bx hm
  have hl := z4 e
  show ct _ e (k : Int) = _
  have hkk : ∀ x ∈ e.l, an (fun kk (s : Ex × Int) => ct kk s.1 s.2) N (x, (k : Int)) = some (mp k x) := fun x hx => ih x (by have := qj hx; omega) (by have := qj hx; omega) (hf.2.2.2.2 x hx)
  generalize an (fun kk (s : Ex × Int) => ct kk s.1 s.2) N = kk at hkk ⊢
  have lp : ∀ c, kX kk e (k : Int) c = some (.mk e.op c 0 (e.l.map (mp k))) := fun c => F6 kk e k c hkk (by omega) e.l [] rfl ar (by show _ < 2 ^ 64; omega)
  unfold ct
  simp only [cz, lp]
  rw [Qu]
  cases h2 : (e.op == 2)
  ·rfl
  ·have := hf.2.2.2.1 (by simpa using h2)
   rw [w64 (by omega)]; rfl
theorem BS {k : Nat} (hk : k ≤ 16) {e : Ex} (hs : e.sz < 1000000000) (hm : gw 16 e = true) : cn e (k : Int) = some (mp k e) := OM k hk ar e (by show _ ≤ 2 ^ 64; omega) hs hm
end Mo
end Go.Proofs.YtdhgpnejphlfpaaDoor
namespace Go.Proofs.YtdhgpnejphlfpaaDoor
namespace Mo
theorem HJ : gU = some true := by
 show _ = _
 kernel_rfl
end Mo
end Go.Proofs.YtdhgpnejphlfpaaDoor
namespace Go.Proofs.YtdhgpnejphlfpaaDoor
mutual
theorem G5 (k : Int) : ∀ e, mp 0 (mp k e) = mp k e
 | .mk o n a l => by
  simp only [mp, IV k l]
  cases o == 2 <;> simp
theorem IV (k : Int) : ∀ l, mpL 0 (mpL k l) = mpL k l
 | [] => by simp only [mpL]
 | x :: l => by simp only [mpL, G5 k x, IV k l]
end
namespace Mo
open Pa Sy
theorem Pq (k q : Nat) (c : Cmd) : ri (shC k q c) = shC k q c := by
 obtain ⟨i, g, s⟩ := c
 unfold ri shC
 simp only [Prod.mk.injEq, true_and, G5, List.map_map]
 refine List.map_congr_left fun s _ => ?_
 unfold od shS
 simp only [Function.comp, G5]
theorem PO (c : Cmd) : shC 0 0 c = ri c := by
 obtain ⟨i, g, s⟩ := c
 unfold ri shC
 simp only [Prod.mk.injEq]
 refine ⟨by omega, rfl, List.map_congr_left fun s _ => ?_⟩
 unfold od shS
 simp only [Prod.mk.injEq]
 exact ⟨by omega, rfl⟩
section
variable (a b : Str) (pa pb : Mdl)
theorem Gb (hp : pb.1.length < 1000000) (h1 : pa.1.length < 1000000) (h2 : pa.2.2.2.1.length < 1000000) : ∀ (r pre : List Str), pb.1 = pre ++ r → ∀ M, r.length < M →
  an (cP a b true (pa, 0, 0) (pb, 0, 0)) M (pre.length : Int) = bif r.any (fun x => pa.1.contains x || pa.2.2.2.1.contains x) then some true else an (aW a b true (pa, 0, 0) (pb, 0, 0)) ar 0
 | [], pre, h, M, hM => by
  obtain ⟨m, rfl⟩ : ∃ m, M = m + 1 := ⟨M - 1, by simp at hM; omega⟩
  rw [au]
  have : pre = pb.1 := by simpa using h.symm
  rw [this]
  simp only [cP, decide_eq_false (show ¬ (pb.1.length : Int) < (pb.1.length : Int) by omega), cond_false, List.any_nil]
 | x :: r, pre, h, M, hM => by
  obtain ⟨m, rfl⟩ : ∃ m, M = m + 1 := ⟨M - 1, by omega⟩
  rw [au]
  have ih := Gb hp h1 h2 r (pre ++ [x]) (by rw [h]; simp) m (by simp at hM; omega)
  rw [show ((pre ++ [x]).length : Int) = ((pre.length + 1 : Nat) : Int) by simp] at ih
  have hlen : pb.1.length = pre.length + r.length + 1 := by rw [h]; simp; omega
  have hx : idx pb.1 (pre.length : Int) = some x := by rw [h]; simp [idx]
  have st : ∀ again : Int → Option Bool, cP a b true (pa, 0, 0) (pb, 0, 0) again (pre.length : Int) = bif pa.1.contains x || pa.2.2.2.1.contains x then some true else again ((pre.length + 1 : Nat) : Int) := fun again => by
   simp only [cP, decide_eq_true (show (pre.length : Int) < (pb.1.length : Int) by omega), cond_true, hx, aq, Ck h1, Ck h2, tT, cz, Pa.gW (show pre.length < 4611686018427387904 by omega)]
   cases pa.1.contains x <;> rfl
  rw [st, ih, List.any_cons]
  cases (pa.1.contains x || pa.2.2.2.1.contains x) <;> rfl
theorem FN (hp : pb.2.2.2.1.length < 1000000) (h1 : pa.1.length < 1000000) (h2 : pa.2.2.2.1.length < 1000000) : ∀ (r pre : List Str), pb.2.2.2.1 = pre ++ r → ∀ M, r.length < M →
  an (aW a b true (pa, 0, 0) (pb, 0, 0)) M (pre.length : Int) = bif r.any (fun x => pa.1.contains x || pa.2.2.2.1.contains x) then some true else aW a b true (pa, 0, 0) (pb, 0, 0) (fun _ => none) (pb.2.2.2.1.length : Int)
 | [], pre, h, M, hM => by
  obtain ⟨m, rfl⟩ : ∃ m, M = m + 1 := ⟨M - 1, by simp at hM; omega⟩
  rw [au]
  have : pre = pb.2.2.2.1 := by simpa using h.symm
  rw [this]
  simp only [aW, decide_eq_false (show ¬ (pb.2.2.2.1.length : Int) < (pb.2.2.2.1.length : Int) by omega), cond_false, List.any_nil]
 | x :: r, pre, h, M, hM => by
  obtain ⟨m, rfl⟩ : ∃ m, M = m + 1 := ⟨M - 1, by omega⟩
  rw [au]
  have ih := FN hp h1 h2 r (pre ++ [x]) (by rw [h]; simp) m (by simp at hM; omega)
  rw [show ((pre ++ [x]).length : Int) = ((pre.length + 1 : Nat) : Int) by simp] at ih
  have hlen : pb.2.2.2.1.length = pre.length + r.length + 1 := by rw [h]; simp; omega
  have hx : idx pb.2.2.2.1 (pre.length : Int) = some x := by rw [h]; simp [idx]
  have st : ∀ again : Int → Option Bool, aW a b true (pa, 0, 0) (pb, 0, 0) again (pre.length : Int) = bif pa.1.contains x || pa.2.2.2.1.contains x then some true else again ((pre.length + 1 : Nat) : Int) := fun again => by
   simp only [aW, decide_eq_true (show (pre.length : Int) < (pb.2.2.2.1.length : Int) by omega), cond_true, hx, aq, Ck h1, Ck h2, tT, cz, Pa.gW (show pre.length < 4611686018427387904 by omega)]
   cases pa.1.contains x <;> rfl
  rw [st, ih, List.any_cons]
  cases (pa.1.contains x || pa.2.2.2.1.contains x) <;> rfl
variable {a b : Str} {pa pb : Mdl}
theorem D4 {C : List Cmd} {i : Nat} {c : Cmd} {g : Ex} {k q : Nat} {again : List Cmd × Int → Option Bool} (hk : pa.1.length = k) (hq : pa.2.2.2.1.length = q) (hk16 : k ≤ 16) (hq2 : q ≤ 1000000) (hc : pb.2.2.2.2[i]? = some c) (hi : i < 1000000) (hC : C.length < 1000000) (hok : xu 16 c) (hix : -1 ≤ c.1 ∧ c.1 ≤ 1000000) :
  ∀ (r pre : List (Int × Ex)), c.2.2 = pre ++ r → ∀ M, r.length < M →
  an (dN (pa, 0, 0) (pb, 0, 0) C (i : Int) again c g) M (pre.map (shS k), (pre.length : Int)) = again (C ++ [(c.1 + q, g, c.2.2.map (shS k))], ((i + 1 : Nat) : Int))
 | [], pre, h, M, hM => by
  obtain ⟨m, rfl⟩ : ∃ m, M = m + 1 := ⟨M - 1, by simp at hM; omega⟩
  rw [au]
  have : pre = c.2.2 := by simpa using h.symm
  rw [this]
  have hx : idx pb.2.2.2.2 (i : Int) = some c := by simp [idx, hc]
  simp only [dN, hx, aq, decide_eq_false (show ¬ (c.2.2.length : Int) < (c.2.2.length : Int) by omega), cond_false, hq]
  rw [Lx.dj (by simp only [List.length_cons, List.length_nil]; omega) (by simp only [List.length_cons, List.length_nil]; omega), Lx.cD, w64 (x := c.1 + (q : Int)) (by omega), Pa.gW (by omega)]
 | s :: r, pre, h, M, hM => by
  obtain ⟨m, rfl⟩ : ∃ m, M = m + 1 := ⟨M - 1, by omega⟩
  rw [au]
  have ih := D4 (g := g) (again := again) hk hq hk16 hq2 hc hi hC hok hix r (pre ++ [s]) (by rw [h]; simp) m (by simp at hM; omega)
  rw [show ((pre ++ [s]).length : Int) = ((pre.length + 1 : Nat) : Int) by simp, List.map_append, List.map_cons, List.map_nil] at ih
  have hlen : c.2.2.length = pre.length + r.length + 1 := by rw [h]; simp; omega
  have hll := hok.len
  have hx : idx pb.2.2.2.2 (i : Int) = some c := by simp [idx, hc]
  have hs : idx c.2.2 (pre.length : Int) = some s := by rw [h]; simp [idx]
  have hso := hok.sets s (by rw [h]; simp)
  have hsh : cn s.2 (k : Int) = some (mp k s.2) := BS hk16 (by have := hso.sz; omega) hso.may
  have hv := hso.var
  simp only [dN, hx, aq, decide_eq_true (show (pre.length : Int) < (c.2.2.length : Int) by omega), cond_true, hs, hk, hsh, w64 (x := s.1 + (k : Int)) (by omega)]
  rw [Lx.dj (by simp only [List.length_map, List.length_cons, List.length_nil]; omega) (by simp only [List.length_map, List.length_cons, List.length_nil]; omega), Lx.cD, Pa.gW (by omega)]
  exact ih
theorem DY {R : Mdl × Int × Int} {k q : Nat} (hk : pa.1.length = k) (hq : pa.2.2.2.1.length = q) (hk16 : k ≤ 16) (hq2 : q ≤ 1000000) (hl : pb.2.2.2.2.length ≤ 256) (hla : pa.2.2.2.2.length ≤ 256) (hok : ∀ c ∈ pb.2.2.2.2, xu 16 c ∧ -1 ≤ c.1 ∧ c.1 ≤ 1000000) :
  ∀ (r pre : List Cmd), pb.2.2.2.2 = pre ++ r → ∀ M, r.length < M →
  an (bl true (pa, 0, 0) (pb, 0, 0) R) M (pa.2.2.2.2 ++ pre.map (shC k q), (pre.length : Int)) =
   bl true (pa, 0, 0) (pb, 0, 0) R (fun _ => none) (pa.2.2.2.2 ++ pb.2.2.2.2.map (shC k q), (pb.2.2.2.2.length : Int))
 | [], pre, h, M, hM => by
  obtain ⟨m, rfl⟩ : ∃ m, M = m + 1 := ⟨M - 1, by simp at hM; omega⟩
  rw [au]
  have : pre = pb.2.2.2.2 := by simpa using h.symm
  rw [this]
  simp only [bl, decide_eq_false (show ¬ (pb.2.2.2.2.length : Int) < (pb.2.2.2.2.length : Int) by omega), cond_false]
 | c :: r, pre, h, M, hM => by
  obtain ⟨m, rfl⟩ : ∃ m, M = m + 1 := ⟨M - 1, by omega⟩
  rw [au]
  have ih := DY (R := R) hk hq hk16 hq2 hl hla hok r (pre ++ [c]) (by rw [h]; simp) m (by simp at hM; omega)
  rw [show ((pre ++ [c]).length : Int) = ((pre.length + 1 : Nat) : Int) by simp, List.map_append, List.map_cons, List.map_nil, ← List.append_assoc] at ih
  have hlen : pb.2.2.2.2.length = pre.length + r.length + 1 := by rw [h]; simp; omega
  have hc : pb.2.2.2.2[pre.length]? = some c := by rw [h]; simp
  have hx : idx pb.2.2.2.2 (pre.length : Int) = some c := by simp [idx, hc]
  obtain ⟨ho, hi⟩ := hok c (by rw [h]; simp)
  have hsh : cn c.2.1 (k : Int) = some (mp k c.2.1) := BS hk16 (by have := ho.sz; omega) ho.may
  have st : ∀ again : List Cmd × Int → Option Bool, bl true (pa, 0, 0) (pb, 0, 0) R again (pa.2.2.2.2 ++ pre.map (shC k q), (pre.length : Int)) = again (pa.2.2.2.2 ++ pre.map (shC k q) ++ [shC k q c], ((pre.length + 1 : Nat) : Int)) := fun again => by
   have hs := D4 (C := pa.2.2.2.2 ++ pre.map (shC k q)) (i := pre.length) (c := c) (g := mp k c.2.1) (again := again) hk hq hk16 hq2 hc (by omega) (by simp only [List.length_append, List.length_map]; omega) ho hi c.2.2 [] rfl ar (by have := ho.len; show _ < 2 ^ 64; omega)
   simp only [bl, decide_eq_true (show (pre.length : Int) < (pb.2.2.2.2.length : Int) by omega), cond_true, hx, aq, hk, hsh]
   exact hs
  rw [st, ih]
end
theorem LI {pa : Mdl} {l m : List Str} (h1 : l.any (fun x => pa.1.contains x || pa.2.2.2.1.contains x) = false) (h2 : m.any (fun x => pa.1.contains x || pa.2.2.2.1.contains x) = false) : wv pa l m := fun x hx => by
 have key : ∀ l : List Str, l.any (fun x => pa.1.contains x || pa.2.2.2.1.contains x) = false → x ∈ l → x ∉ pa.1 ∧ x ∉ pa.2.2.2.1 := fun l h hx => by
  rw [List.any_eq_false] at h
  have := h x hx
  simp only [Bool.or_eq_true, List.contains_iff_mem, not_or] at this
  exact this
 rcases hx with hx | hx
 ·exact key l h1 hx
 ·exact key m h2 hx
theorem zi (a b : Str) (_ : a.length ≤ 9223372036854775807) (_ : b.length ≤ 9223372036854775807) : eC a b = some true := by
 unfold eC
 rw [HJ, aq]
 simp only [cz]
 by_cases la : 400 < a.length
 ·rw [decide_eq_true (show (400 : Int) < (a.length : Int) by omega)]; rfl
 by_cases lb : 400 < b.length
 ·rw [decide_eq_true (show (400 : Int) < (b.length : Int) by omega), Bool.or_true]; rfl
 rw [decide_eq_false (show ¬ (400 : Int) < (a.length : Int) by omega), decide_eq_false (show ¬ (400 : Int) < (b.length : Int) by omega), Bool.or_self, cond_false, AJ, aq, AJ, aq]
 cases ha : iJ a with
 | error e =>
  have he : (e.1 != 0) = true := by simpa using CO ha
  simp only [Ap, he, Bool.true_or, cond_true]
 | ok pa =>
  cases hb : iJ b with
  | error e =>
   have he : (e.1 != 0) = true := by simpa using CO hb
   simp only [Ap, he, Bool.true_or, Bool.or_true, cond_true]
  | ok pb =>
   rw [show Ap (.ok pa) = (pa, 0, 0) from rfl, show Ap (.ok pb) = (pb, 0, 0) from rfl]
   dsimp only
   simp only [bne_self_eq_false, Bool.false_or]
   obtain ⟨_, _, _, _, _, _, fa, _, _, _, qa, _⟩ := ss ha (by omega)
   obtain ⟨_, _, _, _, _, _, fb, _, _, _, qb, _⟩ := ss hb (by omega)
   have na := fa.names
   have nb := fb.names
   have ca := fa.cmds
   have cb := fb.cmds
   have hw := w64 (x := (pa.1.length : Int) + (pb.1.length : Int)) (by omega)
   by_cases h16 : 16 < pa.1.length + pb.1.length
   ·rw [decide_eq_true (show (16 : Int) < IntKind.i64.wrap ((pa.1.length : Int) + (pb.1.length : Int)) by rw [hw]; omega), cond_true]
   rw [decide_eq_false (show ¬ (16 : Int) < IntKind.i64.wrap ((pa.1.length : Int) + (pb.1.length : Int)) by rw [hw]; omega), cond_false]
   have e1 := Gb a b pa pb (by omega) (by omega) (by omega) pb.1 [] rfl ar (by show _ < 2 ^ 64; omega)
   have e2 := FN a b pa pb (by omega) (by omega) (by omega) pb.2.2.2.1 [] rfl ar (by show _ < 2 ^ 64; omega)
   rw [show ((([] : List Str).length : Nat) : Int) = 0 from rfl] at e1 e2
   rw [e1, e2]
   cases f1 : pb.1.any (fun x => pa.1.contains x || pa.2.2.2.1.contains x)
   ·cases f2 : pb.2.2.2.1.any (fun x => pa.1.contains x || pa.2.2.2.1.contains x)
    ·simp only [cond_false]
     obtain ⟨M1, M, hM, r1, r2⟩ := KT ha hb (by omega) (by omega) (by omega) (LI f1 f2)
     have ga := (sL ha).toPart
     have gb := (sL hb).toPart
     have ia := FG ha (by omega)
     have ib := FG hb (by omega)
     have e3 := DY (pa := pa) (pb := pb) (R := (M, 0, 0)) rfl rfl (by omega) (by omega) cb ca (fun c hc => ⟨(gb.cmd c hc).le nb, by have := ib c hc; omega⟩) pb.2.2.2.2 [] rfl ar (by show _ < 2 ^ 64; omega)
     rw [List.map_nil, List.append_nil, show ((([] : List Cmd).length : Nat) : Int) = 0 from rfl] at e3
     have en : ∀ again, aW a b true (pa, 0, 0) (pb, 0, 0) again (pb.2.2.2.1.length : Int) = an (bl true (pa, 0, 0) (pb, 0, 0) (M, 0, 0)) ar (pa.2.2.2.2, 0) := fun again => by
      have s1 := ga.schema
      have s2 := ga.init
      have s3 := gb.schema
      have s4 := gb.init
      simp only [aW, decide_eq_false (show ¬ (pb.2.2.2.1.length : Int) < (pb.2.2.2.1.length : Int) by omega), cond_false]
      rw [Lx.Bi (by simp; omega), Lx.cD, Lx.Bi (by simp; omega), Lx.cD, AJ, aq, show (a ++ [10]) ++ b = a ++ 10 :: b by simp, hM]
      simp only [Ap, List.nil_append, List.length_nil, Nat.zero_add]
      rw [Lx.dj (by omega) (by omega), Lx.cD, Lx.dj (by omega) (by omega), Lx.cD, Lx.dj (by omega) (by omega), Lx.cD, Lx.dj (by omega) (by omega), Lx.cD, Lx.dj (by omega) (by omega), Lx.cD,
       Lx.dj (by omega) (by omega), Lx.cD, Lx.dj (by omega) (by omega), Lx.cD, Lx.dj (by omega) (by omega), Lx.cD, Lx.dj (by omega) (by omega), Lx.cD]
     rw [en, e3]
     simp only [bl, decide_eq_false (show ¬ (pb.2.2.2.2.length : Int) < (pb.2.2.2.2.length : Int) by omega), cond_false, cz, beq_self_eq_true, Bool.and_self, List.nil_append]
     rw [NS (Mn hM), tT, Ke]
     ·rfl
     ·refine ⟨?_, ?_, ?_, ?_, ?_⟩
      ·rw [r2.names, r1.names]; rfl
      ·rw [r2.schema, r1.schema]; rfl
      ·rw [r2.init, r1.init]; rfl
      ·rw [r2.procs, r1.procs]; rfl
      ·have n1 : M1.1 = pa.1 := by rw [r1.names]; rfl
       have p1 : M1.2.2.2.1 = pa.2.2.2.1 := by rw [r1.procs]; rfl
       rw [r2.cmds, r1.cmds, n1, p1, List.map_append, List.map_map]
       congr 1
       ·simp only [E0, List.map_nil, List.nil_append, List.length_nil]
        exact List.map_congr_left fun c _ => (PO c).symm
       ·exact List.map_congr_left fun c _ => Pq _ _ c
    ·simp only [cond_false, cond_true]
   ·simp only [cond_true]
end Mo
end Go.Proofs.YtdhgpnejphlfpaaDoor
namespace Go.Proofs.YtdhgpnejphlfpaaDoor
open Go.Lib Go.ChangeAt Go.ChangeShapes Go.WideShapes Go.RowKit
theorem Bf {P : Program} {w : World} : ∀ (l : List (String × DataW Unit)) (ps : List MemPlace), DataW.LaidVars P w l ps → ∀ (i : Nat) (n : String) (d : DataW Unit), l[i]? = some (n, d) →
  ∃ g t cs fuel p, P.globalNamed n = some g ∧ (P.globals[g]?).map (·.type) = some t ∧ w.var? P n = some cs ∧ DataW.trod (fun _ => ()) P w 0 (fun _ => true) false fuel t cs.toList = some (d, p)
 | [], _, _, i, n, d, h => by simp at h
 | (n0, d0) :: l, ps, h, i, n, d, hi => by
  obtain ⟨g, t, cs, fuel, p, q, h1, h2, h3, h4, h5, _⟩ := h
  cases i with
  | zero =>
   simp only [List.getElem?_cons_zero, Option.some.injEq, Prod.mk.injEq] at hi
   obtain ⟨rfl, rfl⟩ := hi
   exact ⟨g, t, cs, fuel, p, h1, h2, h3, h4⟩
  | succ i => exact Bf l q h5 i n d (by simpa using hi)
theorem B8 {H : Type} {enc : TypeId × Value → H} {P : Program} {w : World} {base : Nat} {sp : Nat → Bool} {held : Bool} {fuel : Nat} {t e : TypeId} {n : Nat} {cs : List Value} {zs : List Str} {p : List MemPlace}
  (ht : P.underlying t = some (.array n e)) (he : P.underlying e = some .string) (hce : P.cellsOf e = 1) (hct : P.cellsOf t = n)
  (h : DataW.trod enc P w base sp held fuel t cs = some (.agg (zs.map fun z => .lit (.string z)), p)) : cs = zs.map S := by
 cases fuel with
 | zero => simp [DataW.trod] at h
 | succ fuel =>
  simp only [DataW.trod, ht, hce, hct, Nat.mul_one] at h
  split at h
  ·rename_i hl
   obtain ⟨xs, hm, hx⟩ := Option.map_eq_some_iff.1 h
   have hxs : xs.map (·.1) = zs.map fun z => (DataW.lit (.string z) : DataW H) := by
    have := congrArg Prod.fst hx
    simpa using this
   have hxl : xs.length = n := by simpa using mapM_length hm
   have hzl : zs.length = n := by
    have := congrArg List.length hxs
    simp at this
    omega
   apply List.ext_getElem?
   intro i
   by_cases hi : i < n
   ·obtain ⟨b, hb, hf⟩ := mapM_at hm i i (by simp [hi])
    obtain ⟨z, hc, rfl, _⟩ := DataW.trod_string he hf
    have h1 : cs[i]? = some (.string z) := by
     have := congrArg (·[0]?) hc
     simpa [List.getElem?_take, List.getElem?_drop] using this
    have h2 : (xs.map (·.1))[i]? = some (DataW.lit (.string z.data.toList) : DataW H) := by simp [hb]
    rw [hxs] at h2
    simp only [List.getElem?_map, Option.map_eq_some_iff, DataW.lit.injEq, Lit.string.injEq] at h2
    obtain ⟨z', hz', hz2⟩ := h2
    subst hz2
    simp [h1, hz', S]
   ·rw [List.getElem?_eq_none (by omega), List.getElem?_eq_none (by simp; omega)]
  ·cases h
theorem HH {P : Program} {laid : List (String × DataW Unit)} {w : World} (hf : (laid.filter fun x => x.2.handleName?.isSome) = []) (h : laidMetH P laid w) : laidMet P laid w := by
 unfold laidMetH at h
 rw [hf] at h
 exact h
theorem Fv {P : Program} {laid : List (String × DataW Unit)} {w : World} {Γ : Ctx} (h : laidMet P laid w) (i : Nat) {n : String} {zs : List Str} {g : Nat} {t e : TypeId} {k : Nat}
  (hi : laid[i]? = some (n, .agg (zs.map fun z => .lit (.string z)))) (hg : P.globalNamed n = some g) (hty : (P.globals[g]?).map (·.type) = some t)
  (ht : P.underlying t = some (.array k e)) (he : P.underlying e = some .string) (hce : P.cellsOf e = 1) (hct : P.cellsOf t = k) (hM : ¬ Γ.M g) : (gl g (zs.map S)).P Γ.M w := by
 obtain ⟨ps, hl, _⟩ := h
 obtain ⟨g', t', cs, fuel, p, hg', ht', hv, hd⟩ := Bf _ _ hl i n _ hi
 obtain rfl := Option.some.inj (hg.symm.trans hg')
 obtain rfl := Option.some.inj (hty.symm.trans ht')
 have e1 := B8 ht he hce hct hd
 refine ⟨hM, ?_⟩
 unfold World.var? at hv
 rw [hg] at hv
 simp only [Option.bind_some] at hv
 split at hv
 ·rename_i c ty fr hb
  obtain rfl := Option.some.inj hv
  exact ⟨ty, fr, by rw [hb, ← e1]⟩
 ·cases hv
theorem gl_ints {P : Program} {laid : List (String × DataW Unit)} {w : World} {Γ : Ctx} (h : laidMet P laid w) (i : Nat) {n : String} {kd : IntKind} {zs : List Int} {g : Nat} {t e : TypeId} {k : Nat}
  (hi : laid[i]? = some (n, tabData kd zs)) (hg : P.globalNamed n = some g) (hty : (P.globals[g]?).map (·.type) = some t)
  (ht : P.underlying t = some (.array k e)) (he : P.underlying e = some (.int kd)) (hce : P.cellsOf e = 1) (hct : P.cellsOf t = k) (hM : ¬ Γ.M g) : (gl g (zs.map (Value.int kd))).P Γ.M w := by
 obtain ⟨ps, hl, _⟩ := h
 obtain ⟨g', t', cs, fuel, p, hg', ht', hv, hd⟩ := Bf _ _ hl i n _ hi
 obtain rfl := Option.some.inj (hg.symm.trans hg')
 obtain rfl := Option.some.inj (hty.symm.trans ht')
 have e1 := cells_of_tab ht he hce hct hd
 refine ⟨hM, ?_⟩
 unfold World.var? at hv
 rw [hg] at hv
 simp only [Option.bind_some] at hv
 split at hv
 ·rename_i c ty fr hb
  obtain rfl := Option.some.inj hv
  exact ⟨ty, fr, by rw [hb, ← e1]⟩
 ·cases hv
/-! the row at the start: nothing is owned -/
def NoM (Γ : Ctx) : Prop := ∀ b, ¬ Γ.M b
theorem Gv : NoM [] := fun b h => by obtain ⟨it, h, _⟩ := h; cases h
theorem yA {it : Item} {Γ : Ctx} (hp : it.own = []) (h : NoM Γ) : NoM (it :: Γ) := fun b hb => by
 rcases Ctx.o7.1 hb with h1 | h1
 ·rw [hp] at h1; cases h1
 ·exact h b h1
theorem Jk (w : World) : Sat [kept w (fun _ => False)] w := Sat.nil.add rfl ⟨dF.refl w, Nat.le_refl _, fun b _ _ => ⟨Gv b, rfl⟩⟩
theorem Jo (w : World) : NoM [kept w (fun _ => False)] := yA rfl Gv
theorem LZ {w : World} {Γ : Ctx} (h : NoM Γ) : Mv (fun _ => False) w Γ.M w := ⟨Nat.le_refl _, fun b _ _ => ⟨h b, rfl⟩⟩
theorem Jm {w w' : World} {Γ : Ctx} {i : Nat} (h : Sat Γ w') (hi : Γ[i]? = some (kept w (fun _ => False))) : Below w.heap.size w w' := by
 obtain ⟨h1, h2, h3⟩ := h.kept hi
 exact ⟨h1.os, h1.tape, h1.output, h2, fun k hk => (h3 k hk (fun h => h)).2⟩
end Go.Proofs.YtdhgpnejphlfpaaDoor
namespace Go.Proofs.YtdhgpnejphlfpaaDoor
open Go.Lib Go.ChangeAt Go.ChangeShapes Go.WideShapes Go.RowKit
theorem zk {Y : Type} (R : Nat → Y → Ex → Prop) : ∀ (ys : List Y), (∀ i y, ys[i]? = some y → ∃ e, R i y e) → ∃ l : List Ex, l.length = ys.length ∧ ∀ i y e, ys[i]? = some y → l[i]? = some e → R i y e
 | [], _ => ⟨[], rfl, fun i y e h => by simp at h⟩
 | y :: ys, h => by
  obtain ⟨e, he⟩ := h 0 y rfl
  obtain ⟨l, hl, hr⟩ := zk (fun i => R (i + 1)) ys (fun i y hy => h (i + 1) y (by simpa using hy))
  refine ⟨e :: l, by simp [hl], fun i y' e' hy hx => ?_⟩
  cases i with
  | zero =>
   simp only [List.getElem?_cons_zero, Option.some.injEq] at hy hx
   subst hy; subst hx; exact he
  | succ i => exact hr i y' e' (by simpa using hy) (by simpa using hx)
theorem JD {H : Type} : ∀ (l : List Ex) (ds : List (DataW H)), l.length = ds.length → (∀ (i : Nat) (e : Ex) (d : DataW H), l[i]? = some e → ds[i]? = some d → e.sz ≤ Rows.uptoBulk d) → szL l ≤ Rows.uptoBulkAll ds
 | [], [], _, _ => Nat.le_refl _
 | e :: l, d :: ds, hl, h => by
  have h1 := h 0 e d rfl rfl
  have h2 := JD l ds (by simpa using hl) (fun i e d he hd => h (i + 1) e d (by simpa using he) (by simpa using hd))
  simp only [szL, Rows.uptoBulkAll]
  omega
 | [], _ :: _, h, _ => by simp at h
 | _ :: _, [], h, _ => by simp at h
theorem yG {H : Type} (d : DataW H) : 1 ≤ Rows.uptoBulk d := by
 cases d with
 | lit l => cases l <;> simp [Rows.uptoBulk]
 | nil => simp [Rows.uptoBulk]
 | ptr d => simp [Rows.uptoBulk]
 | slice elems spare => simp [Rows.uptoBulk]
 | agg parts => simp [Rows.uptoBulk]
 | iface t d => simp [Rows.uptoBulk]
 | map entries => simp [Rows.uptoBulk]
 | held h => simp [Rows.uptoBulk]
theorem sO {H : Type} {d : DataW H} : ∀ {l : List (DataW H)}, d ∈ l → Rows.uptoBulk d ≤ Rows.uptoBulkAll l
 | x :: r, h => by
  simp only [Rows.uptoBulkAll]
  rcases List.mem_cons.1 h with rfl | h
  ·omega
  ·have := sO h; omega
structure Im (P : Program) (t : TypeId) : Prop where
 fields : ∃ (fs : Array Field) (f0 f1 f2 f3 : Field), P.underlying t = some (.struct fs) ∧ fs.size = 4 ∧ fs[0]? = some f0 ∧ fs[1]? = some f1 ∧ fs[2]? = some f2 ∧ fs[3]? = some f3 ∧
  (f0.offset = 0 ∧ P.underlying f0.type = some (.int .i64) ∧ P.cellsOf f0.type = 1) ∧ (f1.offset = 1 ∧ P.underlying f1.type = some (.int .i64) ∧ P.cellsOf f1.type = 1) ∧
  (f2.offset = 2 ∧ P.underlying f2.type = some (.int .i64) ∧ P.cellsOf f2.type = 1) ∧ (f3.offset = 3 ∧ P.underlying f3.type = some (.slice t) ∧ P.cellsOf f3.type = 1)
 cells : P.cellsOf t = 4
theorem O2 {P : Program} {w : World} {base : Nat} {t : TypeId} {v : Value} {fs : Array Field} (ht : P.underlying t = some (.struct fs)) (h : Value.okWide P w .any base t v) :
  ∃ cs, v = .agg cs ∧ cs.size = P.cellsOf t ∧ Row.okWide P w .any base t cs := by
 unfold Value.okWide at h
 rw [ht] at h
 exact h
theorem GP {w : World} {a : Addr} {v : Value} (h : w.cell? a = some v) : a.spot = none ∧ ∃ cs e fr, w.heap[a.block]? = some (.cells cs e fr) ∧ cs[a.off]? = some v := by
 unfold World.cell? at h
 split at h
 ·rename_i cs e fr hb
  split at h
  ·cases h
  ·rename_i hs
   exact ⟨by simpa using hs, cs, e, fr, hb, h⟩
 ·cases h
theorem GW {H : Type} {enc : TypeId × Value → H} {P : Program} {W : World} {t : TypeId} (L : Im P t) : ∀ (fuel : Nat) (cs : List Value) (x : DataW H × List MemPlace),
  DataW.trod enc P W 0 (fun _ => true) true fuel t cs = some x → ∃ e, nt (fun _ => False) W cs e ∧ e.sz ≤ Rows.uptoBulk x.1 := by
 intro fuel
 induction fuel using Nat.strongRecOn with
 | ind fuel ih =>
 intro cs x h
 obtain ⟨⟨fs, f0, f1, f2, f3, hT, hsz, g0, g1, g2, g3, ⟨o0, u0, c0⟩, ⟨o1, u1, c1⟩, ⟨o2, u2, c2⟩, ⟨o3, u3, c3⟩⟩, hc⟩ := L
 obtain ⟨xs, n, rfl, rfl, hl, hxs, hf⟩ := DataW.trod_struct hT h
 rw [hc] at hl
 rw [hsz] at hxs
 obtain ⟨a0, a1, a2, a3, rfl⟩ : ∃ a0 a1 a2 a3, cs = [a0, a1, a2, a3] := by
  match cs, hl with
  | [a, b, c, d], _ => exact ⟨a, b, c, d, rfl⟩
 obtain ⟨x0, x1, x2, x3, rfl⟩ : ∃ a0 a1 a2 a3, xs = [a0, a1, a2, a3] := by
  match xs, hxs with
  | [a, b, c, d], _ => exact ⟨a, b, c, d, rfl⟩
 have t0 := hf 0 f0 g0
 have t1 := hf 1 f1 g1
 have t2 := hf 2 f2 g2
 have t3 := hf 3 f3 g3
 rw [o0, c0] at t0; rw [o1, c1] at t1; rw [o2, c2] at t2; rw [o3, c3] at t3
 simp only [List.drop_zero, List.take_succ_cons, List.take_zero, List.drop_succ_cons, List.getElem?_cons_zero, List.getElem?_cons_succ] at t0 t1 t2 t3
 obtain ⟨z0, e0, _, _⟩ := DataW.trod_int u0 t0
 obtain ⟨z1, e1, _, _⟩ := DataW.trod_int u1 t1
 obtain ⟨z2, e2, _, _⟩ := DataW.trod_int u2 t2
 obtain rfl : a0 = .int .i64 z0 := by simpa using e0
 obtain rfl : a1 = .int .i64 z1 := by simpa using e1
 obtain rfl : a2 = .int .i64 z2 := by simpa using e2
 have hb : ∀ d, x3.1 = d → Rows.uptoBulk d + 1 ≤ Rows.uptoBulk (DataW.agg ([x0, x1, x2, x3].map (·.1))) := fun d hd => by
  subst hd
  have := sO (d := x3.1) (l := [x0, x1, x2, x3].map (·.1)) (by simp)
  simp only [Rows.uptoBulk]
  omega
 rcases DataW.trod_slice u3 t3 with ⟨h3, hx3⟩ | ⟨a, len, cap, elems, rest, m, rfl, h3, hx3, _, hlc, _, hlen, hel, hsp, _⟩
 ·obtain rfl : a3 = .slice none 0 0 := by simpa using h3
  refine ⟨.mk z0 z1 z2 [], .nil z0 z1 z2 none, ?_⟩
  have := hb _ rfl
  have := yG x3.1
  simp only [Ex.sz, szL]
  omega
 ·obtain rfl : a3 = .slice (some a) len cap := by simpa using h3
  obtain ⟨hrl, hre⟩ := hsp rfl
  rw [hc] at hel hre
  -- all of it is there
  have cell : ∀ i, i < cap → ∃ us y, W.cells? 0 (a.add (i * 4)) 4 = some us ∧ us.length = 4 ∧ (∀ j, j < 4 → W.cell? ((a.add (i * 4)).add j) = us[j]?) ∧ DataW.trod enc P W 0 (fun _ => true) true m t us = some y ∧ (i < len → elems[i]? = some y) := fun i hi => by
   by_cases hil : i < len
   ·obtain ⟨y, hy⟩ : ∃ y, elems[i]? = some y := ⟨elems[i]'(by omega), List.getElem?_eq_getElem _⟩
    have := hel i hil
    rw [hy, Option.bind_eq_some_iff] at this
    obtain ⟨us, h1, h2⟩ := this
    obtain ⟨_, h3, h4⟩ := World.cells?_some h1
    exact ⟨us, y, h1, h3, h4, h2, fun _ => hy⟩
   ·obtain ⟨y, hy⟩ : ∃ y, rest[i - len]? = some y := ⟨rest[i - len]'(by omega), List.getElem?_eq_getElem _⟩
    have := hre (i - len) (by omega)
    rw [hy, Option.bind_eq_some_iff] at this
    obtain ⟨us, h1, h2⟩ := this
    have e : len + (i - len) = i := by omega
    rw [e] at h1
    obtain ⟨_, h3, h4⟩ := World.cells?_some h1
    exact ⟨us, y, h1, h3, h4, h2, fun h => absurd h hil⟩
  by_cases hcap : cap = 0
  ·subst hcap
   obtain rfl : len = 0 := by omega
   refine ⟨.mk z0 z1 z2 [], .nil z0 z1 z2 (some a), ?_⟩
   have := hb _ rfl
   have := yG x3.1
   simp only [Ex.sz, szL]
   omega
  ·obtain ⟨us0, _, _, hl0, hc0, _⟩ := cell 0 (by omega)
   have h00 := hc0 0 (by omega)
   rw [List.getElem?_eq_getElem (by omega)] at h00
   obtain ⟨hs, cs', e', fr, hblk, _⟩ := GP h00
   have hs' : a.spot = none := by simpa [Addr.add] using hs
   have hblk' : W.heap[a.block]? = some (.cells cs' e' fr) := by simpa [Addr.add] using hblk
   obtain ⟨b, off, sp⟩ := a
   simp only at hs' hblk'
   subst hs'
   have at_ : ∀ i j, ((⟨b, off, none⟩ : Addr).add (i * 4)).add j = ⟨b, off + i * 4 + j, none⟩ := fun i j => by
    unfold Addr.add
    split <;> split <;> simp_all
   have cellx : ∀ i, i < cap → ∃ us y, us.length = 4 ∧ (∀ j, j < 4 → cs'[off + i * 4 + j]? = us[j]?) ∧ DataW.trod enc P W 0 (fun _ => true) true m t us = some y ∧ (i < len → elems[i]? = some y) := fun i hi => by
    obtain ⟨us, y, _, h3, h4, h5, h6⟩ := cell i hi
    refine ⟨us, y, h3, fun j hj => ?_, h5, h6⟩
    have := h4 j hj
    rw [at_] at this
    simpa [World.cell?, hblk'] using this
   have hsize : off + cap * 4 ≤ cs'.size := by
    obtain ⟨us, _, h3, h4, _⟩ := cellx (cap - 1) (by omega)
    have := h4 3 (by omega)
    rw [List.getElem?_eq_getElem (by omega)] at this
    have := (Array.getElem?_eq_some_iff.1 this).1
    omega
   have hel' : ∀ i y, elems[i]? = some y → ∃ e, (nt (fun _ => False) W (((cs'.toList.drop off).drop (i * 4)).take 4) e ∧ e.sz ≤ Rows.uptoBulk y.1) := fun i y hy => by
    have hi : i < len := by rw [← hlen]; exact (List.getElem?_eq_some_iff.1 hy).1
    obtain ⟨us, y', h3, h4, h5, h6⟩ := cellx i (by omega)
    obtain rfl : y' = y := by have := h6 hi; rw [hy] at this; exact (Option.some.inj this).symm
    have hus : ((cs'.toList.drop off).drop (i * 4)).take 4 = us := by
     apply List.ext_getElem?
     intro j
     by_cases hj : j < 4
     ·rw [List.getElem?_take, if_pos hj, List.getElem?_drop, List.getElem?_drop, ← h4 j hj]
      simp [Nat.add_assoc]
     ·rw [List.getElem?_take, if_neg hj, List.getElem?_eq_none (by omega)]
    rw [hus]
    exact ih m (by omega) us y' h5
   obtain ⟨l, hll, hR⟩ := zk (fun i y e => nt (fun _ => False) W (((cs'.toList.drop off).drop (i * 4)).take 4) e ∧ e.sz ≤ Rows.uptoBulk y.1) elems hel'
   have hll' : l.length = len := by omega
   refine ⟨.mk z0 z1 z2 l, ?_, ?_⟩
   ·rw [← hll']
    refine .some z0 z1 z2 l b off cap cs' e' fr (fun h => h) hblk' (by omega) (by omega) ?_ (fun i hi => ?_)
    ·simp only [List.length_take, List.length_drop, Array.length_toList]
     omega
    ·obtain ⟨y, hy⟩ : ∃ y, elems[i]? = some y := ⟨elems[i]'(by omega), List.getElem?_eq_getElem _⟩
     have := (hR i y l[i] hy (List.getElem?_eq_getElem _)).1
     rw [List.drop_take, List.take_take]
     have e4 : min 4 (l.length * 4 - i * 4) = 4 := by omega
     rw [e4]
     exact this
   ·have h1 := JD l (elems.map (·.1)) (by simp [hll]) (fun i e d he hd => by
     rw [List.getElem?_map, Option.map_eq_some_iff] at hd
     obtain ⟨y, hy, rfl⟩ := hd
     exact (hR i y e hy he).2)
    have h2 : x3.1 = .slice (elems.map (·.1)) (rest.map (·.1)) := by rw [hx3]
    have h3 := hb _ h2
    simp only [Ex.sz]
    have h4 : Rows.uptoBulk (DataW.slice (elems.map (·.1)) (rest.map (·.1))) = Rows.uptoBulkAll (elems.map (·.1)) + Rows.uptoBulkAll (rest.map (·.1)) + 1 := by simp only [Rows.uptoBulk]
    omega
end Go.Proofs.YtdhgpnejphlfpaaDoor
namespace Go.Proofs.YtdhgpnejphlfpaaDoor
open Go.Lib Go.ChangeAt Go.ChangeShapes Go.WideShapes Go.RowKit
open Go.ChangeMaps (open_string)
def lQ : Ty → List (Option TypeId)
 | .p a b => lQ a ++ lQ b
 | .l _ | .ex => [none]
 | _ => []
def OW : Ty → Pt
 | .i k => .int k
 | .bo => .bool
 | .s => .str
 | .l t => .sli t
 | t => .dat t (lQ t)
def Dom (Q : Nat → Prop) : (t : Ty) → t.T → Prop
 | .i k, x => (Lit.int k x).wf = true
 | .s, x => x.length ≤ 9223372036854775807
 | .p a b, x => Dom Q a x.1 ∧ Dom Q b x.2
 | .l t, x => (List.length (α := t.T) x ≤ 9223372036854775807 ∧ Q (List.length (α := t.T) x)) ∧ ∀ y : t.T, List.Mem y x → Dom Q t y
 | .ex, x => Q x.sz
 | _, _ => True
/-! the program's types and codes -/
def v8 (P : Program) (t : TypeId) : Bool := (match P.underlying t with
 | some (.int .i64) => true
 | _ => false) && P.cellsOf t == 1
def exB (P : Program) (t : TypeId) : Bool := (match P.underlying t with
 | some (.struct fs) => (match fs.toList with
  | [f0, f1, f2, f3] => f0.offset == 0 && v8 P f0.type && (f1.offset == 1 && v8 P f1.type) && (f2.offset == 2 && v8 P f2.type) && (f3.offset == 3 && P.cellsOf f3.type == 1 && (match P.underlying f3.type with
   | some (.slice e) => e == t
   | _ => false))
  | _ => false)
 | _ => false) && P.cellsOf t == 4
def xl (P : Program) (fit : TypeId → Ty → Bool) (tot : Nat) : List Field → Nat → Ty → Bool
 | [], _, _ => false
 | [f], off, t => f.offset == off && off + P.cellsOf f.type == tot && P.cellsOf f.type == t.rep.n && fit f.type t
 | f :: g :: fs, off, t => match t with
  | .p a b => f.offset == off && P.cellsOf f.type == a.rep.n && fit f.type a && xl P fit tot (g :: fs) (off + P.cellsOf f.type) b
  | _ => false
def fits (P : Program) : Nat → TypeId → Ty → Bool
 | 0, _, _ => false
 | n + 1, i, t => match P.underlying i with
  | some (.int k) => (match t with
   | .i k' => decide (k = k')
   | _ => false)
  | some .bool => (match t with
   | .bo => true
   | _ => false)
  | some .string => (match t with
   | .s => true
   | _ => false)
  | some (.slice e) => (match t with
   | .l u => P.cellsOf e == u.rep.n && Nat.blt 0 u.rep.n && fits P n e u
   | _ => false)
  | some (.struct fs) => (match t with
   | .ex => exB P i
   | .p a b => xl P (fits P n) (P.cellsOf i) fs.toList 0 (.p a b)
   | _ => false)
  | _ => false
theorem mJ {P : Program} {t : TypeId} (h : v8 P t = true) : P.underlying t = some (.int .i64) ∧ P.cellsOf t = 1 := by
 unfold v8 at h
 simp only [Bool.and_eq_true, beq_iff_eq] at h
 refine ⟨?_, h.2⟩
 revert h
 split
 ·rename_i h; intro _; exact h
 ·intro h; cases h.1
theorem Pp {P : Program} {t : TypeId} (h : exB P t = true) : Im P t := by
 unfold exB at h
 simp only [Bool.and_eq_true, beq_iff_eq] at h
 obtain ⟨h1, h2⟩ := h
 split at h1
 ·rename_i fs hfs
  split at h1
  ·rename_i f0 f1 f2 f3 hl
   simp only [Bool.and_eq_true, beq_iff_eq] at h1
   obtain ⟨⟨⟨⟨a0, b0⟩, a1, b1⟩, a2, b2⟩, ⟨a3, c3⟩, b3⟩ := h1
   have g : ∀ i : Nat, fs[i]? = [f0, f1, f2, f3][i]? := fun i => by rw [← hl, Array.getElem?_toList]
   have u3 : P.underlying f3.type = some (.slice t) := by
    revert b3
    split
    ·rename_i e he
     intro hb
     rw [he, (by simpa using hb : e = t)]
    ·intro hb; cases hb
   refine ⟨⟨fs, f0, f1, f2, f3, hfs, ?_, g 0, g 1, g 2, g 3, ⟨a0, (mJ b0).1, (mJ b0).2⟩, ⟨a1, (mJ b1).1, (mJ b1).2⟩, ⟨a2, (mJ b2).1, (mJ b2).2⟩, ⟨a3, u3, c3⟩⟩, h2⟩
   rw [← Array.length_toList, hl]; rfl
  ·cases h1
 ·cases h1
theorem KR {w : World} {a : Addr} {v : Value} (h : w.cell? a = some v) : a.spot = none ∧ ∃ cs e fr, w.heap[a.block]? = some (.cells cs e fr) ∧ cs[a.off]? = some v := by
 unfold World.cell? at h
 split at h
 ·rename_i cs e fr hb
  split at h
  ·cases h
  ·rename_i hs
   exact ⟨by simpa using hs, cs, e, fr, hb, h⟩
 ·cases h
theorem ya {Y α : Type} (R : Nat → Y → α → Prop) : ∀ (ys : List Y), (∀ i y, ys[i]? = some y → ∃ e, R i y e) → ∃ l : List α, l.length = ys.length ∧ ∀ i y e, ys[i]? = some y → l[i]? = some e → R i y e
 | [], _ => ⟨[], rfl, fun i y e h => by simp at h⟩
 | y :: ys, h => by
  obtain ⟨e, he⟩ := h 0 y rfl
  obtain ⟨l, hl, hr⟩ := ya (fun i => R (i + 1)) ys (fun i y hy => h (i + 1) y (by simpa using hy))
  refine ⟨e :: l, by simp [hl], fun i y' e' hy hx => ?_⟩
  cases i with
  | zero =>
   simp only [List.getElem?_cons_zero, Option.some.injEq] at hy hx
   subst hy; subst hx; exact he
  | succ i => exact hr i y' e' (by simpa using hy) (by simpa using hx)
theorem xZ {H : Type} : ∀ (l : List (DataW H)), l.length ≤ Rows.uptoBulkAll l
 | [] => Nat.zero_le _
 | d :: l => by
  have := xZ l
  have := yG d
  simp only [List.length_cons, Rows.uptoBulkAll]
  omega
theorem Js {H α : Type} {enc : TypeId × Value → H} {P : Program} {W : World} {t e : TypeId} {A : Rep α} {Q : Nat → Prop} {D : α → Prop} (ht : P.underlying t = some (.slice e)) (hA : P.cellsOf e = A.n) (hn : 0 < A.n)
  (fuel : Nat) (cs : List Value) (x : DataW H × List MemPlace) (hQ : ∀ n, n ≤ Rows.uptoBulk x.1 → Q n)
  (he : ∀ (fuel : Nat) (us : List Value) (y : DataW H × List MemPlace), (∀ n, n ≤ Rows.uptoBulk y.1 → Q n) → DataW.trod enc P W 0 (fun _ => true) true fuel e us = some y → ∃ z, A.rd (fun _ => False) W us z ∧ D z)
  (h : DataW.trod enc P W 0 (fun _ => true) true fuel t cs = some x) :
  ∃ (u : SLV) (zs : List α), cs = [sl u] ∧ SRd A (fun _ => False) W (sl u) zs ∧ (zs.length ≤ 9223372036854775807 ∧ Q zs.length) ∧ ∀ z ∈ zs, D z := by
 rcases DataW.trod_slice ht h with ⟨h3, _⟩ | ⟨a, len, cap, elems, rest, m, rfl, h3, hx, _, hlc, hmx, hlen, hel, hsp, _⟩
 ·exact ⟨(none, 0, 0), [], h3, SRd.nil, ⟨by simp, hQ _ (Nat.zero_le _)⟩, by simp⟩
 ·obtain ⟨hrl, hre⟩ := hsp rfl
  rw [hA] at hel hre
  have hmx : cap ≤ 9223372036854775807 := hmx
  have hb : Rows.uptoBulk x.1 = Rows.uptoBulkAll (elems.map (·.1)) + Rows.uptoBulkAll (rest.map (·.1)) + 1 := by rw [hx]; simp only [Rows.uptoBulk]
  have hlb : len ≤ Rows.uptoBulk x.1 := by
   have := xZ (elems.map (·.1))
   simp only [List.length_map] at this
   omega
  have hQe : ∀ y ∈ elems, ∀ n, n ≤ Rows.uptoBulk y.1 → Q n := fun y hy n hn => hQ n (by
   have := sO (d := y.1) (l := elems.map (·.1)) (List.mem_map.2 ⟨y, hy, rfl⟩)
   omega)
  have cell : ∀ i, i < cap → ∃ us y, us.length = A.n ∧ (∀ j, j < A.n → W.cell? ((a.add (i * A.n)).add j) = us[j]?) ∧ DataW.trod enc P W 0 (fun _ => true) true m e us = some y ∧ (i < len → elems[i]? = some y) := fun i hi => by
   by_cases hil : i < len
   ·obtain ⟨y, hy⟩ : ∃ y, elems[i]? = some y := ⟨elems[i]'(by omega), List.getElem?_eq_getElem _⟩
    have := hel i hil
    rw [hy, Option.bind_eq_some_iff] at this
    obtain ⟨us, h1, h2⟩ := this
    obtain ⟨_, h3, h4⟩ := World.cells?_some h1
    exact ⟨us, y, h3, h4, h2, fun _ => hy⟩
   ·obtain ⟨y, hy⟩ : ∃ y, rest[i - len]? = some y := ⟨rest[i - len]'(by omega), List.getElem?_eq_getElem _⟩
    have := hre (i - len) (by omega)
    rw [hy, Option.bind_eq_some_iff, show len + (i - len) = i by omega] at this
    obtain ⟨us, h1, h2⟩ := this
    obtain ⟨_, h3, h4⟩ := World.cells?_some h1
    exact ⟨us, y, h3, h4, h2, fun h => absurd h hil⟩
  by_cases hcap : cap = 0
  ·subst hcap
   obtain rfl : len = 0 := by omega
   exact ⟨(some a, 0, 0), [], h3, SRd.emp, ⟨by simp, hQ _ (Nat.zero_le _)⟩, by simp⟩
  ·obtain ⟨us0, _, hl0, hc0, _⟩ := cell 0 (by omega)
   have h00 := hc0 0 hn
   rw [List.getElem?_eq_getElem (by omega)] at h00
   obtain ⟨hs, cs', e', fr, hblk, _⟩ := KR h00
   have hs' : a.spot = none := by simpa [Addr.add] using hs
   have hblk' : W.heap[a.block]? = some (.cells cs' e' fr) := by simpa [Addr.add] using hblk
   obtain ⟨b, off, sp⟩ := a
   simp only at hs' hblk'
   subst hs'
   have at_ : ∀ i j, ((⟨b, off, none⟩ : Addr).add (i * A.n)).add j = ⟨b, off + i * A.n + j, none⟩ := fun i j => by
    unfold Addr.add
    split <;> split <;> simp_all
   have cellx : ∀ i, i < cap → ∃ us y, us.length = A.n ∧ (∀ j, j < A.n → cs'[off + i * A.n + j]? = us[j]?) ∧ DataW.trod enc P W 0 (fun _ => true) true m e us = some y ∧ (i < len → elems[i]? = some y) := fun i hi => by
    obtain ⟨us, y, h3, h4, h5, h6⟩ := cell i hi
    refine ⟨us, y, h3, fun j hj => ?_, h5, h6⟩
    have := h4 j hj
    rw [at_] at this
    simpa [World.cell?, hblk'] using this
   have hsize : off + cap * A.n ≤ cs'.size := by
    obtain ⟨us, _, h3, h4, _⟩ := cellx (cap - 1) (by omega)
    have := h4 (A.n - 1) (by omega)
    rw [List.getElem?_eq_getElem (by omega)] at this
    have := (Array.getElem?_eq_some_iff.1 this).1
    have e1 : cap * A.n = (cap - 1) * A.n + A.n := by
     have : cap = (cap - 1) + 1 := by omega
     conv => lhs; rw [this]
     rw [Nat.add_mul, Nat.one_mul]
    omega
   have hel' : ∀ i y, elems[i]? = some y → ∃ z, (A.rd (fun _ => False) W (((cs'.toList.drop off).drop (i * A.n)).take A.n) z ∧ D z) := fun i y hy => by
    have hi : i < len := by rw [← hlen]; exact (List.getElem?_eq_some_iff.1 hy).1
    obtain ⟨us, y', h3, h4, h5, h6⟩ := cellx i (by omega)
    obtain rfl : y' = y := by have := h6 hi; rw [hy] at this; exact (Option.some.inj this).symm
    have hus : ((cs'.toList.drop off).drop (i * A.n)).take A.n = us := by
     apply List.ext_getElem?
     intro j
     by_cases hj : j < A.n
     ·rw [List.getElem?_take, if_pos hj, List.getElem?_drop, List.getElem?_drop, ← h4 j hj]
      simp [Nat.add_assoc]
     ·rw [List.getElem?_take, if_neg hj, List.getElem?_eq_none (by omega)]
    rw [hus]
    exact he m us y' (hQe y' (List.mem_of_getElem? hy)) h5
   obtain ⟨l, hll, hR⟩ := ya (fun i y z => A.rd (fun _ => False) W (((cs'.toList.drop off).drop (i * A.n)).take A.n) z ∧ D z) elems hel'
   have hll' : l.length = len := by omega
   have get : ∀ i (hi : i < l.length), A.rd (fun _ => False) W (((cs'.toList.drop off).drop (i * A.n)).take A.n) l[i] ∧ D l[i] := fun i hi => by
    obtain ⟨y, hy⟩ : ∃ y, elems[i]? = some y := ⟨elems[i]'(by omega), List.getElem?_eq_getElem _⟩
    exact hR i y l[i] hy (List.getElem?_eq_getElem _)
   refine ⟨(some ⟨b, off, none⟩, len, cap), l, h3, .inr ⟨b, off, cap, cs', e', fr, by rw [hll']; rfl, (fun h => h), hblk', by omega, hsize, ?_⟩, ⟨by omega, hQ _ (by omega)⟩, fun z hz => ?_⟩
   ·have hle : l.length * A.n ≤ cap * A.n := Nat.mul_le_mul_right _ (by omega)
    refine ⟨?_, fun i hi => ?_⟩
    ·simp only [List.length_take, List.length_drop, Array.length_toList]
     omega
    ·have h1 : i * A.n + A.n ≤ l.length * A.n := by rw [← Nat.succ_mul]; exact Nat.mul_le_mul_right _ hi
     rw [List.drop_take, List.take_take, Nat.min_eq_left (by omega)]
     exact (get i hi).1
   ·obtain ⟨i, hi, rfl⟩ := List.getElem_of_mem hz
    exact (get i hi).2
theorem ET {H : Type} {enc : TypeId × Value → H} {P : Program} {W : World} {Q : Nat → Prop} : ∀ (n : Nat) (i : TypeId) (t : Ty), fits P n i t = true → ∀ (fuel : Nat) (cs : List Value) (x : DataW H × List MemPlace),
  (∀ n, n ≤ Rows.uptoBulk x.1 → Q n) → DataW.trod enc P W 0 (fun _ => true) true fuel i cs = some x → ∃ z : t.T, t.rep.rd (fun _ => False) W cs z ∧ Dom Q t z := by
 intro n
 induction n with
 | zero => intro i t h; cases h
 | succ n ih =>
 intro i t hf fuel cs x hQ h
 unfold fits at hf
 split at hf
 ·rename_i k hu
  split at hf
  ·obtain ⟨z, h1, _, h3⟩ := DataW.trod_int hu h
   have e := of_decide_eq_true hf
   subst e
   exact ⟨z, h1, h3⟩
  ·cases hf
 ·rename_i hu
  split at hf
  ·obtain ⟨z, h1, _⟩ := DataW.trod_bool hu h
   exact ⟨z, h1, trivial⟩
  ·cases hf
 ·rename_i hu
  split at hf
  ·obtain ⟨⟨⟨z⟩⟩, h1, _, h3⟩ := DataW.trod_string hu h
   exact ⟨z, h1, h3⟩
  ·cases hf
 ·rename_i e hu
  split at hf
  ·rename_i u
   simp only [Bool.and_eq_true, beq_iff_eq, Nat.blt_eq] at hf
   obtain ⟨⟨h1, h2⟩, h3⟩ := hf
   obtain ⟨p, zs, a1, a2, a3, a4⟩ := Js (A := u.rep) (Q := Q) (D := Dom Q u) hu h1 h2 fuel cs x hQ (fun fuel us y hy h => ih e u h3 fuel us y hy h) h
   exact ⟨zs, ⟨p, a1, a2⟩, a3, a4⟩
  ·cases hf
 ·rename_i fs hu
  have key : ∀ t : Ty, xl P (fits P n) (P.cellsOf i) fs.toList 0 t = true → ∃ z : t.T, t.rep.rd (fun _ => False) W cs z ∧ Dom Q t z := fun t hf => by
   obtain ⟨xs, m, _, hx, hl, hxs, hfl⟩ := DataW.trod_struct hu h
   have hb : Rows.uptoBulk x.1 = Rows.uptoBulkAll (xs.map (·.1)) + 1 := by rw [hx]; simp only [Rows.uptoBulk]
   have hQe : ∀ y ∈ xs, ∀ n, n ≤ Rows.uptoBulk y.1 → Q n := fun y hy n hn => hQ n (by
    have := sO (d := y.1) (l := xs.map (·.1)) (List.mem_map.2 ⟨y, hy, rfl⟩)
    omega)
   have one : ∀ (j : Nat) (f : Field) (t : Ty), fs.toList[j]? = some f → fits P n f.type t = true → ∃ z : t.T, t.rep.rd (fun _ => False) W ((cs.drop f.offset).take (P.cellsOf f.type)) z ∧ Dom Q t z := fun j f t hj ht => by
    have hj' : fs[j]? = some f := by simpa using hj
    have h1 := hfl j f hj'
    have hjl : j < xs.length := by rw [hxs]; exact (Array.getElem?_eq_some_iff.1 hj').1
    rw [List.getElem?_eq_getElem hjl] at h1
    exact ih f.type t ht m _ _ (hQe _ (List.getElem_mem _)) h1
   have go : ∀ (r : List Field) (j off : Nat) (t : Ty), fs.toList.drop j = r → xl P (fits P n) (P.cellsOf i) r off t = true → ∃ z : t.T, t.rep.rd (fun _ => False) W (cs.drop off) z ∧ Dom Q t z := fun r => by
    induction r with
    | nil => intro j off t _ h; cases h
    | cons f r ihr =>
     intro j off t hr hf
     have hj : fs.toList[j]? = some f := by
      have := congrArg (·[0]?) hr
      simpa [List.getElem?_drop] using this
     have hr' : fs.toList.drop (j + 1) = r := by
      rw [← List.drop_drop, hr]; rfl
     cases r with
     | nil =>
      simp only [xl, Bool.and_eq_true, beq_iff_eq] at hf
      obtain ⟨⟨⟨h1, h2⟩, h3⟩, h4⟩ := hf
      obtain ⟨z, z1, z2⟩ := one j f t hj h4
      rw [h1, List.take_of_length_le (by simp; omega)] at z1
      exact ⟨z, z1, z2⟩
     | cons g r =>
      unfold xl at hf
      split at hf
      ·rename_i a b
       simp only [Bool.and_eq_true, beq_iff_eq] at hf
       obtain ⟨⟨⟨h1, h2⟩, h3⟩, h4⟩ := hf
       obtain ⟨z, z1, z2⟩ := one j f a hj h3
       obtain ⟨y, y1, y2⟩ := ihr (j + 1) _ b hr' h4
       rw [h1] at z1
       refine ⟨(z, y), ⟨_, _, ?_, z1, y1⟩, z2, y2⟩
       rw [← List.drop_drop]; exact (List.take_append_drop ..).symm
      ·cases hf
   obtain ⟨z, z1, z2⟩ := go fs.toList 0 0 t rfl hf
   exact ⟨z, by simpa using z1, z2⟩
  split at hf
  ·obtain ⟨e, h1, h2⟩ := GW (Pp hf) fuel cs x h
   exact ⟨e, h1, hQ _ h2⟩
  ·exact key _ hf
  ·cases hf
 ·cases hf
def iq (W : World) (I : Its) : Prop := ∀ it ∈ I, it.1 = false ∧ it.2.cC = true ∧ ∀ M, Mv (fun _ => False) W M W → it.2.P M W
theorem iq.nil {W : World} : iq W [] := fun it h => by cases h
theorem iq.app {W : World} {I J : Its} (h : iq W I) (k : iq W J) : iq W (I ++ J) := fun it hit => by
 rcases List.mem_append.1 hit with h1 | h1
 ·exact h it h1
 ·exact k it h1
theorem iq.one {W : World} {α : Type} {A : Rep α} {p : SLV} {l : List α} (h : SRd A (fun _ => False) W (sl p) l) : iq W [(false, vQ true A p l false)] := fun it hit => by
 rcases List.mem_singleton.1 hit with rfl
 exact ⟨rfl, rfl, fun M hm _ => ⟨h.mv hm, fun h => by cases h⟩⟩
theorem uv {W : World} : ∀ (t : Ty) (cs : List Value) (x : t.T), t.rep.rd (fun _ => False) W cs x → ∀ (o : List (Option TypeId)) (N : List Nm), ∃ I N', yt t x cs (lQ t ++ o) N I N' o ∧ iq W I
 | .i k, cs, x, h, o, N => ⟨[], N, ⟨h, rfl, rfl, rfl⟩, .nil⟩
 | .bo, cs, x, h, o, N => ⟨[], N, ⟨h, rfl, rfl, rfl⟩, .nil⟩
 | .s, cs, x, h, o, N => ⟨[], N, ⟨h, rfl, rfl, rfl⟩, .nil⟩
 | .un, cs, x, h, o, N => ⟨[], N, ⟨h, rfl, rfl, rfl⟩, .nil⟩
 | .n, cs, x, h, o, N => absurd h id
 | .mp _ _, cs, x, h, o, N => absurd h id
 | .p a b, cs, x, h, o, N => by
  obtain ⟨c1, c2, h1, h2, h3⟩ := h
  obtain ⟨I1, N1, s1, g1⟩ := uv a c1 x.1 h2 (lQ b ++ o) N
  obtain ⟨I2, N2, s2, g2⟩ := uv b c2 x.2 h3 o N1
  refine ⟨I1 ++ I2, N2, ⟨c1, c2, N1, I1, I2, lQ b ++ o, ?_, s2, h1, rfl⟩, g1.app g2⟩
  rw [show lQ (.p a b) ++ o = lQ a ++ (lQ b ++ o) by simp [lQ]]
  exact s1
 | .l t, cs, x, h, o, N => by
  obtain ⟨p, h1, h2⟩ := h
  exact ⟨_, _, ⟨⟨0, p, ⟨0, 0, none⟩, none, .bool false, ⟨.un, ()⟩⟩, h1, rfl, .inl ⟨rfl, rfl⟩⟩, .one h2⟩
 | .ex, cs, x, h, o, N => by
  obtain ⟨p, h1, h2⟩ := uF h
  exact ⟨_, _, ⟨⟨0, p, ⟨0, 0, none⟩, none, .bool false, ⟨.un, ()⟩⟩, h1, rfl, .inl ⟨rfl, rfl⟩⟩, .one h2⟩
def Arg (W : World) (t : Ty) (v : Value) (z : t.T) : Prop := ∀ N : List Nm, ∃ I N', Sem (OW t) v none none N [⟨t, z⟩] I [] N' ∧ iq W I
theorem yc {H : Type} {enc : TypeId × Value → H} {P : Program} {W : World} {Q : Nat → Prop} {base : Nat} {n : Nat} {i : TypeId} (t : Ty) (hf : fits P n i t = true) {v : Value} {d : DataW H} {ps : List MemPlace}
  (hw : Value.okWide P W .any base i v) (hQ : ∀ n, n ≤ Rows.uptoBulk d → Q n) (h : DataW.Trod enc P W 0 (fun _ => true) true i v d ps) : ∃ z : t.T, Arg W t v z ∧ Dom Q t z := by
 have hk := h
 obtain ⟨fuel, hx⟩ := h
 obtain ⟨z, h1, h2⟩ := ET n i t hf fuel _ _ hQ hx
 refine ⟨z, ?_, h2⟩
 cases n with
 | zero => cases hf
 | succ n =>
 unfold fits at hf
 split at hf
 ·rename_i k hu
  split at hf
  ·have e := of_decide_eq_true hf
   subst e
   obtain ⟨y, rfl, _⟩ := open_int hu hw hk
   have : y = z := by
    have h1 : ([.int k y] : List Value) = [.int k z] := h1
    injection h1 with h1 _
    injection h1
   subst this
   exact fun N => ⟨[], N, ⟨y, rfl, rfl, rfl, rfl, rfl⟩, .nil⟩
  ·cases hf
 ·rename_i hu
  split at hf
  ·obtain ⟨y, rfl, _⟩ := open_bool hu hw hk
   have : y = z := by
    have h1 : ([.bool y] : List Value) = [.bool z] := h1
    injection h1 with h1 _
    injection h1
   subst this
   exact fun N => ⟨[], N, ⟨y, rfl, rfl, rfl, rfl, rfl⟩, .nil⟩
  ·cases hf
 ·rename_i hu
  split at hf
  ·obtain ⟨⟨⟨y⟩⟩, rfl, _⟩ := open_string hu hw hk
   have : y = z := by
    have h1 : ([S y] : List Value) = [S z] := h1
    injection h1 with h1 _
    injection h1 with h1
    injection h1 with h1
    injection h1
   subst this
   exact fun N => ⟨[], N, ⟨y, rfl, rfl, rfl, rfl, rfl⟩, .nil⟩
  ·cases hf
 ·rename_i e hu
  split at hf
  ·rename_i u
   obtain ⟨a, len, cap, rfl⟩ := okWide_slice hu hw
   obtain ⟨p, e1, h3⟩ := h1
   have e2 : Value.slice a len cap = sl p := by simpa [Value.cells] using e1
   rw [e2]
   exact fun N => ⟨_, _, ⟨⟨0, p, ⟨0, 0, none⟩, none, .bool false, ⟨.un, ()⟩⟩, z, rfl, rfl, rfl, rfl, rfl⟩, .one h3⟩
  ·cases hf
 ·rename_i fs hu
  obtain ⟨cs, rfl, _, _⟩ := O2 hu hw
  split at hf
  ·obtain ⟨p, e1, h3⟩ := uF h1
   exact fun N => ⟨_, _, ⟨cs.toList, z, [], by simp, rfl, ⟨⟨0, p, ⟨0, 0, none⟩, none, .bool false, ⟨.un, ()⟩⟩, e1, rfl, .inl ⟨rfl, rfl⟩⟩, rfl⟩, .one h3⟩
  ·rename_i a b
   exact fun N => by
    obtain ⟨I, N', s, g⟩ := uv (.p a b) _ z h1 [] N
    exact ⟨I, N', ⟨cs.toList, z, [], by simp, rfl, by simpa [Value.cells] using s, rfl⟩, g⟩
  ·cases hf
 ·cases hf
def Ky (W : World) (ps : List Pt) (vs : List Value) (D : List Dyn) : Prop := ∀ N : List Nm, ∃ I N', nO ps vs [] N D I [] N' ∧ iq W I
theorem Mj {W : World} : Ky W [] [] [] := fun N => ⟨[], N, ⟨rfl, rfl, rfl, rfl, rfl⟩, .nil⟩
theorem Br {W : World} {t : Ty} {v : Value} {z : t.T} {ps : List Pt} {vs : List Value} {D : List Dyn} (h : Arg W t v z) (k : Ky W ps vs D) : Ky W (OW t :: ps) (v :: vs) (⟨t, z⟩ :: D) := fun N => by
 obtain ⟨I1, N1, s1, g1⟩ := h N
 obtain ⟨I2, N2, s2, g2⟩ := k N1
 exact ⟨I1 ++ I2, N2, ⟨v, vs, [⟨t, z⟩], D, I1, I2, [], [], N1, rfl, s1, s2, rfl, rfl, rfl⟩, g1.app g2⟩
theorem K2 {W : World} {I : Its} {Γ : Ctx} (g : iq W I) (hn : NoM Γ) (h : Sat Γ W) : Sat (cF I ++ Γ) W := qY h _ (fun it hit => by
 obtain ⟨x, hx, rfl⟩ := List.mem_map.1 hit
 exact ⟨(g x hx).2.1, (g x hx).2.2 _ (LZ hn)⟩)
end Go.Proofs.YtdhgpnejphlfpaaDoor
namespace Go.Proofs.YtdhgpnejphlfpaaDoor
namespace Mo
theorem OA {Q : Nat → Prop} (a b : Str) (ha : Dom Q .s a) (hb : Dom Q .s b) : eC a b = some true := by
 simp only [Dom] at ha hb
 exact zi a b ha hb
end Mo
end Go.Proofs.YtdhgpnejphlfpaaDoor
