/-
  Own texts for the statement ModelCuts, cut down to what it needs: MoItems, MoGap, MoCut, TrSame, MoSame, MoShown, MoRange, MoBlanksP, MoCutsP, KFr. (cut and joined by a program)
-/
import Derived.Test.YtdhgpnejphlfpaaDoorModelCutsA
import Derived.Test.YtdhgpnejphlfpaaDoorModelCutsB
import Derived.Test.YtdhgpnejphlfpaaDoorModelCutsC
import Derived.Test.YtdhgpnejphlfpaaDoorModelCutsD
import Derived.Test.YtdhgpnejphlfpaaDoorModelCutsE
import Derived.Test.YtdhgpnejphlfpaaDoorModelCutsF
import Derived.Lib.LaidTab
import Derived.Below
import Derived.WalkKit
import Derived.ProofKit
namespace Go.Proofs.YtdhgpnejphlfpaaDoor
namespace Mo
open Pa Sy
open Lx (strip)
structure Le (m p : Mdl) : Prop where
 names : m.1 <+: p.1
 procs : m.2.2.2.1 <+: p.2.2.2.1
 cmds : m.2.2.2.2.length ≤ p.2.2.2.2.length
theorem Le.refl (m : Mdl) : Le m m := ⟨List.prefix_refl _, List.prefix_refl _, Nat.le_refl _⟩
theorem Le.trans {a b c : Mdl} (h : Le a b) (k : Le b c) : Le a c := ⟨h.names.trans k.names, h.procs.trans k.procs, Nat.le_trans h.cmds k.cmds⟩
theorem Fit.le {m0 m p : Mdl} (h : Fit m0 p) (k : Le m p) : Fit m0 m := ⟨fun x hx => h.free x (by
  rcases hx with hx | hx
  ·exact .inl (k.names.mem hx)
  ·exact .inr (k.procs.mem hx)), by have := h.names; have := k.names.length_le; omega, by have := h.procs; have := k.procs.length_le; omega, by have := h.cmds; have := k.cmds; omega⟩
theorem items_step {f : Nat} {m p : Mdl} {t : Tok} {r : List Tok} (h : sItems (f + 1) m (t :: r) = .ok p) :
  (t.1 = 4 ∧ m.1 ≠ [] ∧ p = m) ∨ (t.1 ≠ 4 ∧ isT 1 [118, 97, 114] t = true ∧ ∃ m1 r1, sVar m r = .ok (m1, r1) ∧ sItems f m1 r1 = .ok p) ∨ (t.1 ≠ 4 ∧ isT 1 [118, 97, 114] t = false ∧ isT 1 [112, 114, 111, 99] t = true ∧ ∃ m1 r1, sProc m r = .ok (m1, r1) ∧ sItems f m1 r1 = .ok p) := by
 simp only [sItems] at h
 cases c4 : (t.1 == 4)
 ·rw [c4] at h
  simp only [cond_false] at h
  have h4 : t.1 ≠ 4 := by simpa using c4
  cases cv : isT 1 [118, 97, 114] t
  ·rw [cv] at h
   simp only [cond_false] at h
   cases cp : isT 1 [112, 114, 111, 99] t
   ·rw [cp] at h; cases h
   ·rw [cp] at h
    simp only [cond_true] at h
    cases h1 : sProc m r with
    | error e => rw [h1] at h; cases h
    | ok q => rw [h1] at h; exact .inr (.inr ⟨h4, rfl, rfl, q.1, q.2, rfl, h⟩)
  ·rw [cv] at h
   simp only [cond_true] at h
   cases h1 : sVar m r with
   | error e => rw [h1] at h; cases h
   | ok q => rw [h1] at h; exact .inr (.inl ⟨h4, rfl, q.1, q.2, rfl, h⟩)
 ·rw [c4] at h
  simp only [cond_true] at h
  cases hne : m.1.isEmpty
  ·rw [hne] at h
   cases h
   exact .inl ⟨by simpa using c4, fun e => (by rw [e] at hne; cases hne), rfl⟩
  ·rw [hne] at h; cases h
theorem items_var {g : Nat} {M M1 : Mdl} {t t' : Tok} {r r' : List Tok} (hv : isT 1 [118, 97, 114] t = true) (ht : strip t' = strip t) (h : sVar M r = .ok (M1, r')) : sItems (g + 1) M (t' :: r) = sItems g M1 r' := by
 have h4 : (t'.1 == 4) = false := by
  rw [st1 ht]
  exact beq_eq_false_iff_ne.2 (isT_ne hv (by decide))
 simp only [sItems, h4, tl_isT ht, hv, cond_false, cond_true, h]
theorem items_proc {g : Nat} {M M1 : Mdl} {t t' : Tok} {r r' : List Tok} (hv : isT 1 [118, 97, 114] t = false) (hp : isT 1 [112, 114, 111, 99] t = true) (ht : strip t' = strip t) (h : sProc M r = .ok (M1, r')) : sItems (g + 1) M (t' :: r) = sItems g M1 r' := by
 have h4 : (t'.1 == 4) = false := by
  rw [st1 ht]
  exact beq_eq_false_iff_ne.2 (isT_ne hp (by decide))
 simp only [sItems, h4, tl_isT ht, hv, hp, cond_false, cond_true, h]
theorem items_var_e {g : Nat} {M : Mdl} {t : Tok} {r : List Tok} {e : Err} (hv : isT 1 [118, 97, 114] t = true) (h : sVar M r = .error e) : sItems (g + 1) M (t :: r) = .error e := by
 have h4 : (t.1 == 4) = false := beq_eq_false_iff_ne.2 (isT_ne hv (by decide))
 simp only [sItems, h4, hv, cond_false, cond_true, h]
theorem items_proc_e {g : Nat} {M : Mdl} {t : Tok} {r : List Tok} {e : Err} (hv : isT 1 [118, 97, 114] t = false) (hp : isT 1 [112, 114, 111, 99] t = true) (h : sProc M r = .error e) : sItems (g + 1) M (t :: r) = .error e := by
 have h4 : (t.1 == 4) = false := beq_eq_false_iff_ne.2 (isT_ne hp (by decide))
 simp only [sItems, h4, hv, hp, cond_false, cond_true, h]
theorem not4 {t : Tok} (h : bad2 t = false) : t.1 ≠ 4 := by
 intro e
 unfold bad2 at h
 rw [e] at h; cases h
theorem items_l : ∀ (f : Nat) (m p : Mdl) (ts : List Tok), Pa.Ends ts → NK m → sItems f m ts = .ok p →
  ∃ a z r, ts = a ++ z :: r ∧ z.1 = 4 ∧ (∀ t ∈ a, t.1 ≠ 4) ∧ NK p ∧ Le m p ∧ p.1 ≠ [] ∧ 4 * p.2.2.2.2.length ≤ 4 * m.2.2.2.2.length + a.length ∧
   ∀ (m0 M : Mdl) a' r' f', RM m0 m M → Fit m0 p → tl a a' → a'.length < f' → ∃ g M1, f' ≤ g + a'.length ∧ sItems f' M (a' ++ r') = sItems g M1 r' ∧ RM m0 p M1 := by
 intro f
 induction f with
 | zero => intro _ _ _ _ _ h; simp [sItems] at h
 | succ f ih =>
  intro m p ts he hk h
  obtain ⟨t, r, rfl⟩ := he.ne
  rcases items_step h with ⟨h4, hne, rfl⟩ | ⟨h4, hv, m1, r1, h1, h2⟩ | ⟨h4, hv, hp, m1, r1, h1, h2⟩
  ·exact ⟨[], t, r, rfl, h4, fun u hu => (by cases hu), hk, Le.refl _, hne, by simp, fun m0 M a' r' f' hM hF ha hf => by
    have : a' = [] := by simpa [tl] using ha
    subst this
    exact ⟨f', M, by simp, rfl, hM⟩⟩
  ·obtain ⟨a, c, name, lo, hi, fi, rfl, hb, hc, her, hm1, hkn, hl⟩ := sVar_l (he.tail h4) h1
   have hk1 : NK m1 := by
    rw [hm1]
    intro n hn
    rcases List.mem_append.1 hn with hn | hn
    ·exact hk n hn
    ·rw [List.mem_singleton.1 hn]; exact hkn
   obtain ⟨a2, z, r2, rfl, hz, hn4, hkp, hle, hne, hcm, hl2⟩ := ih m1 p r1 her hk1 h2
   have hle1 : Le m m1 := by rw [hm1]; exact ⟨List.prefix_append _ _, List.prefix_refl _, Nat.le_refl _⟩
   refine ⟨t :: (a ++ c :: a2), z, r2, by simp, hz, fun u hu => ?_, hkp, hle1.trans hle, hne, ?_, fun m0 M a' r' f' hM hF ha hf => ?_⟩
   ·rcases List.mem_cons.1 hu with rfl | hu
    ·exact h4
    ·rcases List.mem_append.1 hu with hu | hu
     ·exact not4 (bad_bad2 (hb u hu))
     ·rcases List.mem_cons.1 hu with rfl | hu
      ·exact isT_ne hc (by decide)
      ·exact hn4 u hu
   ·rw [hm1] at hcm
    simp only [List.length_cons, List.length_append] at hcm ⊢
    omega
   ·obtain ⟨t', b, rfl, ht', hb'⟩ := map_cons ha
    obtain ⟨b1, b2, rfl, hb1, hb2⟩ := map_app hb'
    obtain ⟨c', b3, rfl, hc', hb3⟩ := map_cons hb2
    obtain ⟨M1, q1, q2⟩ := hl m0 M b1 c' (b3 ++ r') hM (hF.le hle) hb1 hc'
    obtain ⟨n, rfl⟩ : ∃ n, f' = n + 1 := ⟨f' - 1, by omega⟩
    simp only [List.length_cons, List.length_append] at hf
    obtain ⟨g, M2, g1, g2, g3⟩ := hl2 m0 M1 b3 r' n q2 hF hb3 (by omega)
    refine ⟨g, M2, by simp only [List.length_cons, List.length_append]; omega, ?_, g3⟩
    rw [List.cons_append, List.append_assoc, List.cons_append, items_var hv ht' q1, g2]
  ·obtain ⟨x, o, a, c, name, C, rfl, hx, hx1, ho, hb, hc, her, hm1, hC, hl⟩ := sProc_l (he.tail h4) hk h1
   have hk1 : NK m1 := by rw [hm1]; exact hk
   obtain ⟨a2, z, r2, rfl, hz, hn4, hkp, hle, hne, hcm, hl2⟩ := ih m1 p r1 her hk1 h2
   have hle1 : Le m m1 := by rw [hm1]; exact ⟨List.prefix_refl _, List.prefix_append _ _, by simp⟩
   refine ⟨t :: x :: o :: (a ++ c :: a2), z, r2, by simp, hz, fun u hu => ?_, hkp, hle1.trans hle, hne, ?_, fun m0 M a' r' f' hM hF ha hf => ?_⟩
   ·rcases List.mem_cons.1 hu with rfl | hu
    ·exact h4
    ·rcases List.mem_cons.1 hu with rfl | hu
     ·rw [hx1]; decide
     ·rcases List.mem_cons.1 hu with rfl | hu
      ·exact isT_ne ho (by decide)
      ·rcases List.mem_append.1 hu with hu | hu
       ·exact not4 (hb u hu)
       ·rcases List.mem_cons.1 hu with rfl | hu
        ·exact isT_ne hc (by decide)
        ·exact hn4 u hu
   ·rw [hm1] at hcm
    simp only [List.length_cons, List.length_append] at hcm ⊢
    omega
   ·obtain ⟨t', b, rfl, ht', hb'⟩ := map_cons ha
    obtain ⟨x', b0, rfl, hx', hb0⟩ := map_cons hb'
    obtain ⟨o', b00, rfl, ho', hb00⟩ := map_cons hb0
    obtain ⟨b1, b2, rfl, hb1, hb2⟩ := map_app hb00
    obtain ⟨c', b3, rfl, hc', hb3⟩ := map_cons hb2
    obtain ⟨M1, q1, q2⟩ := hl m0 M x' o' b1 c' (b3 ++ r') hM (hF.le hle) hx' ho' hb1 hc'
    obtain ⟨n, rfl⟩ : ∃ n, f' = n + 1 := ⟨f' - 1, by omega⟩
    simp only [List.length_cons, List.length_append] at hf
    obtain ⟨g, M2, g1, g2, g3⟩ := hl2 m0 M1 b3 r' n q2 hF hb3 (by omega)
    refine ⟨g, M2, by simp only [List.length_cons, List.length_append]; omega, ?_, g3⟩
    simp only [List.cons_append, List.append_assoc]
    rw [items_proc hv hp ht' q1, g2]
def E0 : Mdl := ([], [], [], [], [])
theorem RM.self (m : Mdl) : RM E0 m m := ⟨rfl, rfl, rfl, rfl, by
 simp only [E0, List.map_nil, List.nil_append, List.length_nil]
 refine List.map_congr_left fun c _ => ?_
 obtain ⟨i, g, s⟩ := c
 unfold clrC shC
 simp only [Prod.mk.injEq]
 refine ⟨by omega, rfl, List.map_congr_left fun s _ => ?_⟩
 unfold clrS shS
 simp only [Prod.mk.injEq]
 exact ⟨by omega, rfl⟩⟩
theorem RM.none (m : Mdl) : RM m E0 m := ⟨by simp [E0], by simp [E0], by simp [E0], by simp [E0], by simp [E0]⟩
structure Few (p : Mdl) : Prop where
 names : p.1.length ≤ 16
 procs : p.2.2.2.1.length < 1000000
 cmds : p.2.2.2.2.length ≤ 256
theorem Few.fit {p : Mdl} (h : Few p) : Fit E0 p := ⟨fun x _ => ⟨List.not_mem_nil, List.not_mem_nil⟩, by have := h.names; simp [E0]; omega, by have := h.procs; simp [E0]; omega, by have := h.cmds; simp [E0]; omega⟩
theorem ends_app : ∀ {a b : List Tok}, Pa.Ends (a ++ b) → b ≠ [] → Pa.Ends b
 | [], _, h, _ => h
 | t :: a, b, h, hb => by
  rcases h with h | ⟨h, _⟩
  ·exact ends_app h hb
  ·exfalso
   have : b = [] := (List.append_eq_nil_iff.1 h).2
   exact hb this
theorem cut_l : ∀ (f : Nat) (m p : Mdl) (ts : List Tok), Pa.Ends ts → NK m → Few p → sItems f m ts = .ok p → ∀ (k : Nat) (i0 : Int), k < ts.length → (∀ t ∈ ts.take k, t.1 ≠ 4) →
  (∃ mk, scan (0, i0, false) (ts.take k) = (0, i0 + (mk.1.length - m.1.length : Nat), false) ∧ m.1.length ≤ mk.1.length ∧ mk.1.length ≤ p.1.length ∧ NK mk ∧
   ∀ (M : Mdl) r' f', RM E0 m M → k < f' → ∃ g Mk, f' ≤ g + k ∧ sItems f' M (ts.take k ++ r') = sItems g Mk r' ∧ RM E0 mk Mk) ∨
  (∃ d i, scan (0, i0, false) (ts.take k) = (d, i, true) ∧ ∀ (M : Mdl) z z' f', RM E0 m M → Stop z → Pa.Ends (ts.take k ++ z :: z') → ∃ e, sItems f' M (ts.take k ++ z :: z') = .error e) := by
 intro f
 induction f with
 | zero => intro _ _ _ _ _ _ h; simp [sItems] at h
 | succ f ih =>
  intro m p ts he hk hF h k i0 hkl hk4
  obtain ⟨t, r, rfl⟩ := he.ne
  cases k with
  | zero =>
   refine .inl ⟨m, by simp [scan], Nat.le_refl _, ?_, hk, fun M r' f' hM hf => ⟨f', M, by omega, rfl, hM⟩⟩
   obtain ⟨_, _, _, _, _, _, _, hle, _⟩ := items_l (f + 1) m p (t :: r) he hk h
   exact hle.names.length_le
  | succ k =>
   rw [List.take_succ_cons] at hk4 ⊢
   have ht4 : t.1 ≠ 4 := hk4 t (by simp)
   simp only [List.length_cons] at hkl
   rcases items_step h with ⟨h4, _, _⟩ | ⟨_, hv, m1, r1, h1, h2⟩ | ⟨_, hv, hp, m1, r1, h1, h2⟩
   ·exact absurd h4 ht4
   ·obtain ⟨a, c, name, lo, hi, fi, rfl, hb, hc, her, hm1, hkn, hl⟩ := sVar_l (he.tail ht4) h1
    have hk1 : NK m1 := by
     rw [hm1]
     intro n hn
     rcases List.mem_append.1 hn with hn | hn
     ·exact hk n hn
     ·rw [List.mem_singleton.1 hn]; exact hkn
    have hle : Le m1 p := (items_l f m1 p r1 her hk1 h2).choose_spec.choose_spec.choose_spec.2.2.2.2.1
    have hs1 : scan1 (0, i0, false) t = (0, i0, true) := scan1_kw (.inl hv)
    rcases Nat.lt_or_ge a.length k with hka | hka
    ·-- behind the item
     have hL : m1.1.length = m.1.length + 1 := by rw [hm1]; simp
     have htk : (a ++ c :: r1).take k = a ++ c :: r1.take (k - a.length - 1) := by
      rw [List.take_append, List.take_of_length_le (by omega)]
      congr 1
      obtain ⟨j, hj⟩ : ∃ j, k - a.length = j + 1 := ⟨k - a.length - 1, by omega⟩
      rw [hj, List.take_succ_cons]; congr 2
     have hsc : scan (0, i0, false) (t :: (a ++ c :: r1.take (k - a.length - 1))) = scan (0, i0 + 1, false) (r1.take (k - a.length - 1)) := by
      show scan (scan1 (0, i0, false) t) _ = _
      rw [hs1]
      unfold scan
      rw [List.foldl_append]
      have := scan_bad (d := 0) (i := i0) (o := true) hb
      unfold scan at this
      rw [this]
      show List.foldl scan1 (scan1 (0, i0, true) c) _ = _
      rw [scan1_semi hc]
     rw [htk] at hk4 ⊢
     have hlr : k - a.length - 1 < r1.length := by simp only [List.length_append, List.length_cons] at hkl; omega
     rcases ih m1 p r1 her hk1 hF h2 (k - a.length - 1) (i0 + 1) hlr (fun u hu => hk4 u (by simp [hu])) with ⟨mk, g1, g2, g3, g4, g5⟩ | ⟨d, i, g1, g2⟩
     ·refine .inl ⟨mk, ?_, by omega, g3, g4, fun M r' f' hM hf => ?_⟩
      ·rw [hsc, g1]
       congr 2
       omega
      ·obtain ⟨M1, q1, q2⟩ := hl E0 M a c (r1.take (k - a.length - 1) ++ r') hM (hF.fit.le hle) rfl rfl
       obtain ⟨n, rfl⟩ : ∃ n, f' = n + 1 := ⟨f' - 1, by omega⟩
       obtain ⟨g, Mk, w1, w2, w3⟩ := g5 M1 r' n q2 (by omega)
       refine ⟨g, Mk, by omega, ?_, w3⟩
       rw [List.cons_append, List.append_assoc, List.cons_append, items_var hv rfl q1, w2]
     ·refine .inr ⟨d, i, by rw [hsc, g1], fun M z z' f' hM hz hE => ?_⟩
      obtain ⟨M1, q1, q2⟩ := hl E0 M a c (r1.take (k - a.length - 1) ++ z :: z') hM (hF.fit.le hle) rfl rfl
      cases f' with
      | zero => exact ⟨_, rfl⟩
      | succ n =>
       obtain ⟨e, he'⟩ := g2 M1 z z' n q2 hz (ends_app (a := t :: (a ++ [c])) (by simpa using hE) (by simp))
       exact ⟨e, by rw [List.cons_append, List.append_assoc, List.cons_append, items_var hv rfl q1, he']⟩
    ·-- within the item
     have htk : (a ++ c :: r1).take k = a.take k := by rw [List.take_append_of_le_length hka]
     rw [htk] at hk4 ⊢
     refine .inr ⟨0, i0, ?_, fun M z z' f' hM hz hE => ?_⟩
     ·show scan (scan1 (0, i0, false) t) _ = _
      rw [hs1]
      exact scan_bad (fun u hu => hb u (List.mem_of_mem_take hu))
     ·cases f' with
      | zero => exact ⟨_, rfl⟩
      | succ n =>
       obtain ⟨e, he'⟩ := sVar_cut (m := M) (z' := z') hb hz (List.take_prefix k a) (hE.tail ht4)
       exact ⟨e, items_var_e hv he'⟩
   ·obtain ⟨x, o, a, c, name, C, rfl, hx, hx1, ho, hb, hc, her, hm1, hC, hl⟩ := sProc_l (he.tail ht4) hk h1
    have hk1 : NK m1 := by rw [hm1]; exact hk
    have hle : Le m1 p := (items_l f m1 p r1 her hk1 h2).choose_spec.choose_spec.choose_spec.2.2.2.2.1
    have hs1 : scan1 (0, i0, false) t = (0, i0, true) := scan1_kw (.inr hp)
    have hsx : scan1 (0, i0, true) x = (0, i0, true) := scan1_bad hx
    have hso : scan1 (0, i0, true) o = (1, i0, true) := scan1_open ho
    have hMk : ∀ M, RM E0 m M → NK M := fun M hM => by
     intro n hn
     rw [hM.names] at hn
     exact hk n (by simpa [E0] using hn)
    rcases Nat.lt_or_ge (a.length + 2) k with hka | hka
    ·have hL : m1.1.length = m.1.length := by rw [hm1]
     have htk : (x :: o :: (a ++ c :: r1)).take k = x :: o :: (a ++ c :: r1.take (k - a.length - 3)) := by
      obtain ⟨j, rfl⟩ : ∃ j, k = j + 2 := ⟨k - 2, by omega⟩
      rw [List.take_succ_cons, List.take_succ_cons, List.take_append, List.take_of_length_le (by omega)]
      congr 3
      obtain ⟨q, hq⟩ : ∃ q, j - a.length = q + 1 := ⟨j - a.length - 1, by omega⟩
      rw [hq, List.take_succ_cons]; congr 2; omega
     have hsc : scan (0, i0, false) (t :: x :: o :: (a ++ c :: r1.take (k - a.length - 3))) = scan (0, i0, false) (r1.take (k - a.length - 3)) := by
      show scan (scan1 (scan1 (scan1 (0, i0, false) t) x) o) _ = _
      rw [hs1, hsx, hso]
      unfold scan
      rw [List.foldl_append]
      have := scan_bad2 (i := i0) (o := true) hb
      unfold scan at this
      rw [this]
      show List.foldl scan1 (scan1 (1, i0, true) c) _ = _
      rw [scan1_close hc]
     rw [htk] at hk4 ⊢
     have hlr : k - a.length - 3 < r1.length := by simp only [List.length_append, List.length_cons] at hkl; omega
     rcases ih m1 p r1 her hk1 hF h2 (k - a.length - 3) i0 hlr (fun u hu => hk4 u (by simp [hu])) with ⟨mk, g1, g2, g3, g4, g5⟩ | ⟨d, i, g1, g2⟩
     ·refine .inl ⟨mk, ?_, by omega, g3, g4, fun M r' f' hM hf => ?_⟩
      ·rw [hsc, g1, hL]
      ·obtain ⟨M1, q1, q2⟩ := hl E0 M x o a c (r1.take (k - a.length - 3) ++ r') hM (hF.fit.le hle) rfl rfl rfl rfl
       obtain ⟨n, rfl⟩ : ∃ n, f' = n + 1 := ⟨f' - 1, by omega⟩
       obtain ⟨g, Mk, w1, w2, w3⟩ := g5 M1 r' n q2 (by omega)
       refine ⟨g, Mk, by omega, ?_, w3⟩
       simp only [List.cons_append, List.append_assoc]
       rw [items_proc hv hp rfl q1, w2]
     ·refine .inr ⟨d, i, by rw [hsc, g1], fun M z z' f' hM hz hE => ?_⟩
      obtain ⟨M1, q1, q2⟩ := hl E0 M x o a c (r1.take (k - a.length - 3) ++ z :: z') hM (hF.fit.le hle) rfl rfl rfl rfl
      cases f' with
      | zero => exact ⟨_, rfl⟩
      | succ n =>
       obtain ⟨e, he'⟩ := g2 M1 z z' n q2 hz (ends_app (a := t :: x :: o :: (a ++ [c])) (by simpa using hE) (by simp))
       refine ⟨e, ?_⟩
       simp only [List.cons_append, List.append_assoc]
       rw [items_proc hv hp rfl q1, he']
    ·have htk : (x :: o :: (a ++ c :: r1)).take k = (x :: o :: a).take k := by
      have : x :: o :: (a ++ c :: r1) = (x :: o :: a) ++ c :: r1 := by simp
      rw [this, List.take_append_of_le_length (by simp only [List.length_cons]; omega)]
     rw [htk] at hk4 ⊢
     refine .inr ?_
     have hsc : ∃ d, scan (0, i0, false) (t :: (x :: o :: a).take k) = (d, i0, true) := by
      match k with
      | 0 => exact ⟨0, by show scan1 (0, i0, false) t = _; exact hs1⟩
      | 1 => exact ⟨0, by show scan1 (scan1 (0, i0, false) t) x = _; rw [hs1, hsx]⟩
      | j + 2 =>
       refine ⟨1, ?_⟩
       rw [List.take_succ_cons, List.take_succ_cons]
       show scan (scan1 (scan1 (scan1 (0, i0, false) t) x) o) _ = _
       rw [hs1, hsx, hso]
       exact scan_bad2 (fun u hu => hb u (List.mem_of_mem_take hu))
     obtain ⟨d, hsc⟩ := hsc
     refine ⟨d, i0, hsc, fun M z z' f' hM hz hE => ?_⟩
     cases f' with
     | zero => exact ⟨_, rfl⟩
     | succ n =>
      obtain ⟨e, he'⟩ := sProc_cut (m := M) (z' := z') (hMk M hM) hx ho hb hz (List.take_prefix k (x :: o :: a)) (hE.tail ht4)
      exact ⟨e, items_proc_e hv hp he'⟩
end Mo
end Go.Proofs.YtdhgpnejphlfpaaDoor
namespace Go.Proofs.YtdhgpnejphlfpaaDoor
namespace Lx
theorem lex_len {s : Str} {l : List Tok} (h : lex s = .ok l) : 1 ≤ l.length ∧ l.length ≤ s.length + 1 := by
 constructor
 ·have := lex_ok_ne _ _ h
  cases l with
  | nil => exact absurd rfl this
  | cons x l => simp
 ·exact (Sy.lex_good h).len
theorem lex_last : ∀ (s : Str) (l : List Tok), lex s = .ok l → l.getLast? = some (4, [], 0, (s.length : Int)) := by
 intro s
 refine lex_ind (P := fun s => ∀ (l : List Tok), lex s = .ok l → l.getLast? = some (4, [], 0, (s.length : Int))) ?_ ?_ ?_ ?_ s
 ·intro l h; rw [lex_nil] at h; cases h; rfl
 ·intro c s k hst ih l h
  rw [lex_skip hst] at h
  obtain ⟨hk1, hk2⟩ := step_skip hst
  cases hl : lex ((c :: s).drop k) with
  | ok l' =>
   rw [hl] at h; simp only [shE, Except.ok.injEq] at h
   subst h
   rw [List.getLast?_map, ih l' hl]
   simp only [Option.map_some, shT, List.length_drop]
   congr 4
   omega
  | error e => rw [hl] at h; cases h
 ·intro c s e hst l h; rw [lex_err hst] at h; cases h
 ·intro c s k t n hst ih l h
  rw [lex_tok hst] at h
  obtain ⟨_, _, h1, h2⟩ := step_tok hst
  have hk2 := h2.length_le
  cases hl : lex ((c :: s).drop t.length) with
  | ok l' =>
   rw [hl] at h; simp only [shE, consE, Except.ok.injEq] at h
   subst h
   rw [List.getLast?_cons, List.getLast?_map, ih l' hl]
   simp only [Option.map_some, shT, List.length_drop, Option.getD_some]
   congr 4
   omega
  | error e => rw [hl] at h; cases h
def Whole (x : Tok) : Prop := (∃ c s, x.2.1 = c :: s ∧ (c == 35) = false) ∧ step x.2.1 = .tok x.1 x.2.1 x.2.2.1
theorem lex_whole : ∀ (s : Str) (l : List Tok), lex s = .ok l → ∀ x ∈ l.dropLast, Whole x := by
 intro s
 refine lex_ind (P := fun s => ∀ (l : List Tok), lex s = .ok l → ∀ x ∈ l.dropLast, Whole x) ?_ ?_ ?_ ?_ s
 ·intro l h; rw [lex_nil] at h; cases h; simp
 ·intro c s k hst ih l h x hx
  rw [lex_skip hst] at h
  cases hl : lex ((c :: s).drop k) with
  | ok l' =>
   rw [hl] at h; simp only [shE, Except.ok.injEq] at h
   subst h
   rw [← List.map_dropLast] at hx
   obtain ⟨y, hy, rfl⟩ := List.mem_map.1 hx
   exact ih l' hl y hy
  | error e => rw [hl] at h; cases h
 ·intro c s e hst l h; rw [lex_err hst] at h; cases h
 ·intro c s k t n hst ih l h x hx
  rw [lex_tok hst] at h
  cases hl : lex ((c :: s).drop t.length) with
  | ok l' =>
   rw [hl] at h; simp only [shE, consE, Except.ok.injEq] at h
   subst h
   have hne := lex_ok_ne _ _ hl
   rw [List.dropLast_cons_of_ne_nil (by simpa using hne)] at hx
   rcases List.mem_cons.1 hx with rfl | hx
   ·obtain ⟨h1, ⟨s', h2⟩, _, _⟩ := step_self hst
    obtain ⟨_, hc, _, _⟩ := step_tok hst
    exact ⟨⟨c, s', h2, hc⟩, h1⟩
   ·rw [← List.map_dropLast] at hx
    obtain ⟨y, hy, rfl⟩ := List.mem_map.1 hx
    exact ih l' hl y hy
  | error e => rw [hl] at h; cases h
def body (g : Str) : List Tok → Str
 | [] => []
 | x :: l => x.2.1 ++ g ++ body g l
def texts : List Tok → Nat
 | [] => 0
 | x :: l => x.2.1.length + texts l
end Lx
end Go.Proofs.YtdhgpnejphlfpaaDoor
namespace Go.Proofs.YtdhgpnejphlfpaaDoor
namespace Lx
theorem tw_take (p : UInt8 → Bool) : ∀ (l : Str) (n : Nat), (l.takeWhile p).length ≤ n → (l.take n).takeWhile p = l.takeWhile p
 | [], n, _ => by simp
 | c :: l, n, h => by
  cases hc : p c
  ·cases n with
   | zero => simp [hc]
   | succ n => simp [hc]
  ·rw [List.takeWhile_cons, if_pos hc] at h
   simp only [List.length_cons] at h
   obtain ⟨m, rfl⟩ : ∃ m, n = m + 1 := ⟨n - 1, by omega⟩
   rw [List.take_succ_cons, List.takeWhile_cons, if_pos hc, List.takeWhile_cons, if_pos hc, tw_take p l m (by omega)]
theorem step_skip_take {c : UInt8} {s : Str} {k n : Nat} (h : step (c :: s) = .skip k) (hn : k ≤ n) : step ((c :: s).take n) = .skip k := by
 have hk := step_skip h
 obtain ⟨m, rfl⟩ : ∃ m, n = m + 1 := ⟨n - 1, by omega⟩
 rw [List.take_succ_cons]
 cases hb : isBlank c
 ·cases hc : (c == 35)
  ·simp only [step, hb, hc, Bool.false_eq_true, if_false] at h
   repeat' (split at h)
   all_goals cases h
  ·simp only [step, hb, hc, Bool.false_eq_true, if_false, if_true, Step.skip.injEq] at h ⊢
   rw [← List.take_succ_cons, tw_take notLf (c :: s) (m + 1) (by omega)]
   exact h
 ·simp only [step, hb, if_true] at h ⊢
  exact h
theorem tw_pre {p : UInt8 → Bool} {l : Str} {n : Nat} {t : Str} (h : l.takeWhile p = t) (hn : t.length ≤ n) : (l.take n).takeWhile p = t := by
 subst h; exact tw_take p l n hn
theorem prefix_take {g l : Str} {n : Nat} (h : g.isPrefixOf (l.take n) = true) : g.isPrefixOf l = true := by
 rw [List.isPrefixOf_iff_prefix] at *
 exact h.trans (List.take_prefix n l)
theorem signOf_take {l : Str} {n : Nat} {t : Str} (h : signOf l = t) (ht : (t == []) = false) (hn : t.length ≤ n) : signOf (l.take n) = t := by
 subst h
 obtain ⟨h1, h2, h3⟩ := signOf_mem ht
 unfold signOf at h3 hn ⊢
 rw [h3] at hn ⊢
 simp only [Option.getD_some] at h3 hn ⊢
 have hp : (signOf l).isPrefixOf (l.take n) = true := by
  rw [List.isPrefixOf_iff_prefix]
  exact List.prefix_take_iff.2 ⟨h2, hn⟩
 rw [List.find?_eq_some_iff_append] at h3
 obtain ⟨_, as, bs, e, hb⟩ := h3
 have : signs.find? (fun g => g.isPrefixOf (l.take n)) = some (signOf l) := by
  rw [List.find?_eq_some_iff_append]
  refine ⟨hp, as, bs, e, fun g hg => ?_⟩
  have := hb g hg
  cases hx : g.isPrefixOf (l.take n)
  ·rfl
  ·rw [prefix_take hx] at this; cases this
 rw [this]
 rfl
theorem step_tok_take {c : UInt8} {s : Str} {k : Int} {t : Str} {x : Int} {n : Nat} (h : step (c :: s) = .tok k t x) (hn : t.length ≤ n) : step ((c :: s).take n) = .tok k t x := by
 obtain ⟨hb, hc, h1, h2⟩ := step_tok h
 obtain ⟨m, rfl⟩ : ∃ m, n = m + 1 := ⟨n - 1, by omega⟩
 rw [List.take_succ_cons]
 simp only [step, hb, hc, Bool.false_eq_true, if_false] at h ⊢
 cases hl : isLetter c
 ·simp only [hl, Bool.false_eq_true, if_false] at h ⊢
  cases hd : isDigit c
  ·simp only [hd, Bool.false_eq_true, if_false] at h ⊢
   cases hs : (signOf (c :: s) == [])
   ·simp only [hs, Bool.false_eq_true, if_false, Step.tok.injEq] at h
    obtain ⟨e1, e2, e3⟩ := h
    have := signOf_take (n := m + 1) e2 (by rw [← e2]; exact hs) hn
    rw [List.take_succ_cons] at this
    rw [this, ← e2, hs, ← e1, ← e3]
    rfl
   ·simp [hs] at h
  ·simp only [hd, if_true] at h ⊢
   split at h
   ·cases h
   ·rename_i hb'
    simp only [Step.tok.injEq] at h
    obtain ⟨e1, e2, e3⟩ := h
    have := tw_pre (n := m + 1) e2 hn
    rw [List.take_succ_cons] at this
    rw [e2] at e3 hb'
    rw [this, if_neg hb', ← e1, ← e3]
 ·simp only [hl, if_true] at h ⊢
  split at h
  ·cases h
  ·rename_i hb'
   simp only [Step.tok.injEq] at h
   obtain ⟨e1, e2, e3⟩ := h
   have := tw_pre (n := m + 1) e2 hn
   rw [List.take_succ_cons] at this
   rw [e2] at hb'
   rw [this, if_neg hb', ← e1, ← e3]
def plN (t : Tok) : Nat := t.2.2.2.toNat
theorem plN_sh {t : Tok} (k : Nat) (h : 0 ≤ t.2.2.2) : plN (shT k t) = plN t + k := by unfold plN shT; simp only; omega
theorem place_bound : ∀ (s : Str) (l : List Tok), lex s = .ok l → ∀ x ∈ l, 0 ≤ x.2.2.2 ∧ x.2.2.2 ≤ (s.length : Int) := by
 intro s
 refine lex_ind (P := fun s => ∀ (l : List Tok), lex s = .ok l → ∀ x ∈ l, 0 ≤ x.2.2.2 ∧ x.2.2.2 ≤ (s.length : Int)) ?_ ?_ ?_ ?_ s
 ·intro l h; rw [lex_nil] at h; cases h; simp
 ·intro c s k hst ih l h x hx
  rw [lex_skip hst] at h
  obtain ⟨hk1, hk2⟩ := step_skip hst
  cases hl : lex ((c :: s).drop k) with
  | ok l' =>
   rw [hl] at h; simp only [shE, Except.ok.injEq] at h
   subst h
   obtain ⟨y, hy, rfl⟩ := List.mem_map.1 hx
   have := ih l' hl y hy
   simp only [List.length_drop] at this
   simp only [shT]; omega
  | error e => rw [hl] at h; cases h
 ·intro c s e hst l h; rw [lex_err hst] at h; cases h
 ·intro c s k t n hst ih l h x hx
  rw [lex_tok hst] at h
  obtain ⟨_, _, h1, h2⟩ := step_tok hst
  have hk2 := h2.length_le
  cases hl : lex ((c :: s).drop t.length) with
  | ok l' =>
   rw [hl] at h; simp only [shE, consE, Except.ok.injEq] at h
   subst h
   rcases List.mem_cons.1 hx with rfl | hx
   ·simp; omega
   ·obtain ⟨y, hy, rfl⟩ := List.mem_map.1 hx
    have := ih l' hl y hy
    simp only [List.length_drop] at this
    simp only [shT]; omega
  | error e => rw [hl] at h; cases h
theorem take_add (l : Str) (k p : Nat) : (l.take (p + k)).drop k = (l.drop k).take p := by
 rw [List.drop_take]; congr 1; omega
theorem lex_take : ∀ (s : Str) (l : List Tok), lex s = .ok l → ∀ (k : Nat) (x : Tok), l[k]? = some x → lex (s.take (plN x)) = .ok (l.take k ++ [(4, [], 0, (plN x : Int))]) := by
 intro s
 refine lex_ind (P := fun s => ∀ (l : List Tok), lex s = .ok l → ∀ (k : Nat) (x : Tok), l[k]? = some x → lex (s.take (plN x)) = .ok (l.take k ++ [(4, [], 0, (plN x : Int))])) ?_ ?_ ?_ ?_ s
 ·intro l h k x hx
  rw [lex_nil] at h
  cases h
  cases k with
  | zero => simp at hx; subst hx; rfl
  | succ k => simp at hx
 ·intro c s j hst ih l h k x hx
  rw [lex_skip hst] at h
  obtain ⟨hj1, hj2⟩ := step_skip hst
  cases hl : lex ((c :: s).drop j) with
  | error e => rw [hl] at h; cases h
  | ok l' =>
   rw [hl] at h; simp only [shE, Except.ok.injEq] at h
   subst h
   rw [List.getElem?_map] at hx
   cases hy : l'[k]? with
   | none => rw [hy] at hx; cases hx
   | some y =>
    rw [hy] at hx
    simp only [Option.map_some, Option.some.injEq] at hx
    subst hx
    have hp := (place_bound _ _ hl y (List.mem_of_getElem? hy)).1
    rw [plN_sh j hp]
    have ihy := ih l' hl k y hy
    have hst2 := step_skip_take (n := plN y + j) hst (by omega)
    obtain ⟨c', s', e⟩ : ∃ c' s', (c :: s).take (plN y + j) = c' :: s' := by
     obtain ⟨m, hm⟩ : ∃ m, plN y + j = m + 1 := ⟨plN y + j - 1, by omega⟩
     exact ⟨c, s.take m, by rw [hm]; rfl⟩
    have hd := take_add (c :: s) j (plN y)
    rw [e] at hst2 hd ⊢
    rw [lex_skip hst2, hd, ihy]
    simp only [shE, List.map_append, List.map_take, List.map_cons, List.map_nil]
    congr 2
 ·intro c s e hst l h; rw [lex_err hst] at h; cases h
 ·intro c s kk t n hst ih l h k x hx
  rw [lex_tok hst] at h
  obtain ⟨_, _, h1, h2⟩ := step_tok hst
  cases hl : lex ((c :: s).drop t.length) with
  | error e => rw [hl] at h; cases h
  | ok l' =>
   rw [hl] at h; simp only [shE, consE, Except.ok.injEq] at h
   subst h
   cases k with
   | zero =>
    simp only [List.getElem?_cons_zero, Option.some.injEq] at hx
    subst hx
    rfl
   | succ k =>
    simp only [List.getElem?_cons_succ, List.getElem?_map] at hx
    cases hy : l'[k]? with
    | none => rw [hy] at hx; cases hx
    | some y =>
     rw [hy] at hx
     simp only [Option.map_some, Option.some.injEq] at hx
     subst hx
     have hp := (place_bound _ _ hl y (List.mem_of_getElem? hy)).1
     rw [plN_sh t.length hp]
     have ihy := ih l' hl k y hy
     have hst2 := step_tok_take (n := plN y + t.length) hst (by omega)
     obtain ⟨c', s', e⟩ : ∃ c' s', (c :: s).take (plN y + t.length) = c' :: s' := by
      obtain ⟨m, hm⟩ : ∃ m, plN y + t.length = m + 1 := ⟨plN y + t.length - 1, by omega⟩
      exact ⟨c, s.take m, by rw [hm]; rfl⟩
     have hd := take_add (c :: s) t.length (plN y)
     rw [e] at hst2 hd ⊢
     rw [lex_tok hst2, hd, ihy]
     simp only [shE, consE, List.map_append, List.map_take, List.map_cons, List.map_nil, List.take_succ_cons, List.cons_append]
     congr 3
end Lx
end Go.Proofs.YtdhgpnejphlfpaaDoor
namespace Go.Proofs.YtdhgpnejphlfpaaDoor
mutual
def same : Ex → Ex → Bool
 | .mk o n _ l, b => o == b.op && n == b.n && sameL l b.l
def sameL : List Ex → List Ex → Bool
 | [], [] => true
 | x :: l, y :: m => same x y && sameL l m
 | [], _ :: _ => false
 | _ :: _, [] => false
end
end Go.Proofs.YtdhgpnejphlfpaaDoor
namespace Go.Proofs.YtdhgpnejphlfpaaDoor
def all2 {α β : Type} (R : α → β → Bool) : List α → List β → Bool
 | [], [] => true
 | x :: l, y :: m => R x y && all2 R l m
 | _, _ => false
theorem all2_loop {α β : Type} {F : (Int → Option Bool) → Int → Option Bool} {s1 : List α} {s2 : List β} {R : α → β → Bool} (hl : s1.length < 4611686018427387904)
  (hstep : ∀ again (i : Nat) (x : α) (y : β), s1[i]? = some x → s2[i]? = some y → F again (i : Int) = bif R x y then again (((i + 1 : Nat) : Int)) else some false)
  (hend : ∀ again, F again (s1.length : Int) = some true) :
  ∀ (r : List α) (r' : List β) (pre : List α) (pre' : List β), s1 = pre ++ r → s2 = pre' ++ r' → pre.length = pre'.length → r.length = r'.length → ∀ M, r.length < M → fixN F M (pre.length : Int) = some (all2 R r r')
 | [], r', pre, pre', h, h', hp, hr, M, hM => by
  obtain ⟨m, rfl⟩ : ∃ m, M = m + 1 := ⟨M - 1, by simp at hM; omega⟩
  obtain rfl : r' = [] := List.eq_nil_of_length_eq_zero (by simpa using hr.symm)
  rw [fixN_succ]
  have : pre = s1 := by simpa using h.symm
  rw [this]
  exact hend _
 | x :: r, [], pre, pre', h, h', hp, hr, M, hM => by simp at hr
 | x :: r, y :: r', pre, pre', h, h', hp, hr, M, hM => by
  obtain ⟨m, rfl⟩ : ∃ m, M = m + 1 := ⟨M - 1, by omega⟩
  rw [fixN_succ]
  have ih := all2_loop hl hstep hend r r' (pre ++ [x]) (pre' ++ [y]) (by rw [h]; simp) (by rw [h']; simp) (by simp [hp]) (by simpa using hr) m (by simp at hM; omega)
  rw [show ((pre ++ [x]).length : Int) = ((pre.length + 1 : Nat) : Int) by simp] at ih
  rw [hstep _ pre.length x y (by rw [h]; simp) (by rw [h', hp]; simp), ih]
  simp only [all2]
  cases R x y <;> rfl
namespace Mo
open Pa Sy
structure Sml (m : Mdl) : Prop where
 names : m.1.length < 4611686018427387904
 schema : m.2.1.length < 4611686018427387904
 init : m.2.2.1.length < 4611686018427387904
 procs : m.2.2.2.1.length < 4611686018427387904
 cmds : m.2.2.2.2.length < 4611686018427387904
 cmd : ∀ c ∈ m.2.2.2.2, c.2.1.sz < 4611686018427387904 ∧ c.2.2.length < 4611686018427387904 ∧ ∀ s ∈ c.2.2, s.2.sz < 4611686018427387904
theorem Sml.empty : Sml ([], [], [], [], []) := ⟨by decide, by decide, by decide, by decide, by decide, fun c h => by cases h⟩
theorem Sml.of {m : Mdl} (h : Part m) (hq : m.2.2.2.1.length < 4611686018427387904) : Sml m := ⟨by have := h.names; omega, by have := h.schema; have := h.names; omega, by have := h.init; have := h.names; omega, hq, by have := h.cmds; omega, fun c hc => by
 have := h.cmd c hc
 exact ⟨by have := this.sz; omega, by have := this.len; omega, fun s hs => by have := (this.sets s hs).sz; omega⟩⟩
/-! the program's Same -/
/-! the document's Same -/
end Mo
end Go.Proofs.YtdhgpnejphlfpaaDoor
namespace Go.Proofs.YtdhgpnejphlfpaaDoor
namespace Mo
theorem shown_true : scrutinylaw14_shown = some true := by
 show _ = _
 kernel_rfl
end Mo
end Go.Proofs.YtdhgpnejphlfpaaDoor
namespace Go.Proofs.YtdhgpnejphlfpaaDoor
namespace Mo
open Pa Sy
open Lx (strip lexes stops Tk)
/-! tokens -/
def lexes0 (s : Str) (k : List Tk) : Prop := ∃ l, Lx.lex s = .ok l ∧ l.map strip = k ∧ headP l = 0
theorem lexes0.le {s : Str} {k : List Tk} (h : lexes0 s k) : lexes s k := by
 obtain ⟨l, h1, h2, _⟩ := h
 exact ⟨l, h1, h2⟩
/-! the whole -/
end Mo
end Go.Proofs.YtdhgpnejphlfpaaDoor
namespace Go.Proofs.YtdhgpnejphlfpaaDoor
namespace Mo
open Pa Sy
open Lx (strip)
theorem sProc_procs {m : Mdl} {ts : List Tok} {p : Mdl × List Tok} (he : Pa.Ends ts) (h : sProc m ts = .ok p) : p.1.2.2.2.1.length ≤ m.2.2.2.1.length + 1 := by
 have := (sProc_ok he h).2.2.2.2
 omega
theorem sItems_procs : ∀ (f : Nat) (m : Mdl) (ts : List Tok) (p : Mdl), Pa.Ends ts → sItems f m ts = .ok p → p.2.2.2.1.length ≤ m.2.2.2.1.length + ts.length := by
 intro f
 induction f with
 | zero => intro _ _ _ _ h; simp [sItems] at h
 | succ f ih =>
  intro m ts p he h
  obtain ⟨t, r, rfl⟩ := he.ne
  simp only [sItems] at h
  cases c4 : (t.1 == 4)
  ·rw [c4] at h
   simp only [cond_false] at h
   have her := he.tail (by simpa using c4)
   cases cv : isT 1 [118, 97, 114] t
   ·rw [cv] at h
    simp only [cond_false] at h
    cases cp : isT 1 [112, 114, 111, 99] t
    ·rw [cp] at h; cases h
    ·rw [cp] at h
     simp only [cond_true] at h
     cases h1 : sProc m r with
     | error e => rw [h1] at h; cases h
     | ok q =>
      obtain ⟨m', r'⟩ := q
      rw [h1] at h
      simp only at h
      have g := sProc_ok her h1
      have g1 := sProc_procs her h1
      have i1 := ih m' r' p g.1.1 h
      have := g.1.2
      simp only [List.length_cons] at *
      omega
   ·rw [cv] at h
    simp only [cond_true] at h
    cases h1 : sVar m r with
    | error e => rw [h1] at h; cases h
    | ok q =>
     obtain ⟨m', r'⟩ := q
     rw [h1] at h
     simp only at h
     obtain ⟨g, name, lo, hi, first, g2, _⟩ := sVar_ok her h1
     have i1 := ih m' r' p g.1 h
     have := g.2
     simp only at g2
     rw [g2] at i1
     simp only [List.length_cons] at *
     omega
  ·rw [c4] at h
   simp only [cond_true] at h
   cases hne : m.1.isEmpty
   ·rw [hne] at h; cases h; simp only [List.length_cons]; omega
   ·rw [hne] at h; cases h
end Mo
end Go.Proofs.YtdhgpnejphlfpaaDoor
namespace Go.Proofs.YtdhgpnejphlfpaaDoor
namespace Mo
open Pa Sy
open Lx (strip plN)
theorem isT_eq (k : Int) (x : Str) (t : Tok) : isT k x t = ((t.1 == k) && (t.2.1 == x)) := rfl
theorem cut_step (text : Str) (c : Int) (r3 : Bool) (l : List Tok) (q1 q2 : Int) (r12 : Mdl × Int × Int) (e40 t : Tok) (again : Int × Int × Bool × Int → Option Bool) (d i : Int) (o : Bool) (j : Nat)
  (hj : (j : Int) < Int.tmod (IntKind.i64.wrap c) (l.length : Int)) (ht : l[j]? = some t) (hd : -1000 ≤ d ∧ d ≤ 1000) (hi : 0 ≤ i ∧ i ≤ 1000) (hj2 : j ≤ 1000) :
  scrutinylaw14_ModelCuts_L1 text c r3 (l, q1, q2) r12 e40 again (d, i, o, (j : Int)) = again ((scan1 (d, i, o) t).1, (scan1 (d, i, o) t).2.1, (scan1 (d, i, o) t).2.2, ((j + 1 : Nat) : Int)) := by
 have hx : idx l (j : Int) = some t := by simp [idx, ht]
 have w1 : IntKind.i64.wrap (d + 1) = d + 1 := w64 (by omega)
 have w2 : IntKind.i64.wrap (d - 1) = d - 1 := w64 (by omega)
 have w3 : IntKind.i64.wrap (d + 1 - 1) = d + 1 - 1 := w64 (by omega)
 have w4 : IntKind.i64.wrap (i + 1) = i + 1 := w64 (by omega)
 have w5 : IntKind.i64.wrap ((j : Int) + 1) = ((j + 1 : Nat) : Int) := by rw [w64 (by omega)]; omega
 simp only [scrutinylaw14_ModelCuts_L1, scrutinylaw14_ModelCuts_K2, scrutinylaw14_ModelCuts_K3, scrutinylaw14_ModelCuts_K4, decide_eq_true hj, cond_true, hx, bind_s, letv_e, callG_v, scan1, isT_eq, w1, w5]
 cases (t.1 == 3) <;> cases (t.1 == 1) <;> simp only [cond_true, cond_false, Bool.true_and, Bool.false_and]
 ·cases (t.2.1 == [118, 97, 114]) <;> try simp only [cond_true, cond_false, Bool.not_true, Bool.not_false, Bool.true_or, Bool.false_or]
  cases (t.2.1 == [112, 114, 111, 99]) <;> rfl
 all_goals cases (t.2.1 == [123]) <;> cases (t.2.1 == [125]) <;> cases (t.2.1 == [59]) <;> simp only [cond_true, cond_false, Bool.true_and, Bool.false_and, w2, w3, w4]
 all_goals cases (t.2.1 == [118, 97, 114]) <;> try simp only [cond_true, cond_false, Bool.not_true, Bool.not_false, Bool.true_or, Bool.false_or]
 all_goals first
  | rfl
  | (cases (d == 0) <;> rfl)
  | (cases (d - 1 == 0) <;> rfl)
  | (cases (d + 1 == 0) <;> rfl)
  | (cases (d + 1 - 1 == 0) <;> rfl)
  | (cases (t.2.1 == [112, 114, 111, 99]) <;> first
    | rfl
    | (cases (d == 0) <;> rfl)
    | (cases (d - 1 == 0) <;> rfl)
    | (cases (d + 1 == 0) <;> rfl)
    | (cases (d + 1 - 1 == 0) <;> rfl))
theorem scan1_near (s : Scan) (t : Tok) {n : Int} (h1 : -n ≤ s.1 ∧ s.1 ≤ n) (h2 : 0 ≤ s.2.1 ∧ s.2.1 ≤ n) : (-(n + 1) ≤ (scan1 s t).1 ∧ (scan1 s t).1 ≤ n + 1) ∧ (0 ≤ (scan1 s t).2.1 ∧ (scan1 s t).2.1 ≤ n + 1) := by
 simp only [scan1]
 cases isT 3 [123] t <;> cases isT 3 [125] t <;> simp only [cond_true, cond_false]
 ·refine ⟨by omega, ?_⟩
  cases (isT 3 [59] t && s.1 == 0) <;> simp only [cond_true, cond_false] <;> omega
 ·refine ⟨by omega, ?_⟩
  cases (isT 3 [59] t && s.1 - 1 == 0) <;> simp only [cond_true, cond_false] <;> omega
 ·refine ⟨by omega, ?_⟩
  cases (isT 3 [59] t && s.1 + 1 == 0) <;> simp only [cond_true, cond_false] <;> omega
 ·refine ⟨by omega, ?_⟩
  cases (isT 3 [59] t && s.1 + 1 - 1 == 0) <;> simp only [cond_true, cond_false] <;> omega
theorem cut_loop (text : Str) (c : Int) (r3 : Bool) (l : List Tok) (q1 q2 : Int) (r12 : Mdl × Int × Int) (e40 : Tok) (k : Nat) (hk : Int.tmod (IntKind.i64.wrap c) (l.length : Int) = (k : Int)) (hk2 : k ≤ l.length) (hl : k ≤ 1000) :
  ∀ (r pre : List Tok) (s : Scan), l.take k = pre ++ r → (-(pre.length : Int) ≤ s.1 ∧ s.1 ≤ pre.length) → (0 ≤ s.2.1 ∧ s.2.1 ≤ pre.length) → ∀ M, r.length < M →
   fixN (scrutinylaw14_ModelCuts_L1 text c r3 (l, q1, q2) r12 e40) M (s.1, s.2.1, s.2.2, (pre.length : Int)) = scrutinylaw14_ModelCuts_L1 text c r3 (l, q1, q2) r12 e40 (fun _ => none) ((scan s r).1, (scan s r).2.1, (scan s r).2.2, (k : Int))
 | [], pre, s, h, h1, h2, M, hM => by
  obtain ⟨m, rfl⟩ : ∃ m, M = m + 1 := ⟨M - 1, by simp at hM; omega⟩
  have hp : pre.length = k := by
   have := congrArg List.length h
   simp at this
   omega
  rw [fixN_succ, hp]
  show scrutinylaw14_ModelCuts_L1 text c r3 (l, q1, q2) r12 e40 _ (s.1, s.2.1, s.2.2, (k : Int)) = scrutinylaw14_ModelCuts_L1 text c r3 (l, q1, q2) r12 e40 _ (s.1, s.2.1, s.2.2, (k : Int))
  simp only [scrutinylaw14_ModelCuts_L1, hk, decide_eq_false (show ¬ (k : Int) < (k : Int) by omega), cond_false]
 | t :: r, pre, s, h, h1, h2, M, hM => by
  obtain ⟨m, rfl⟩ : ∃ m, M = m + 1 := ⟨M - 1, by omega⟩
  have hlen := congrArg List.length h
  simp only [List.length_take, List.length_append, List.length_cons] at hlen
  have hpk : pre.length < k := by omega
  have ht : l[pre.length]? = some t := by
   have e1 : (l.take k)[pre.length]? = some t := by rw [h]; simp
   rwa [List.getElem?_take_of_lt hpk] at e1
  rw [fixN_succ]
  have hst := cut_step text c r3 l q1 q2 r12 e40 t (fixN (scrutinylaw14_ModelCuts_L1 text c r3 (l, q1, q2) r12 e40) m) s.1 s.2.1 s.2.2 pre.length (by rw [hk]; omega) ht (by omega) (by omega) (by omega)
  have hn := scan1_near s t (n := (pre.length : Int)) h1 h2
  have ih := cut_loop text c r3 l q1 q2 r12 e40 k hk hk2 hl r (pre ++ [t]) (scan1 s t) (by rw [h]; simp) (by simp only [List.length_append, List.length_singleton]; omega) (by simp only [List.length_append, List.length_singleton]; omega) m (by simp at hM; omega)
  rw [show ((pre ++ [t]).length : Int) = ((pre.length + 1 : Nat) : Int) by simp] at ih
  exact hst.trans ih
theorem sysT_few {text : Str} {p : Mdl} {l : List Tok} (hl : Lx.lex text = .ok l) (h6 : text.length ≤ 65536) (h : sysT text = .ok p) : Few p ∧ sItems (l.length + 1) E0 l = .ok p := by
 have hg := (sysT_good h).toPart
 have h2 : sItems (l.length + 1) E0 l = .ok p := by
  unfold sysT at h
  rw [if_neg (by omega), hl] at h
  exact h
 have hx := lex_good hl
 have := sItems_procs _ _ _ _ hx.ends h2
 have := hx.len
 exact ⟨⟨hg.names, by simp [E0] at *; omega, hg.cmds⟩, h2⟩
theorem lex_cut1 {text : Str} {l : List Tok} (hl : Lx.lex text = .ok l) {k : Nat} {x : Tok} (hx : l[k]? = some x) :
  Lx.lex (text.take (plN x) ++ [10]) = .ok (l.take k ++ [(4, [], 0, (((text.take (plN x)).length + 1 : Nat) : Int))]) := by
 rw [Lx.lex_join, Lx.lex_take _ _ hl _ _ hx, Lx.lex_nil]
 simp only [Lx.joinE, Lx.shE, Lx.shT, List.map_cons, List.map_nil]
 rw [List.dropLast_concat]
 simp
theorem lex_cut2 {text : Str} {l : List Tok} (hl : Lx.lex text = .ok l) {k : Nat} {x : Tok} (hx : l[k]? = some x) :
  ∃ p1 p3, Lx.lex (text.take (plN x) ++ [10, 32, 118, 97, 114, 32, 118, 97, 114]) = .ok (l.take k ++ [(1, [118, 97, 114], 0, p1), (1, [118, 97, 114], 0, (((text.take (plN x)).length + 6 : Nat) : Int)), (4, [], 0, p3)]) := by
 refine ⟨(1 : Int) + (((text.take (plN x)).length + 1 : Nat) : Int), (8 : Int) + (((text.take (plN x)).length + 1 : Nat) : Int), ?_⟩
 rw [Lx.lex_join, Lx.lex_take _ _ hl _ _ hx]
 have e : Lx.lex [32, 118, 97, 114, 32, 118, 97, 114] = .ok [(1, [118, 97, 114], 0, 1), (1, [118, 97, 114], 0, 5), (4, [], 0, 8)] := rfl
 rw [e]
 simp only [Lx.joinE, Lx.shE, Lx.shT, List.map_cons, List.map_nil]
 rw [List.dropLast_concat, show (5 : Int) + (((text.take (plN x)).length + 1 : Nat) : Int) = (((text.take (plN x)).length + 6 : Nat) : Int) by omega]
theorem drop_not4 {text : Str} {l : List Tok} (hl : Lx.lex text = .ok l) : ∀ t ∈ l.dropLast, t.1 ≠ 4 := fun t ht => by
 obtain ⟨⟨c, s, h1, _⟩, h2⟩ := Lx.lex_whole _ _ hl t ht
 rw [h1] at h2
 have := (Lx.step_self h2).2.2.1
 omega
theorem ends_sn (a : List Tok) (z : Tok) (h : z.1 = 4) : Pa.Ends (a ++ [z]) := by
 induction a with
 | nil => exact .inr ⟨rfl, h⟩
 | cons t a ih => exact .inl ih
theorem modelCuts_true (text : Str) (c : Int) (_ : text.length ≤ 9223372036854775807) (hc : 0 ≤ c ∧ c ≤ 65535) : scrutinylaw14_ModelCuts text c = some true := by
 unfold scrutinylaw14_ModelCuts
 rw [shown_true, bind_s]
 by_cases ht : 600 < text.length
 ·rw [decide_eq_true (by omega), cond_true]
 rw [decide_eq_false (by omega), cond_false, Lx.refTokens_eq, bind_s, Lx.tokens_lex (by omega), Parse_m, bind_s]
 simp only [letv_e]
 cases hl : Lx.lex text with
 | error e =>
  have he : (e.1 != 0) = true := by
   have := lexS_err _ _ _ _ hl
   simpa using this
  simp only [Lx.res, he, Bool.true_or, cond_true]
 | ok l =>
  simp only [Lx.res, bne_self_eq_false, Bool.false_or]
  cases hs : sysT text with
  | error e =>
   have he : (e.1 != 0) = true := by simpa using sysT_err hs
   simp only [outS, he, Bool.true_or, cond_true]
  | ok p =>
   simp only [outS, bne_self_eq_false, Bool.false_or]
   have h1 := Lx.lex_len hl
   by_cases h2 : l.length < 2
   ·have h2' : (l.length : Int) < 2 := by omega
    simp only [h2', decide_true, cond_true]
   have h2' : ¬ (l.length : Int) < 2 := by omega
   simp only [h2', decide_false, cond_false]
   rw [show ((l.length : Int) != 0) = true from bne_iff_ne.2 (by omega), Lx.chk_true]
   obtain ⟨m, hm⟩ : ∃ m : Nat, c = (m : Int) := ⟨c.toNat, by omega⟩
   have hk : Int.tmod (IntKind.i64.wrap c) (l.length : Int) = ((m % l.length : Nat) : Int) := by rw [hm, w64 (by omega)]; rfl
   have hkl : m % l.length < l.length := Nat.mod_lt _ (by omega)
   generalize m % l.length = k at hk hkl
   obtain ⟨x, hx⟩ : ∃ x, l[k]? = some x := ⟨l[k], List.getElem?_eq_getElem hkl⟩
   rw [hk, show idx l (k : Int) = some x by simp [idx, hx], bind_s]
   have hp := Lx.place_bound _ _ hl x (List.mem_of_getElem? hx)
   have hxN : x.2.2.2 = (plN x : Int) := by unfold plN; omega
   have hcut : cut text 0 x.2.2.2 = text.take (plN x) := by
    rw [hxN]
    show (text.drop 0).take (plN x - 0) = _
    simp
   rw [Lx.cutB_true (by omega) (by omega) (by omega), Lx.chk_true]
   have hF : l.length < FUEL := by show _ < 2 ^ 64; omega
   generalize FUEL = F at hF ⊢
   have hloop := cut_loop text c true l 0 0 (p, 0, 0) x k hk (by omega) (by omega) (l.take k) [] (0, 0, false) rfl (by simp) (by simp) F (by rw [List.length_take]; omega)
   rw [show (((0 : Int), (0 : Int), false) : Scan).1 = 0 from rfl] at hloop
   rw [show ((([] : List Tok).length : Nat) : Int) = 0 from rfl] at hloop
   rw [hloop]
   obtain ⟨hfew, hit⟩ := sysT_few hl (by omega) hs
   have hen := (lex_good hl).ends
   have hk4 : ∀ t ∈ l.take k, t.1 ≠ 4 := fun t h => drop_not4 hl t (by
    rw [List.dropLast_eq_take]
    exact (List.take_prefix_take_left (by omega)).mem h)
   have hc1 := lex_cut1 hl hx
   obtain ⟨p1, p3, hc2⟩ := lex_cut2 hl hx
   have hsl : (text.take (plN x)).length ≤ 600 := by rw [List.length_take]; omega
   have es1 : sysT (text.take (plN x) ++ [10]) = sItems ((l.take k ++ [(4, [], 0, (((text.take (plN x)).length + 1 : Nat) : Int))]).length + 1) E0 (l.take k ++ [(4, [], 0, (((text.take (plN x)).length + 1 : Nat) : Int))]) := by
    unfold sysT
    rw [if_neg (by simp; omega), hc1]; rfl
   have es2 : sysT (text.take (plN x) ++ [10, 32, 118, 97, 114, 32, 118, 97, 114]) = sItems ((l.take k ++ [(1, [118, 97, 114], 0, p1), (1, [118, 97, 114], 0, (((text.take (plN x)).length + 6 : Nat) : Int)), (4, [], 0, p3)]).length + 1) E0 (l.take k ++ [(1, [118, 97, 114], 0, p1), (1, [118, 97, 114], 0, (((text.take (plN x)).length + 6 : Nat) : Int)), (4, [], 0, p3)]) := by
    unfold sysT
    rw [if_neg (by simp; omega), hc2]; rfl
   have hkt : (l.take k).length = k := by rw [List.length_take]; omega
   simp only [scrutinylaw14_ModelCuts_L1, hk, decide_eq_false (show ¬ (k : Int) < (k : Int) by omega), cond_false, hcut, Parse_m, bind_s, letv_e]
   rw [Lx.catB_true (by simp; omega), Lx.chk_true, Lx.catB_true (by simp; omega), Lx.chk_true]
   have hw6 : IntKind.i64.wrap (((text.take (plN x)).length : Int) + 6) = (((text.take (plN x)).length + 6 : Nat) : Int) := by rw [w64 (by omega)]; omega
   have hw1 : IntKind.i64.wrap (((text.take (plN x)).length : Int) + 1) = (((text.take (plN x)).length + 1 : Nat) : Int) := by rw [w64 (by omega)]; omega
   rcases cut_l _ _ _ _ hen (show NK E0 from fun n hn => by cases hn) hfew hit k 0 hkl hk4 with ⟨mk, s1, s2, s3, s4, s5⟩ | ⟨d, i, s1, s2⟩
   ·rw [s1]
    obtain ⟨g1, M1, a1, a2, a3⟩ := s5 E0 [(4, [], 0, (((text.take (plN x)).length + 1 : Nat) : Int))] _ (RM.self E0) (show k < (l.take k ++ [(4, [], 0, (((text.take (plN x)).length + 1 : Nat) : Int))]).length + 1 by rw [List.length_append, hkt]; omega)
    obtain ⟨g2, M2, b1, b2, b3⟩ := s5 E0 [(1, [118, 97, 114], 0, p1), (1, [118, 97, 114], 0, (((text.take (plN x)).length + 6 : Nat) : Int)), (4, [], 0, p3)] _ (RM.self E0) (show k < (l.take k ++ [(1, [118, 97, 114], 0, p1), (1, [118, 97, 114], 0, (((text.take (plN x)).length + 6 : Nat) : Int)), (4, [], 0, p3)]).length + 1 by rw [List.length_append, hkt]; omega)
    rw [List.length_append, hkt] at a1 b1
    simp only [List.length_cons, List.length_nil] at a1 b1
    obtain ⟨h1', rfl⟩ : ∃ n, g1 = n + 1 := ⟨g1 - 1, by omega⟩
    obtain ⟨h2', rfl⟩ : ∃ n, g2 = n + 1 := ⟨g2 - 1, by omega⟩
    have hM1 : M1.1 = mk.1 := by rw [a3.names]; rfl
    have e2 : sItems (h2' + 1) M2 [(1, [118, 97, 114], 0, p1), (1, [118, 97, 114], 0, (((text.take (plN x)).length + 6 : Nat) : Int)), (4, [], 0, p3)] = .error (3, (((text.take (plN x)).length + 6 : Nat) : Int)) := var_no (by unfold given; rfl)
    rw [es2, b2, e2, es1, a2]
    have e1 : sItems (h1' + 1) M1 [(4, [], 0, (((text.take (plN x)).length + 1 : Nat) : Int))] = bif M1.1.isEmpty then .error (2, (((text.take (plN x)).length + 1 : Nat) : Int)) else .ok M1 := rfl
    rw [e1, hM1, hw6, hw1]
    simp only [outS, bne_self_eq_false, Bool.or_self, cond_false, show decide ((0 : Int) < 0) = false from rfl, show E0.1.length = 0 from rfl, Nat.sub_zero, Int.zero_add]
    cases hmk : mk.1 with
    | nil => simp
    | cons n r =>
     rw [hmk] at s3
     have h0 : (((n :: r).length : Int) == 0) = false := by simp; omega
     rw [h0]
     simp only [List.isEmpty_cons, cond_false, hM1, hmk, beq_self_eq_true, Bool.true_and]
     rw [decide_eq_true (by omega)]
   ·rw [s1]
    obtain ⟨x1, hx1⟩ := s2 E0 (4, [], 0, (((text.take (plN x)).length + 1 : Nat) : Int)) [] ((l.take k ++ [(4, [], 0, (((text.take (plN x)).length + 1 : Nat) : Int))]).length + 1) (RM.self E0) (.inl rfl) (ends_sn _ _ rfl)
    obtain ⟨x2, hx2⟩ := s2 E0 (1, [118, 97, 114], 0, p1) [(1, [118, 97, 114], 0, (((text.take (plN x)).length + 6 : Nat) : Int)), (4, [], 0, p3)] ((l.take k ++ [(1, [118, 97, 114], 0, p1), (1, [118, 97, 114], 0, (((text.take (plN x)).length + 6 : Nat) : Int)), (4, [], 0, p3)]).length + 1) (RM.self E0) (.inr rfl) (by
     have := ends_sn (l.take k ++ [(1, [118, 97, 114], 0, p1), (1, [118, 97, 114], 0, (((text.take (plN x)).length + 6 : Nat) : Int))]) (4, [], 0, p3) rfl
     simpa using this)
    have hy1 : (x1.1 != 0) = true := by simpa using sysT_err (es1.trans hx1)
    have hy2 : (x2.1 != 0) = true := by simpa using sysT_err (es2.trans hx2)
    rw [es1, hx1, es2, hx2]
    simp only [outS, Bool.true_or, cond_true, hy1, hy2]
    rfl
end Mo
end Go.Proofs.YtdhgpnejphlfpaaDoor
namespace Go.Proofs.YtdhgpnejphlfpaaDoor
open Go.Lib Go.ChangeAt Go.ChangeShapes Go.WideShapes Go.RowKit
theorem laid_at {P : Program} {w : World} : ∀ (l : List (String × DataW Unit)) (ps : List MemPlace), DataW.LaidVars P w l ps → ∀ (i : Nat) (n : String) (d : DataW Unit), l[i]? = some (n, d) →
  ∃ g t cs fuel p, P.globalNamed n = some g ∧ (P.globals[g]?).map (·.type) = some t ∧ w.var? P n = some cs ∧ DataW.trod (fun _ => ()) P w 0 (fun _ => true) false fuel t cs.toList = some (d, p)
 | [], _, _, i, n, d, h => by simp at h
 | (n0, d0) :: l, ps, h, i, n, d, hi => by
  obtain ⟨g, t, cs, fuel, p, q, h1, h2, h3, h4, h5, _⟩ := h
  cases i with
  | zero =>
   simp only [List.getElem?_cons_zero, Option.some.injEq, Prod.mk.injEq] at hi
   obtain ⟨rfl, rfl⟩ := hi
   exact ⟨g, t, cs, fuel, p, h1, h2, h3, h4⟩
  | succ i => exact laid_at l q h5 i n d (by simpa using hi)
theorem cells_of_strs {H : Type} {enc : TypeId × Value → H} {P : Program} {w : World} {base : Nat} {sp : Nat → Bool} {held : Bool} {fuel : Nat} {t e : TypeId} {n : Nat} {cs : List Value} {zs : List Str} {p : List MemPlace}
  (ht : P.underlying t = some (.array n e)) (he : P.underlying e = some .string) (hce : P.cellsOf e = 1) (hct : P.cellsOf t = n)
  (h : DataW.trod enc P w base sp held fuel t cs = some (.agg (zs.map fun z => .lit (.string z)), p)) : cs = zs.map S := by
 cases fuel with
 | zero => simp [DataW.trod] at h
 | succ fuel =>
  simp only [DataW.trod, ht, hce, hct, Nat.mul_one] at h
  split at h
  ·rename_i hl
   obtain ⟨xs, hm, hx⟩ := Option.map_eq_some_iff.1 h
   have hxs : xs.map (·.1) = zs.map fun z => (DataW.lit (.string z) : DataW H) := by
    have := congrArg Prod.fst hx
    simpa using this
   have hxl : xs.length = n := by simpa using mapM_length hm
   have hzl : zs.length = n := by
    have := congrArg List.length hxs
    simp at this
    omega
   apply List.ext_getElem?
   intro i
   by_cases hi : i < n
   ·obtain ⟨b, hb, hf⟩ := mapM_at hm i i (by simp [hi])
    obtain ⟨z, hc, rfl, _⟩ := DataW.trod_string he hf
    have h1 : cs[i]? = some (.string z) := by
     have := congrArg (·[0]?) hc
     simpa [List.getElem?_take, List.getElem?_drop] using this
    have h2 : (xs.map (·.1))[i]? = some (DataW.lit (.string z.data.toList) : DataW H) := by simp [hb]
    rw [hxs] at h2
    simp only [List.getElem?_map, Option.map_eq_some_iff, DataW.lit.injEq, Lit.string.injEq] at h2
    obtain ⟨z', hz', hz2⟩ := h2
    subst hz2
    simp [h1, hz', S]
   ·rw [List.getElem?_eq_none (by omega), List.getElem?_eq_none (by simp; omega)]
  ·cases h
theorem laidMet_of {P : Program} {laid : List (String × DataW Unit)} {w : World} (hf : (laid.filter fun x => x.2.handleName?.isSome) = []) (h : laidMetH P laid w) : laidMet P laid w := by
 unfold laidMetH at h
 rw [hf] at h
 exact h
theorem gl_strs {P : Program} {laid : List (String × DataW Unit)} {w : World} {Γ : Ctx} (h : laidMet P laid w) (i : Nat) {n : String} {zs : List Str} {g : Nat} {t e : TypeId} {k : Nat}
  (hi : laid[i]? = some (n, .agg (zs.map fun z => .lit (.string z)))) (hg : P.globalNamed n = some g) (hty : (P.globals[g]?).map (·.type) = some t)
  (ht : P.underlying t = some (.array k e)) (he : P.underlying e = some .string) (hce : P.cellsOf e = 1) (hct : P.cellsOf t = k) (hM : ¬ Γ.M g) : (gl g (zs.map S)).P Γ.M w := by
 obtain ⟨ps, hl, _⟩ := h
 obtain ⟨g', t', cs, fuel, p, hg', ht', hv, hd⟩ := laid_at _ _ hl i n _ hi
 obtain rfl := Option.some.inj (hg.symm.trans hg')
 obtain rfl := Option.some.inj (hty.symm.trans ht')
 have e1 := cells_of_strs ht he hce hct hd
 refine ⟨hM, ?_⟩
 unfold World.var? at hv
 rw [hg] at hv
 simp only [Option.bind_some] at hv
 split at hv
 ·rename_i c ty fr hb
  obtain rfl := Option.some.inj hv
  exact ⟨ty, fr, by rw [hb, ← e1]⟩
 ·cases hv
theorem gl_ints {P : Program} {laid : List (String × DataW Unit)} {w : World} {Γ : Ctx} (h : laidMet P laid w) (i : Nat) {n : String} {kd : IntKind} {zs : List Int} {g : Nat} {t e : TypeId} {k : Nat}
  (hi : laid[i]? = some (n, tabData kd zs)) (hg : P.globalNamed n = some g) (hty : (P.globals[g]?).map (·.type) = some t)
  (ht : P.underlying t = some (.array k e)) (he : P.underlying e = some (.int kd)) (hce : P.cellsOf e = 1) (hct : P.cellsOf t = k) (hM : ¬ Γ.M g) : (gl g (zs.map (Value.int kd))).P Γ.M w := by
 obtain ⟨ps, hl, _⟩ := h
 obtain ⟨g', t', cs, fuel, p, hg', ht', hv, hd⟩ := laid_at _ _ hl i n _ hi
 obtain rfl := Option.some.inj (hg.symm.trans hg')
 obtain rfl := Option.some.inj (hty.symm.trans ht')
 have e1 := cells_of_tab ht he hce hct hd
 refine ⟨hM, ?_⟩
 unfold World.var? at hv
 rw [hg] at hv
 simp only [Option.bind_some] at hv
 split at hv
 ·rename_i c ty fr hb
  obtain rfl := Option.some.inj hv
  exact ⟨ty, fr, by rw [hb, ← e1]⟩
 ·cases hv
/-! the row at the start: nothing is owned -/
def NoM (Γ : Ctx) : Prop := ∀ b, ¬ Γ.M b
theorem noM_nil : NoM [] := fun b h => by obtain ⟨it, h, _⟩ := h; cases h
theorem noM_cons {it : Item} {Γ : Ctx} (hp : it.own = []) (h : NoM Γ) : NoM (it :: Γ) := fun b hb => by
 rcases Ctx.M_cons.1 hb with h1 | h1
 ·rw [hp] at h1; cases h1
 ·exact h b h1
theorem sat_start (w : World) : Sat [kept w (fun _ => False)] w := Sat.nil.add rfl ⟨SameEnv.refl w, Nat.le_refl _, fun b _ _ => ⟨noM_nil b, rfl⟩⟩
theorem noM_start (w : World) : NoM [kept w (fun _ => False)] := noM_cons rfl noM_nil
theorem below_end {w w' : World} {Γ : Ctx} {i : Nat} (h : Sat Γ w') (hi : Γ[i]? = some (kept w (fun _ => False))) : Below w.heap.size w w' := by
 obtain ⟨h1, h2, h3⟩ := h.kept hi
 exact ⟨h1.os, h1.tape, h1.output, h2, fun k hk => (h3 k hk (fun h => h)).2⟩
end Go.Proofs.YtdhgpnejphlfpaaDoor
