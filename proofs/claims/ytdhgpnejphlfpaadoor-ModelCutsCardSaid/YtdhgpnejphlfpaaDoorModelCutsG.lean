/-
  Own texts for the statement ModelCuts, cut down to what it needs: MoPart, MoPart2, MoAtom, MoC, MoD, MoE, MoItem, MoCutsL, MoItems, MoGap, MoCut, TrSame, MoSame, MoShown, MoRange, MoBlanksP, MoCutsP, KFr. (cut and joined by a program)
-/
import Derived.Test.YtdhgpnejphlfpaaDoorModelCutsA
import Derived.Test.YtdhgpnejphlfpaaDoorModelCutsB
import Derived.Test.YtdhgpnejphlfpaaDoorModelCutsC
import Derived.Test.YtdhgpnejphlfpaaDoorModelCutsD
import Derived.Test.YtdhgpnejphlfpaaDoorModelCutsE
import Derived.Test.YtdhgpnejphlfpaaDoorModelCutsF
import Derived.Lib.LaidTab
import Derived.Below
import Derived.WalkKit
import Derived.ProofKit
namespace Go.Proofs.YtdhgpnejphlfpaaDoor
namespace Mo
open Pa Sy
open Lx (strip)
def bad2 (t : Tok) : Bool := t.1 == 4 || (t.1 == 3 && [[123], [125]].contains t.2.1) || (t.1 == 1 && [[118, 97, 114], [112, 114, 111, 99]].contains t.2.1)
theorem bad_bad2 {t : Tok} (h : bad t = false) : bad2 t = false := by
 unfold bad at h
 unfold bad2
 simp only [Bool.or_eq_false_iff] at h ⊢
 refine ⟨⟨h.1.1, ?_⟩, h.2⟩
 cases hc : (t.1 == 3)
 ·rfl
 ·have := h.1.2
  rw [hc, Bool.true_and] at this
  rw [Bool.true_and]
  simp only [List.contains_cons, Bool.or_eq_false_iff] at this ⊢
  exact ⟨this.1, this.2.1, rfl⟩
theorem isT_bad2 {t : Tok} {c : UInt8} (h : isT 3 [c] t = true) (h1 : c ≠ 123) (h2 : c ≠ 125) : bad2 t = false := by
 unfold isT at h
 simp only [Bool.and_eq_true, beq_iff_eq] at h
 unfold bad2
 rw [h.1, h.2]
 have e1 : ([c] == ([123] : Str)) = false := by simpa using h1
 have e2 : ([c] == ([125] : Str)) = false := by simpa using h2
 simp only [List.contains_cons, e1, e2]
 rfl
theorem sSign_l {x : Str} {ts r : List Tok} (h : sSign x ts = .ok r) : ∃ t, ts = t :: r ∧ isT 3 x t = true := by
 cases ts with
 | nil => cases h
 | cons t r' =>
  simp only [sSign] at h
  cases hc : isT 3 x t
  ·rw [hc] at h; cases h
  ·rw [hc] at h; cases h; exact ⟨t, rfl, hc⟩
theorem sSign_n {x : Str} {t t' : Tok} {r : List Tok} (h : isT 3 x t = true) (ht : strip t' = strip t) : sSign x (t' :: r) = .ok r := by
 simp only [sSign, tl_isT ht, h]
 rfl
theorem sName_l {full : Bool} {names procs : List Str} {ts r : List Tok} {x : Str} (h : sName full names procs ts = .ok (x, r)) :
  ∃ t, ts = t :: r ∧ t.1 = 1 ∧ t.2.1 = x ∧ key x = false ∧ names.contains x = false ∧ procs.contains x = false ∧ full = false := by
 cases ts with
 | nil => cases h
 | cons t r' =>
  simp only [sName] at h
  cases h1 : (t.1 != 1)
  ·rw [h1] at h
   simp only [cond_false] at h
   cases h2 : (key t.2.1 || names.contains t.2.1 || procs.contains t.2.1)
   ·rw [h2] at h
    cases full
    ·cases h
     simp only [Bool.or_eq_false_iff] at h2
     exact ⟨t, rfl, by simpa using h1, rfl, h2.1.1, h2.1.2, h2.2, rfl⟩
    ·cases h
   ·rw [h2] at h; cases h
  ·rw [h1] at h; cases h
theorem sName_n {names procs : List Str} {t t' : Tok} {r : List Tok} {x : Str} (h1 : t.1 = 1) (h2 : t.2.1 = x) (ht : strip t' = strip t) (hk : key x = false) (hn : names.contains x = false) (hp : procs.contains x = false) :
  sName false names procs (t' :: r) = .ok (x, r) := by
 have e1 := st1 ht
 have e2 := st2 ht
 simp only [sName, e1, e2, h1, h2, hk, hn, hp]
 rfl
theorem bad_word {t : Tok} {x : Str} (h1 : t.1 = 1) (h2 : t.2.1 = x) (hk : key x = false) : bad t = false := bad_name (by
 unfold name_
 rw [h1, h2, hk]; rfl)
theorem sNum1_l {neg : Bool} {ts r : List Tok} {n : Int} (h : sNum1 neg ts = .ok (n, r)) : ∃ t, ts = t :: r ∧ t.1 = 2 ∧ ∀ t' r', strip t' = strip t → sNum1 neg (t' :: r') = .ok (n, r') := by
 cases ts with
 | nil => cases h
 | cons t r' =>
  simp only [sNum1] at h
  cases h1 : (t.1 != 2)
  ·rw [h1] at h
   cases h
   refine ⟨t, rfl, by simpa using h1, fun t' r' ht => ?_⟩
   simp only [sNum1, st1 ht, st3 ht, h1]
   rfl
  ·rw [h1] at h; cases h
theorem isT_neg {t : Tok} (h : isT 3 [45] t = true) : bad t = false := by
 unfold isT at h
 simp only [Bool.and_eq_true, beq_iff_eq] at h
 unfold bad; rw [h.1, h.2]; rfl
theorem sNum_l {ts r : List Tok} {n : Int} (h : sNum ts = .ok (n, r)) : ∃ a, ts = a ++ r ∧ (∀ t ∈ a, bad t = false) ∧ ∀ a' r', tl a a' → sNum (a' ++ r') = .ok (n, r') := by
 unfold sNum at h
 cases hc : isH 3 [45] ts
 ·rw [hc] at h
  obtain ⟨t, rfl, h2, hl⟩ := sNum1_l h
  refine ⟨[t], rfl, fun u hu => by rw [List.mem_singleton.1 hu]; exact bad_num (by rw [h2]; rfl), fun a' r' ha => ?_⟩
  obtain ⟨u, us, rfl, hu, hus⟩ := map_cons ha
  have : us = [] := by simpa using hus
  subst this
  unfold sNum
  have e : isH 3 [45] (u :: r') = false := by
   show isT 3 [45] u = false
   rw [tl_isT hu]; exact hc
  rw [List.singleton_append, e]
  exact hl u r' hu
 ·rw [hc] at h
  cases ts with
  | nil => cases hc
  | cons m ts =>
   obtain ⟨t, e, h2, hl⟩ := sNum1_l h
   simp only [List.tail_cons] at e
   subst e
   refine ⟨[m, t], rfl, fun u hu => ?_, fun a' r' ha => ?_⟩
   ·rcases List.mem_cons.1 hu with rfl | hu
    ·exact isT_neg hc
    ·rw [List.mem_singleton.1 hu]; exact bad_num (by rw [h2]; rfl)
   ·obtain ⟨u, us, rfl, hu, hus⟩ := map_cons ha
    obtain ⟨v, vs, rfl, hv, hvs⟩ := map_cons hus
    have : vs = [] := by simpa using hvs
    subst this
    unfold sNum
    have e : isH 3 [45] (u :: v :: r') = true := by
     show isT 3 [45] u = true
     rw [tl_isT hu]; exact hc
    show (bif isH 3 [45] (u :: v :: r') then sNum1 true (v :: r') else _) = _
    rw [e]
    exact hl v r' hv
theorem sExpr_l {want : Int} {names : List Str} {ts r : List Tok} {x : Ex} (he : Pa.Ends ts) (h : sExpr want names ts = .ok (x, r)) : ∃ a, ts = a ++ r ∧ a ≠ [] ∧ (∀ t ∈ a, bad t = false) ∧
  ∀ (k : Nat) names' a' r', Pa.ahead k names names' → tl a a' → headlike r r' → ∃ x', sExpr want names' (a' ++ r') = .ok (x', r') ∧ mp 0 x' = mp k x := by
 obtain ⟨_, hP, h0, hw⟩ := sExpr_ok he h
 obtain ⟨a, e, hne, hb, hl⟩ := hP.loc _ rfl
 refine ⟨a, e, hne, hb, fun k names' a' r' hn ha hr => ?_⟩
 obtain ⟨x', p1, p2⟩ := hl k names' (.line 1) a' r' hn rfl ha hr
 obtain ⟨q1, q2⟩ := rt_of p2
 refine ⟨x', ?_, p2⟩
 unfold sExpr
 rw [readE_eq p1]
 simp only [q1, q2]
 simp only at h0 hw
 rw [h0, hw]
 simp
/-! a system behind another one -/
def shS (k : Nat) (s : Int × Ex) : Int × Ex := (s.1 + k, mp k s.2)
def shC (k q : Nat) (c : Cmd) : Cmd := (c.1 + q, mp k c.2.1, c.2.2.map (shS k))
structure RM (m0 m M : Mdl) : Prop where
 names : M.1 = m0.1 ++ m.1
 schema : M.2.1 = m0.2.1 ++ m.2.1
 init : M.2.2.1 = m0.2.2.1 ++ m.2.2.1
 procs : M.2.2.2.1 = m0.2.2.2.1 ++ m.2.2.2.1
 cmds : M.2.2.2.2.map clrC = m0.2.2.2.2.map clrC ++ m.2.2.2.2.map (shC m0.1.length m0.2.2.2.1.length)
def Free (m0 : Mdl) (names procs : List Str) : Prop := ∀ x, x ∈ names ∨ x ∈ procs → x ∉ m0.1 ∧ x ∉ m0.2.2.2.1
theorem at_app {pre names : List Str} {v : Str} {i : Nat} (h : at_ names v = some i) (hv : v ∉ pre) : at_ (pre ++ names) v = some (i + pre.length) := by
 unfold at_ at *
 rw [List.findIdx?_append]
 have : pre.findIdx? (fun x => v == x) = none := by
  rw [List.findIdx?_eq_none_iff]
  intro x hx
  rw [beq_eq_false_iff_ne]
  rintro rfl
  exact hv hx
 rw [this, h]
 rfl
theorem at_mem {names : List Str} {v : Str} {i : Nat} (h : at_ names v = some i) : v ∈ names := by
 unfold at_ at h
 obtain ⟨h1, h2, _⟩ := List.findIdx?_eq_some_iff_getElem.1 h
 rw [beq_iff_eq.1 h2]
 exact List.getElem_mem h1
theorem ahead_of {m0 : Mdl} {names procs : List Str} (hf : Free m0 names procs) : Pa.ahead m0.1.length names (m0.1 ++ names) := fun v _i h => at_app h (hf v (.inl (at_mem h))).1
theorem idxI_app {m0 : Mdl} {names procs : List Str} (hf : Free m0 names procs) {v : Str} (h : 0 ≤ idxI names v) : idxI (m0.1 ++ names) v = idxI names v + m0.1.length := by
 unfold idxI at *
 cases ha : at_ names v with
 | none => rw [ha] at h; simp at h
 | some i => rw [at_app ha (hf v (.inl (at_mem ha))).1]; simp
theorem sOne_l {names : List Str} {acc : List (Int × Ex)} {ts r : List Tok} {s : Int × Ex} (he : Pa.Ends ts) (hk : ∀ n ∈ names, key n = false) (h : sOne names acc ts = .ok (s, r)) :
  ∃ a, ts = a ++ r ∧ a ≠ [] ∧ (∀ t ∈ a, bad2 t = false) ∧ Pa.Ends r ∧ ∀ (m0 : Mdl) procs acc' a' r', Free m0 names procs → acc'.map clrS = acc.map (shS m0.1.length) → tl a a' → headlike r r' →
   ∃ s', sOne (m0.1 ++ names) acc' (a' ++ r') = .ok (s', r') ∧ clrS s' = shS m0.1.length s := by
 have hsh := sOne_ok he h
 cases ts with
 | nil => cases h
 | cons t r0 =>
  simp only [sOne] at h
  cases h1 : (t.1 != 1)
  case true => rw [h1] at h; cases h
  rw [h1] at h
  simp only [cond_false] at h
  cases h2 : (decide (idxI names t.2.1 < 0) || twice acc (idxI names t.2.1))
  case true => rw [h2] at h; cases h
  rw [h2] at h
  simp only [cond_false] at h
  have ht : t.1 = 1 := by simpa using h1
  have her := he.tail (by omega)
  simp only [Bool.or_eq_false_iff, decide_eq_false_iff_not] at h2
  cases h3 : sSign [61] r0 with
  | error e => rw [h3] at h; cases h
  | ok r1 =>
   rw [h3] at h
   simp only at h
   have s1 := sSign_ok her h3
   obtain ⟨q, rfl, hq⟩ := sSign_l h3
   cases h4 : sExpr 1 names r1 with
   | error e => rw [h4] at h; cases h
   | ok p =>
    obtain ⟨x, r2⟩ := p
    rw [h4] at h
    cases h
    obtain ⟨a, rfl, _, hb, hl⟩ := sExpr_l s1.1 h4
    have hnk : key t.2.1 = false := by
     refine hk _ ?_
     have := h2.1
     unfold idxI at this
     cases ha : at_ names t.2.1 with
     | none => rw [ha] at this; simp at this
     | some i => exact at_mem ha
    refine ⟨t :: q :: a, rfl, by simp, fun u hu => ?_, hsh.1, fun m0 procs acc' a' r' hf hacc ha hr => ?_⟩
    ·rcases List.mem_cons.1 hu with rfl | hu
     ·exact bad_bad2 (bad_word ht rfl hnk)
     ·rcases List.mem_cons.1 hu with rfl | hu
      ·exact isT_bad2 hq (by decide) (by decide)
      ·exact bad_bad2 (hb u hu)
    ·obtain ⟨t', us, rfl, ht', hus⟩ := map_cons ha
     obtain ⟨q', us2, rfl, hq', hus2⟩ := map_cons hus
     obtain ⟨x', p1, p2⟩ := hl m0.1.length (m0.1 ++ names) us2 r' (ahead_of hf) hus2 hr
     have hi := idxI_app hf (v := t.2.1) (by omega)
     refine ⟨(idxI names t.2.1 + m0.1.length, x'), ?_, by unfold clrS shS; rw [p2]⟩
     simp only [List.cons_append, sOne, st1 ht', st2 ht', h1, hi]
     have hd : decide (idxI names t.2.1 + (m0.1.length : Int) < 0) = false := decide_eq_false (by omega)
     have htw : twice acc' (idxI names t.2.1 + m0.1.length) = twice acc (idxI names t.2.1) := by
      unfold twice
      have e1 : ∀ (l : List (Int × Ex)) (i : Int), l.any (fun s => s.1 == i) = (l.map clrS).any (fun s => s.1 == i) := fun l i => by
       rw [List.any_map]; rfl
      rw [e1 acc', hacc, List.any_map]
      congr 1
      funext z
      show (z.1 + (m0.1.length : Int) == idxI names t.2.1 + (m0.1.length : Int)) = (z.1 == idxI names t.2.1)
      rw [Bool.eq_iff_iff, beq_iff_eq, beq_iff_eq]; omega
     rw [hd, htw, h2.2]
     simp only [Bool.or_self, cond_false]
     rw [sSign_n hq hq']
     simp only
     rw [p1]
theorem sSets_l {names : List Str} (hk : ∀ n ∈ names, key n = false) : ∀ (f : Nat) (acc : List (Int × Ex)) (ts r : List Tok) (s : List (Int × Ex)), Pa.Ends ts → sSets names f acc ts = .ok (s, r) →
  ∃ a, ts = a ++ r ∧ a ≠ [] ∧ (∀ t ∈ a, bad2 t = false) ∧ Pa.Ends r ∧ ∀ (m0 : Mdl) procs acc' a' r' f', Free m0 names procs → acc'.map clrS = acc.map (shS m0.1.length) → tl a a' → headlike r r' → a'.length ≤ f' →
   ∃ s', sSets (m0.1 ++ names) f' acc' (a' ++ r') = .ok (s', r') ∧ s'.map clrS = s.map (shS m0.1.length) := by
 intro f
 induction f with
 | zero => intro _ _ _ _ _ h; simp [sSets] at h
 | succ f ih =>
  intro acc ts r s he h
  rw [sSets_one] at h
  cases h1 : sOne names acc ts with
  | error e => rw [h1] at h; cases h
  | ok p =>
   obtain ⟨s1, r1⟩ := p
   rw [h1] at h
   simp only at h
   obtain ⟨a1, rfl, hne1, hb1, he1, hl1⟩ := sOne_l he hk h1
   cases h2 : isH 3 [44] r1
   ·rw [h2] at h
    simp only [cond_false] at h
    cases h
    refine ⟨a1, rfl, hne1, hb1, he1, fun m0 procs acc' a' r' f' hf hacc ha hr hf' => ?_⟩
    obtain ⟨s', p1, p2⟩ := hl1 m0 procs acc' a' r' hf hacc ha hr
    obtain ⟨g, rfl⟩ : ∃ g, f' = g + 1 := by
     obtain ⟨u, us, rfl, _⟩ : ∃ u us, a' = u :: us ∧ True := by
      cases a1 with
      | nil => exact absurd rfl hne1
      | cons t a1 => obtain ⟨u, us, rfl, _⟩ := map_cons ha; exact ⟨u, us, rfl, trivial⟩
     exact ⟨f' - 1, by simp only [List.length_cons] at hf'; omega⟩
    rw [sSets_one, p1]
    simp only
    have hh : isH 3 [44] r' = false := by
     obtain ⟨t0, r0, rfl⟩ := he1.ne
     obtain ⟨u, us, rfl, hu⟩ := hr t0 r0 rfl
     show isT 3 [44] u = false
     rw [tl_isT hu]; exact h2
    rw [hh]
    exact ⟨_, rfl, by simp [hacc, p2]⟩
   ·rw [h2] at h
    simp only [cond_true] at h
    obtain ⟨c, r2, rfl⟩ := he1.ne
    have hc : isT 3 [44] c = true := h2
    have he2 : Pa.Ends r2 := he1.tail (isT_ne hc (by decide))
    simp only [List.tail_cons] at h
    obtain ⟨a2, rfl, hne2, hb2, he3, hl2⟩ := ih _ _ _ _ he2 h
    refine ⟨a1 ++ c :: a2, by simp, by simp, fun u hu => ?_, he3, fun m0 procs acc' a' r' f' hf hacc ha hr hf' => ?_⟩
    ·rcases List.mem_append.1 hu with hu | hu
     ·exact hb1 u hu
     ·rcases List.mem_cons.1 hu with rfl | hu
      ·exact isT_bad2 hc (by decide) (by decide)
      ·exact hb2 u hu
    ·obtain ⟨b1, b2, rfl, hb1', hb2'⟩ := map_app ha
     obtain ⟨c', b3, rfl, hc', hb3⟩ := map_cons hb2'
     obtain ⟨s1', p1, p2⟩ := hl1 m0 procs acc' b1 (c' :: (b3 ++ r')) hf hacc hb1' (headlike_cons hc')
     simp only [List.length_append, List.length_cons] at hf'
     obtain ⟨g, rfl⟩ : ∃ g, f' = g + 1 := ⟨f' - 1, by omega⟩
     obtain ⟨s2', q1, q2⟩ := hl2 m0 procs (acc' ++ [s1']) b3 r' g hf (by simp [hacc, p2]) hb3 hr (by omega)
     refine ⟨s2', ?_, q2⟩
     rw [List.append_assoc, List.cons_append, sSets_one, p1]
     simp only
     rw [show isH 3 [44] (c' :: (b3 ++ r')) = true from (tl_isT hc' 3 [44]).trans hc]
     exact q1
end Mo
end Go.Proofs.YtdhgpnejphlfpaaDoor
namespace Go.Proofs.YtdhgpnejphlfpaaDoor
namespace Mo
open Pa Sy
open Lx (strip)
def NK (m : Mdl) : Prop := ∀ n ∈ m.1, key n = false
structure Fit (m0 m : Mdl) : Prop where
 free : Free m0 m.1 m.2.2.2.1
 names : m0.1.length + m.1.length ≤ 16
 procs : m0.2.2.2.1.length + m.2.2.2.1.length < 1099511627776
 cmds : m0.2.2.2.2.length + m.2.2.2.2.length ≤ 256
theorem RM.len {m0 m M : Mdl} (h : RM m0 m M) : M.2.2.2.2.length = m0.2.2.2.2.length + m.2.2.2.2.length := by
 have := congrArg List.length h.cmds
 simpa using this
theorem sCmd_l {m m1 : Mdl} {ts r : List Tok} (he : Pa.Ends ts) (hk : NK m) (h : sCmd m ts = .ok (m1, r)) :
  ∃ a c, ts = a ++ r ∧ 4 ≤ a.length ∧ (∀ t ∈ a, bad2 t = false) ∧ Pa.Ends r ∧ m1 = (m.1, m.2.1, m.2.2.1, m.2.2.2.1, m.2.2.2.2 ++ [c]) ∧
   ∀ (m0 M : Mdl) a' r', RM m0 m M → Fit m0 m1 → tl a a' → ∃ M1, sCmd M (a' ++ r') = .ok (M1, r') ∧ RM m0 m1 M1 := by
 obtain ⟨sh, g, r1, r2, sets, r3, h256, h1, he2, h3, hp, q2, q4⟩ := sCmd_ok he h
 simp only at hp
 have e1 : Pa.Ends r1 := (sExpr_ok he h1).1.1
 obtain ⟨a1, rfl, hne1, hb1, hl1⟩ := sExpr_l he h1
 obtain ⟨c1, rfl, hc1⟩ := sSign_l q2
 obtain ⟨a2, rfl, hne2, hb2, e3, hl2⟩ := sSets_l hk _ _ _ _ _ he2 h3
 obtain ⟨c2, rfl, hc2⟩ := sSign_l q4
 have l1 : 1 ≤ a1.length := List.length_pos_iff.2 hne1
 have l2 : 1 ≤ a2.length := List.length_pos_iff.2 hne2
 refine ⟨a1 ++ c1 :: (a2 ++ [c2]), (IntKind.i64.wrap ((m.2.2.2.1.length : Int) - 1), g, sets), by simp, by simp only [List.length_append, List.length_cons, List.length_nil]; omega, fun u hu => ?_, sh.1, hp, fun m0 M a' r' hM hF ha => ?_⟩
 ·rcases List.mem_append.1 hu with hu | hu
  ·exact bad_bad2 (hb1 u hu)
  ·rcases List.mem_cons.1 hu with rfl | hu
   ·exact isT_bad2 hc1 (by decide) (by decide)
   ·rcases List.mem_append.1 hu with hu | hu
    ·exact hb2 u hu
    ·rw [List.mem_singleton.1 hu]; exact isT_bad2 hc2 (by decide) (by decide)
 ·subst hp
  obtain ⟨b1, b2, rfl, ha1, hb2'⟩ := map_app ha
  obtain ⟨c1', b3, rfl, hc1', hb3⟩ := map_cons hb2'
  obtain ⟨b4, b5, rfl, ha4, hb5⟩ := map_app hb3
  obtain ⟨c2', b6, rfl, hc2', hb6⟩ := map_cons hb5
  have : b6 = [] := by simpa using hb6
  subst this
  have hfree := hF.free
  have hcm := hF.cmds
  have hpr := hF.procs
  simp only [List.length_append, List.length_singleton] at hfree hcm hpr
  obtain ⟨x', p1, p2⟩ := hl1 m0.1.length (m0.1 ++ m.1) b1 (c1' :: (b4 ++ [c2'] ++ r')) (ahead_of hfree) ha1 (headlike_cons hc1')
  obtain ⟨s', p3, p4⟩ := hl2 m0 m.2.2.2.1 [] b4 (c2' :: r') ((b4 ++ c2' :: r').length + 1) hfree rfl ha4 (headlike_cons hc2') (by simp; omega)
  have hml := hM.len
  refine ⟨(M.1, M.2.1, M.2.2.1, M.2.2.2.1, M.2.2.2.2 ++ [(IntKind.i64.wrap ((M.2.2.2.1.length : Int) - 1), x', s')]), ?_, ⟨hM.names, hM.schema, hM.init, hM.procs, ?_⟩⟩
  ·unfold sCmd
   rw [decide_eq_false (show ¬ (256 : Int) ≤ (M.2.2.2.2.length : Int) by omega), cond_false, hM.names]
   rw [show b1 ++ c1' :: (b4 ++ [c2']) ++ r' = b1 ++ c1' :: (b4 ++ [c2'] ++ r') by simp, p1]
   simp only
   rw [sSign_n hc1 hc1']
   simp only
   rw [show b4 ++ [c2'] ++ r' = b4 ++ c2' :: r' by simp, p3]
   simp only
   rw [sSign_n hc2 hc2']
  ·simp only [List.map_append, List.map_cons, List.map_nil, hM.cmds, List.append_assoc]
   congr 2
   unfold clrC shC
   simp only [p2, p4, hM.procs, List.length_append]
   rw [w64 (by omega), w64 (by omega)]
   congr 2
   omega
theorem sCmds_l : ∀ (f : Nat) {m m1 : Mdl} {ts r : List Tok}, Pa.Ends ts → NK m → sCmds f m ts = .ok (m1, r) →
  ∃ a c C, ts = a ++ c :: r ∧ (∀ t ∈ a, bad2 t = false) ∧ isT 3 [125] c = true ∧ Pa.Ends r ∧ m1 = (m.1, m.2.1, m.2.2.1, m.2.2.2.1, m.2.2.2.2 ++ C) ∧ 4 * C.length ≤ a.length ∧
   ∀ (m0 M : Mdl) a' c' r' f', RM m0 m M → Fit m0 m1 → tl a a' → strip c' = strip c → a'.length < f' → ∃ M1, sCmds f' M (a' ++ c' :: r') = .ok (M1, r') ∧ RM m0 m1 M1 := by
 intro f
 induction f with
 | zero => intro _ _ _ _ _ _ h; simp [sCmds] at h
 | succ f ih =>
  intro m m1 ts r he hk h
  simp only [sCmds] at h
  cases h0 : isH 3 [125] ts
  ·rw [h0] at h
   simp only [cond_false] at h
   cases h1 : sCmd m ts with
   | error e => rw [h1] at h; cases h
   | ok p =>
    obtain ⟨m2, r2⟩ := p
    rw [h1] at h
    simp only at h
    obtain ⟨a1, k, rfl, l4, hb1, he2, rfl, hl1⟩ := sCmd_l he hk h1
    obtain ⟨a2, c, C, rfl, hb2, hc, he3, hm1, hC, hl2⟩ := ih he2 (show NK (m.1, m.2.1, m.2.2.1, m.2.2.2.1, m.2.2.2.2 ++ [k]) from hk) h
    refine ⟨a1 ++ a2, c, k :: C, by simp, fun u hu => ?_, hc, he3, by rw [hm1]; simp, by simp only [List.length_cons, List.length_append]; omega, fun m0 M a' c' r' f' hM hF ha hc' hf' => ?_⟩
    ·rcases List.mem_append.1 hu with hu | hu
     ·exact hb1 u hu
     ·exact hb2 u hu
    ·subst hm1
     obtain ⟨b1, b2, rfl, ha1, ha2⟩ := map_app ha
     have hF1 : Fit m0 (m.1, m.2.1, m.2.2.1, m.2.2.2.1, m.2.2.2.2 ++ [k]) := ⟨hF.free, hF.names, hF.procs, by have := hF.cmds; simp only [List.length_append, List.length_cons, List.length_nil] at this ⊢; omega⟩
     obtain ⟨M2, p1, p2⟩ := hl1 m0 M b1 (b2 ++ c' :: r') hM hF1 ha1
     have hlb : b1.length = a1.length := tl_len ha1
     obtain ⟨g, rfl⟩ : ∃ g, f' = g + 1 := ⟨f' - 1, by omega⟩
     simp only [List.length_append] at hf'
     obtain ⟨M1, q1, q2⟩ := hl2 m0 M2 b2 c' r' g p2 hF ha2 hc' (by omega)
     refine ⟨M1, ?_, q2⟩
     have hh : isH 3 [125] (b1 ++ b2 ++ c' :: r') = false := by
      cases a1 with
      | nil => simp at l4
      | cons t a1 =>
       obtain ⟨u, us, rfl, hu, _⟩ := map_cons ha1
       show isT 3 [125] u = false
       rw [tl_isT hu]; exact h0
     simp only [sCmds, hh, cond_false]
     rw [List.append_assoc, p1]
     exact q1
  ·rw [h0] at h
   simp only [cond_true] at h
   cases h
   obtain ⟨c, r2, rfl⟩ := he.ne
   have hc : isT 3 [125] c = true := h0
   refine ⟨[], c, [], rfl, fun u hu => (by cases hu), hc, he.tail (isT_ne hc (by decide)), by simp, by simp, fun m0 M a' c' r' f' hM hF ha hc' hf' => ⟨M, ?_, hM⟩⟩
   have : a' = [] := by simpa [tl] using ha
   subst this
   obtain ⟨g, rfl⟩ : ∃ g, f' = g + 1 := ⟨f' - 1, by omega⟩
   simp only [List.nil_append, sCmds]
   rw [show isH 3 [125] (c' :: r') = true from (tl_isT hc' 3 [125]).trans hc]
   rfl
theorem free_not {m0 : Mdl} {names procs l : List Str} (hf : Free m0 names procs) {x : Str} (hx : x ∈ names ∨ x ∈ procs) (hl : l.contains x = false) : (m0.1 ++ l).contains x = false ∧ (m0.2.2.2.1 ++ l).contains x = false := by
 obtain ⟨h1, h2⟩ := hf x hx
 have h3 : x ∉ l := by simpa using hl
 constructor
 ·simp [h1, h3]
 ·simp [h2, h3]
theorem sProc_l {m m1 : Mdl} {ts r : List Tok} (he : Pa.Ends ts) (hk : NK m) (h : sProc m ts = .ok (m1, r)) :
  ∃ x o a c name C, ts = x :: o :: (a ++ c :: r) ∧ bad x = false ∧ x.1 = 1 ∧ isT 3 [123] o = true ∧ (∀ t ∈ a, bad2 t = false) ∧ isT 3 [125] c = true ∧ Pa.Ends r ∧ m1 = (m.1, m.2.1, m.2.2.1, m.2.2.2.1 ++ [name], m.2.2.2.2 ++ C) ∧ 4 * C.length ≤ a.length ∧
   ∀ (m0 M : Mdl) x' o' a' c' r', RM m0 m M → Fit m0 m1 → strip x' = strip x → strip o' = strip o → tl a a' → strip c' = strip c → ∃ M1, sProc M (x' :: o' :: (a' ++ c' :: r')) = .ok (M1, r') ∧ RM m0 m1 M1 := by
 unfold sProc at h
 cases h1 : sName false m.1 m.2.2.2.1 ts with
 | error e => rw [h1] at h; cases h
 | ok p =>
  obtain ⟨name, r1⟩ := p
  rw [h1] at h
  simp only at h
  have s1 := (sName_ok he h1).1
  obtain ⟨x, rfl, x1, x2, xk, xn, xp, _⟩ := sName_l h1
  cases h2 : sSign [123] r1 with
  | error e => rw [h2] at h; cases h
  | ok r2 =>
   rw [h2] at h
   simp only at h
   have s2 := sSign_ok s1.1 h2
   obtain ⟨o, rfl, ho⟩ := sSign_l h2
   obtain ⟨a, c, C, rfl, hb, hc, her, hm1, hC, hl⟩ := sCmds_l _ s2.1 (show NK (m.1, m.2.1, m.2.2.1, m.2.2.2.1 ++ [name], m.2.2.2.2) from hk) h
   refine ⟨x, o, a, c, name, C, rfl, bad_word x1 x2 xk, x1, ho, hb, hc, her, hm1, hC, fun m0 M x' o' a' c' r' hM hF hx' ho' ha hc' => ?_⟩
   subst hm1
   have hfr := free_not hF.free (x := name) (.inr (by simp)) xn
   have hfr2 := free_not hF.free (x := name) (.inr (by simp)) xp
   have hMn : M.1.contains name = false := by rw [hM.names]; exact hfr.1
   have hMp : M.2.2.2.1.contains name = false := by rw [hM.procs]; exact hfr2.2
   obtain ⟨M1, q1, q2⟩ := hl m0 (M.1, M.2.1, M.2.2.1, M.2.2.2.1 ++ [name], M.2.2.2.2) a' c' r' ((a' ++ c' :: r').length + 1) ⟨hM.names, hM.schema, hM.init, by simp only [hM.procs, List.append_assoc], hM.cmds⟩ hF ha hc' (by simp; omega)
   refine ⟨M1, ?_, q2⟩
   unfold sProc
   rw [sName_n x1 x2 hx' xk hMn hMp]
   simp only
   rw [sSign_n ho ho']
   exact q1
theorem sVar_l {m m1 : Mdl} {ts r : List Tok} (he : Pa.Ends ts) (h : sVar m ts = .ok (m1, r)) :
  ∃ a c name lo hi fi, ts = a ++ c :: r ∧ (∀ t ∈ a, bad t = false) ∧ isT 3 [59] c = true ∧ Pa.Ends r ∧ m1 = (m.1 ++ [name], m.2.1 ++ [(lo, hi)], m.2.2.1 ++ [fi], m.2.2.2.1, m.2.2.2.2) ∧ key name = false ∧
   ∀ (m0 M : Mdl) a' c' r', RM m0 m M → Fit m0 m1 → tl a a' → strip c' = strip c → ∃ M1, sVar M (a' ++ c' :: r') = .ok (M1, r') ∧ RM m0 m1 M1 := by
 have hsh := (sVar_ok he h).1
 unfold sVar at h
 cases h1 : sName (decide (16 ≤ (m.1.length : Int))) m.1 m.2.2.2.1 ts with
 | error e => rw [h1] at h; cases h
 | ok q1 =>
  obtain ⟨name, ts1⟩ := q1
  rw [h1] at h
  simp only at h
  obtain ⟨x, rfl, x1, x2, xk, xn, xp, x16⟩ := sName_l h1
  cases h2 : sNum ts1 with
  | error e => rw [h2] at h; cases h
  | ok q2 =>
   obtain ⟨lo, ts2⟩ := q2
   rw [h2] at h
   simp only at h
   obtain ⟨a2, rfl, b2, l2⟩ := sNum_l h2
   cases h3 : sNum ts2 with
   | error e => rw [h3] at h; cases h
   | ok q3 =>
    obtain ⟨hi, ts3⟩ := q3
    rw [h3] at h
    simp only at h
    obtain ⟨a3, rfl, b3, l3⟩ := sNum_l h3
    cases h4 : sNum ts3 with
    | error e => rw [h4] at h; cases h
    | ok q4 =>
     obtain ⟨fi, ts4⟩ := q4
     rw [h4] at h
     simp only at h
     obtain ⟨a4, rfl, b4, l4⟩ := sNum_l h4
     cases h5 : sSign [59] ts4 with
     | error e => rw [h5] at h; cases h
     | ok ts5 =>
      rw [h5] at h
      simp only at h
      obtain ⟨c, rfl, hc⟩ := sSign_l h5
      cases h6 : (!(rightB lo hi) || decide (fi < lo) || decide (hi < fi))
      case true => rw [h6] at h; cases h
      rw [h6] at h
      cases h
      refine ⟨x :: (a2 ++ (a3 ++ a4)), c, name, lo, hi, fi, by simp, fun u hu => ?_, hc, hsh.1, rfl, xk, fun m0 M a' c' r' hM hF ha hc' => ?_⟩
      ·rcases List.mem_cons.1 hu with rfl | hu
       ·exact bad_word x1 x2 xk
       ·rcases List.mem_append.1 hu with hu | hu
        ·exact b2 u hu
        ·rcases List.mem_append.1 hu with hu | hu
         ·exact b3 u hu
         ·exact b4 u hu
      ·obtain ⟨x', us, rfl, hx', hus⟩ := map_cons ha
       obtain ⟨c2, us2, rfl, hc2, hus2⟩ := map_app hus
       obtain ⟨c3, c4, rfl, hc3, hc4⟩ := map_app hus2
       have hfr := free_not hF.free (x := name) (.inl (by simp)) xn
       have hfr2 := free_not hF.free (x := name) (.inl (by simp)) xp
       have hMn : M.1.contains name = false := by rw [hM.names]; exact hfr.1
       have hMp : M.2.2.2.1.contains name = false := by rw [hM.procs]; exact hfr2.2
       have h16 : decide (16 ≤ (M.1.length : Int)) = false := by
        have := hF.names
        simp only [List.length_append, List.length_singleton] at this
        rw [hM.names]
        exact decide_eq_false (by simp only [List.length_append]; omega)
       refine ⟨(M.1 ++ [name], M.2.1 ++ [(lo, hi)], M.2.2.1 ++ [fi], M.2.2.2.1, M.2.2.2.2), ?_, ⟨by simp [hM.names], by simp [hM.schema], by simp [hM.init], hM.procs, ?_⟩⟩
       ·unfold sVar
        rw [h16, List.cons_append, sName_n x1 x2 hx' xk hMn hMp]
        simp only [List.append_assoc]
        rw [l2 c2 _ hc2]
        simp only
        rw [l3 c3 _ hc3]
        simp only
        rw [l4 c4 _ hc4]
        simp only
        rw [sSign_n hc hc']
        simp only [h6, cond_false]
       ·have := hM.cmds
        simpa using this
end Mo
end Go.Proofs.YtdhgpnejphlfpaaDoor
namespace Go.Proofs.YtdhgpnejphlfpaaDoor
namespace Pa
open Job
def cnt : Nat → Int
 | 1 => 5
 | 2 => 4
 | 3 => 3
 | 4 => 3
 | 5 => 3
 | 6 => 2
 | 7 => 1
 | 8 => 1
 | 9 => 1
 | 10 => 1
 | _ => 0
theorem op_kind {s : Nat} {t : Tok} (h : sgn t = false) : opOf s t = none := by unfold opOf fnd; rw [h]; rfl
/-! up to a line from a stronger one -/
theorem dn_cnt : ∀ s, 1 ≤ s → s ≤ 10 → ∀ d, dn s d = d + cnt s - cnt (s + 1) := by
 intro s h1 h2 d
 have : s = 1 ∨ s = 2 ∨ s = 3 ∨ s = 4 ∨ s = 5 ∨ s = 6 ∨ s = 7 ∨ s = 8 ∨ s = 9 ∨ s = 10 := by omega
 rcases this with rfl | rfl | rfl | rfl | rfl | rfl | rfl | rfl | rfl | rfl <;> simp only [dn, cnt, counted] <;> simp <;> omega
theorem deep_cnt : ∀ s, 1 ≤ s → s ≤ 10 → ∀ d, d + cnt s ≤ 320 → deepB s d = false := by
 intro s h1 h2 d h
 have : s = 1 ∨ s = 2 ∨ s = 3 ∨ s = 4 ∨ s = 5 ∨ s = 6 ∨ s = 7 ∨ s = 8 ∨ s = 9 ∨ s = 10 := by omega
 rcases this with rfl | rfl | rfl | rfl | rfl | rfl | rfl | rfl | rfl | rfl <;> simp only [deepB, cnt, counted] at * <;> simp <;> omega
theorem kd_cases : ∀ s, 1 ≤ s → s ≤ 10 → kd s = 0 ∨ kd s = 1 ∨ kd s = 2 := by
 intro s h1 h2
 have : s = 1 ∨ s = 2 ∨ s = 3 ∨ s = 4 ∨ s = 5 ∨ s = 6 ∨ s = 7 ∨ s = 8 ∨ s = 9 ∨ s = 10 := by omega
 rcases this with rfl | rfl | rfl | rfl | rfl | rfl | rfl | rfl | rfl | rfl <;> simp [kd]
def Quiet (s q : Nat) : Out → Prop
 | .ok p => ∃ t r, p.2 = t :: r ∧ ∀ i, s ≤ i → i < q → kd i ≠ 0 → opOf i t = none
 | .error _ => True
theorem climb {names : List Str} {f : Tok} {ts : List Tok} {r : Out} : ∀ (k s : Nat) (d : Int), s + k ≤ 11 → 1 ≤ s → (∀ q, s ≤ q → q < s + k → kd q = 0 → opOf q f = none) → Quiet s (s + k) r → d + cnt s ≤ 320 →
  P names (line (s + k)) (d + cnt s - cnt (s + k)) (f :: ts) r → P names (line s) d (f :: ts) r := by
 intro k
 induction k with
 | zero => intro s d _ _ _ _ _ h; rw [Nat.add_zero, show d + cnt s - cnt s = d by omega] at h; exact h
 | succ k ih =>
  intro s d hs h1 hf hq hd h
  have e1 := dn_cnt s h1 (by omega) d
  have e2 := deep_cnt s h1 (by omega) d hd
  have hP : P names (line (s + 1)) (dn s d) (f :: ts) r := by
   refine ih (s + 1) (dn s d) (by omega) (by omega) (fun q hq1 hq2 => hf q (by omega) (by omega)) ?_ (by omega) ?_
   ·cases r with
    | error e => trivial
    | ok p =>
     obtain ⟨t, r', h2, h3⟩ := hq
     exact ⟨t, r', h2, fun i hi1 hi2 => h3 i (by omega) (by omega)⟩
   ·rw [show s + 1 + k = s + (k + 1) by omega, show dn s d + cnt (s + 1) - cnt (s + (k + 1)) = d + cnt s - cnt (s + (k + 1)) by omega]
    exact h
  rcases kd_cases s h1 (by omega) with hk | hk | hk
  ·exact .other hk e2 (hf s (Nat.le_refl _) (by omega) hk) hP
  ·cases r with
   | error e => exact .rErr hk e2 hP
   | ok p =>
    obtain ⟨t, r', h2, h3⟩ := hq
    obtain ⟨a, p2⟩ := p
    simp only at h2
    subst h2
    exact .rOne hk e2 hP (h3 s (Nat.le_refl _) (by omega) (by omega))
  ·have hdn : dn s d = d := by
    have : counted s = false := by
     have : s = 3 ∨ s = 4 ∨ s = 8 ∨ s = 9 := by
      have : s = 1 ∨ s = 2 ∨ s = 3 ∨ s = 4 ∨ s = 5 ∨ s = 6 ∨ s = 7 ∨ s = 8 ∨ s = 9 ∨ s = 10 := by omega
      rcases this with rfl | rfl | rfl | rfl | rfl | rfl | rfl | rfl | rfl | rfl <;> simp [kd] at hk <;> simp
     rcases this with rfl | rfl | rfl | rfl <;> rfl
    unfold dn; rw [this]; rfl
   rw [hdn] at hP
   cases r with
   | error e => exact .lErr hk hP
   | ok p =>
    obtain ⟨t, r', h2, h3⟩ := hq
    obtain ⟨a, p2⟩ := p
    simp only at h2
    subst h2
    exact .lGo hk hP (.lpEnd (h3 s (Nat.le_refl _) (by omega) (by omega)))
def plainT (t : Tok) : Prop := ∀ s, 1 ≤ s → s ≤ 10 → opOf s t = none
theorem plain_sign {t : Tok} (h1 : t.1 = 3) (h2 : t.2.1 = [59] ∨ t.2.1 = [58] ∨ t.2.1 = [44]) : plainT t := by
 obtain ⟨a, b, c, d⟩ := t
 simp only at h1 h2
 subst h1
 intro s hs1 hs2
 have : s = 1 ∨ s = 2 ∨ s = 3 ∨ s = 4 ∨ s = 5 ∨ s = 6 ∨ s = 7 ∨ s = 8 ∨ s = 9 ∨ s = 10 := by omega
 rcases h2 with rfl | rfl | rfl <;> rcases this with rfl | rfl | rfl | rfl | rfl | rfl | rfl | rfl | rfl | rfl <;> rfl
theorem read_num {names : List Str} {t u : Tok} {r : List Tok} (ht : t.1 = 2) (hu : plainT u) : Sy.readE names (t :: u :: r) = .ok (.mk 1 t.2.2.1 t.2.2.2 [], u :: r) := by
 have hs : sgn t = false := by
  unfold sgn
  rw [ht]; rfl
 refine Sy.readE_eq (climb 10 1 0 (by omega) (by omega) (fun q _ _ _ => op_kind hs) ⟨u, r, rfl, fun i h1 h2 _ => hu i h1 (by omega)⟩ (by decide) ?_)
 exact .oNum rfl (op_kind hs) (by rw [ht]; rfl)
theorem read_true {names : List Str} {t u : Tok} {r : List Tok} (ht : t.1 = 1) (h2 : t.2.1 = [116, 114, 117, 101]) (hu : plainT u) : Sy.readE names (t :: u :: r) = .ok (.mk 13 0 t.2.2.2 [], u :: r) := by
 obtain ⟨a, b, c, d⟩ := t
 simp only at ht h2
 subst ht; subst h2
 refine Sy.readE_eq (climb 10 1 0 (by omega) (by omega) (fun q h1 h2 _ => ?_) ⟨u, r, rfl, fun i h1 h2 _ => hu i h1 (by omega)⟩ (by decide) ?_)
 ·have : q = 1 ∨ q = 2 ∨ q = 3 ∨ q = 4 ∨ q = 5 ∨ q = 6 ∨ q = 7 ∨ q = 8 ∨ q = 9 ∨ q = 10 := by omega
  rcases this with rfl | rfl | rfl | rfl | rfl | rfl | rfl | rfl | rfl | rfl <;> rfl
 ·exact .oWord (k := 13) rfl rfl
theorem expr_num {names : List Str} {t u : Tok} {r : List Tok} (ht : t.1 = 2) (hu : plainT u) : Sy.sExpr 1 names (t :: u :: r) = .ok (.mk 1 t.2.2.1 t.2.2.2 [], u :: r) := by
 unfold Sy.sExpr
 rw [read_num ht hu]
 have h1 : rt (.mk 1 t.2.2.1 t.2.2.2 []) = (1, 0, 0) := by
  rw [rt_eq]; rfl
 simp only [h1]
 rfl
theorem expr_true {names : List Str} {t u : Tok} {r : List Tok} (ht : t.1 = 1) (h2 : t.2.1 = [116, 114, 117, 101]) (hu : plainT u) : Sy.sExpr 2 names (t :: u :: r) = .ok (.mk 13 0 t.2.2.2 [], u :: r) := by
 unfold Sy.sExpr
 rw [read_true ht h2 hu]
 have h1 : rt (.mk 13 0 t.2.2.2 []) = (2, 0, 0) := by
  rw [rt_eq]; rfl
 simp only [h1]
 rfl
end Pa
end Go.Proofs.YtdhgpnejphlfpaaDoor
namespace Go.Proofs.YtdhgpnejphlfpaaDoor
namespace Mo
open Pa Sy
noncomputable def sTail (N : List Str) (f : Nat) (acc : List (Int × Ex)) (ts : List Tok) : Except Err (List (Int × Ex) × List Tok) := match sSets N f acc ts with
 | .error e => .error e
 | .ok p => match sSign [59] p.2 with
  | .error e => .error e
  | .ok r => .ok (p.1, r)
theorem sTail_e {N : List Str} {f : Nat} {acc : List (Int × Ex)} {ts : List Tok} {e : Err} (h : sOne N acc ts = .error e) : sTail N (f + 1) acc ts = .error e := by
 unfold sTail
 rw [sSets_one, h]
theorem sTail_more {N : List Str} {f : Nat} {acc : List (Int × Ex)} {ts : List Tok} {p : (Int × Ex) × List Tok} (h : sOne N acc ts = .ok p) (hh : isH 3 [44] p.2 = true) : sTail N (f + 1) acc ts = sTail N f (acc ++ [p.1]) p.2.tail := by
 unfold sTail
 rw [sSets_one, h]
 simp only [hh, cond_true]
theorem sTail_last {N : List Str} {f : Nat} {acc : List (Int × Ex)} {ts : List Tok} {p : (Int × Ex) × List Tok} (h : sOne N acc ts = .ok p) (hh : isH 3 [44] p.2 = false) : sTail N (f + 1) acc ts = match sSign [59] p.2 with
  | .error e => .error e
  | .ok r => .ok (acc ++ [p.1], r) := by
 unfold sTail
 rw [sSets_one, h]
 simp only [hh, cond_false]
theorem isT_59 {t : Tok} (h : isT 3 [59] t = true) : isT 3 [44] t = false := by
 unfold isT at *
 simp only [Bool.and_eq_true, beq_iff_eq] at h
 rw [h.2, Bool.and_eq_false_iff]
 exact .inr (by decide)
section
variable {l : List Tok} (N : List Str) (S_ : List (Int × Int)) (I : List Int) (Q : List Str) (C : List Cmd)
theorem sets_m (hk : l.length < 1099511627776) (hN : N.length < 1099511627776) (hC : C.length < 1000000) (g : Ex × Int) : ∀ (f : Nat) (acc : List (Int × Ex)) (k M : Nat), Pa.Ends (l.drop k) → (l.drop k).length < f → (l.drop k).length < M → acc.length ≤ k → k ≤ l.length →
  Rd l (sTail N f acc (l.drop k)) (fun sets k' => (k', C ++ [(IntKind.i64.wrap ((Q.length : Int) - 1), g.1, sets)])) (fixN (model_read_command_L2 l N S_ I Q C g) M ((k : Int), acc))
 | 0, acc, k, M, he, hf, hM, ha, hkl => by omega
 | f + 1, acc, k, 0, he, hf, hM, ha, hkl => by omega
 | f + 1, acc, k, M + 1, he, hf, hM, ha, hkl => by
  rw [fixN_succ]
  simp only [model_read_command_L2]
  have h1 := assignment_m N S_ I Q C (l := l) (k := k) he hk hN (acc := acc) (by omega)
  cases ho : sOne N acc (l.drop k) with
  | error e =>
   rw [ho] at h1
   rw [sTail_e ho, show model_read_assignment_s2 acc l (k : Int) N S_ I Q C = some (.error e) from h1]
   rfl
  | ok p =>
   rw [ho] at h1
   obtain ⟨k1, hm1, hd1⟩ := h1
   have hsh := sOne_ok he ho
   obtain ⟨t2, r2, ht2⟩ := hsh.1.ne
   have hd2 : l.drop k1 = t2 :: r2 := by rw [hd1, ht2]
   have hlt := (drop_at hd2).2.2.1
   have hkk : k < k1 := drop_lt rfl hd1 hsh.2
   rw [hm1, bindE_o]
   simp only
   rw [Sy.chk_t (Sy.room_ok (by simp; omega) (by simp; omega)), is_m N S_ I Q C hd2, bind_s]
   cases h59 : isT 3 [59] t2
   ·simp only [cond_false]
    have hs := sign_m N S_ I Q C (l := l) (k := k1) (by rw [hd1]; exact hsh.1) (by omega) [44]
    rw [hd2] at hs
    cases h44 : isT 3 [44] t2
    ·have e1 : sSign [44] (t2 :: r2) = .error (2, t2.2.2.2) := by simp only [sSign, h44, cond_false]
     have e2 : sSign [59] (t2 :: r2) = .error (2, t2.2.2.2) := by simp only [sSign, h59, cond_false]
     rw [e1] at hs
     rw [sTail_last ho (by rw [ht2]; exact h44), ht2, e2, show model_read_sign [44] l (k1 : Int) N S_ I Q C = some (.error (2, t2.2.2.2)) from hs]
     rfl
    ·have e1 : sSign [44] (t2 :: r2) = .ok r2 := by simp only [sSign, h44, cond_true]
     rw [e1] at hs
     obtain ⟨k2, hm2, hd3⟩ := hs
     have hr2 : Pa.Ends r2 := by
      have := hsh.1
      rw [ht2] at this
      exact this.tail (isT_ne h44 (by decide))
     have hk2 : k1 < k2 := drop_lt hd2 hd3 (by simp)
     have hlen2 : (l.drop k2).length < (l.drop k).length := by
      rw [hd3]
      have := hsh.2
      rw [ht2] at this
      simp only [List.length_cons] at this
      omega
     have hk2l : k2 ≤ l.length := by
      obtain ⟨t3, r3, ht3⟩ := hr2.ne
      have := (drop_at (hd3.trans ht3)).2.2.1
      omega
     rw [hm2, bindE_o, sTail_more ho (by rw [ht2]; exact h44), ht2]
     have := sets_m hk hN hC g f (acc ++ [p.1]) k2 M (by rw [hd3]; exact hr2) (by omega) (by omega) (by simp; omega) hk2l
     rw [hd3] at this
     exact this
   ·simp only [cond_true]
    have e2 : sSign [59] (t2 :: r2) = .ok r2 := by simp only [sSign, h59, cond_true]
    rw [Sy.chk_t (Sy.room_ok (by simp; omega) (by simp; omega)), sTail_last ho (by rw [ht2]; exact isT_59 h59), ht2, e2]
    exact ⟨k1 + 1, by rw [wrap1 (show k1 < 4611686018427387904 by omega)], (drop_at hd2).2.1⟩
variable {k : Nat}
theorem command_m (he : Pa.Ends (l.drop k)) (hk : l.length < 1099511627776) (hN : N.length < 1099511627776) (_hkl : k ≤ l.length) :
  Rd l (sCmd (N, S_, I, Q, C) (l.drop k)) (fun m' k' => (k', m'.2.2.2.2)) (model_read_command l (k : Int) N S_ I Q C) := by
 obtain ⟨t, r, ht⟩ := he.ne
 unfold model_read_command sCmd
 cases h256 : decide (256 ≤ (List.length C : Int))
 ·have hC : C.length < 256 := by have := of_decide_eq_false h256; omega
  simp only [cond_false, model_read_command_K1]
  have hx := expression_m N S_ I Q C (l := l) (k := k) he hk (by omega) 2
  cases h1 : sExpr 2 N (l.drop k) with
  | error e =>
   rw [h1] at hx
   rw [show model_read_expression 2 l (k : Int) N S_ I Q C = some (.error e) from hx]
   rfl
  | ok p =>
   rw [h1] at hx
   obtain ⟨k1, hm1, hd1⟩ := hx
   have he1 := (sExpr_ok he h1).1
   have hk1 : k < k1 := drop_lt rfl hd1 he1.2
   rw [hm1, bindE_o]
   have hs := sign_m N S_ I Q C (l := l) (k := k1) (by rw [hd1]; exact he1.1) (by omega) [58]
   rw [hd1] at hs
   simp only
   cases h2 : sSign [58] p.2 with
   | error e =>
    rw [h2] at hs
    rw [show model_read_sign [58] l (k1 : Int) N S_ I Q C = some (.error e) from hs]
    rfl
   | ok r2 =>
    rw [h2] at hs
    obtain ⟨k2, hm2, hd2⟩ := hs
    have he2 := sSign_ok he1.1 h2
    have hk2 : k1 < k2 := drop_lt hd1 hd2 he2.2
    rw [hm2, bindE_o]
    have hk2l : k2 ≤ l.length := by
     obtain ⟨t3, r3, ht3⟩ := he2.1.ne
     have := (drop_at (hd2.trans ht3)).2.2.1
     omega
    have hdl : (l.drop k2).length ≤ l.length := by simp
    have hl := sets_m (l := l) N S_ I Q C hk hN (by omega) (p.1, (k1 : Int)) (r2.length + 1) [] k2 FUEL (by rw [hd2]; exact he2.1) (by rw [hd2]; omega) (by show _ < 2 ^ 64; omega) (by simp) hk2l
    rw [hd2] at hl
    unfold sTail at hl
    simp only
    cases h3 : sSets N (r2.length + 1) [] r2 with
    | error e => rw [h3] at hl; exact hl
    | ok q =>
     rw [h3] at hl
     simp only at hl ⊢
     cases h4 : sSign [59] q.2 with
     | error e => rw [h4] at hl; exact hl
     | ok r4 =>
      rw [h4] at hl
      obtain ⟨k4, hm4, hd4⟩ := hl
      exact ⟨k4, hm4, hd4⟩
 ·simp only [cond_true, stop_m N S_ I Q C ht, bindE_e]
  rw [ht]
  rfl
end
end Mo
end Go.Proofs.YtdhgpnejphlfpaaDoor
namespace Go.Proofs.YtdhgpnejphlfpaaDoor
namespace Mo
open Pa Sy
theorem fuel2 : ∃ m, FUEL = m + 2 := ⟨18446744073709551614, rfl⟩
theorem right_m (lo hi : Int) : schema_Right_s2 [(lo, hi)] = some (rightB lo hi) := by
 obtain ⟨m, hm⟩ := fuel2
 unfold schema_Right_s2 schema_each_bool_s2 slices_Contains_bool_bool slices_Index_bool_bool
 rw [hm]
 have h1 : (decide ((1 : Int) ≤ (List.length ([(lo, hi)] : List (Int × Int)) : Int)) && decide ((List.length ([(lo, hi)] : List (Int × Int)) : Int) ≤ 17)) = true := rfl
 simp only [letv_e]
 rw [h1, callG_tt, Sy.chk_t (by rfl), Sy.chk_t (by rfl)]
 have h2 : fixN (schema_each_bool_s2_L1 [(lo, hi)]) (m + 2) (List.replicate (Int.toNat (List.length ([(lo, hi)] : List (Int × Int)) : Int)) false, 0) = some [rightB lo hi] := by
  rw [fixN_succ]
  have hb : schema_span_may (lo, hi) = some (rightB lo hi) := by
   unfold schema_span_may rightB
   simp only [letv_e]
   congr 1
   by_cases a1 : lo < -1073741824 <;> by_cases a2 : 1073741824 < hi <;> by_cases a3 : hi < lo <;> by_cases a4 : 65535 < IntKind.i64.wrap (hi - lo) <;>
    simp [a1, a2, a3, a4] <;> omega
  simp only [schema_each_bool_s2_L1]
  rw [show decide ((0 : Int) < (List.length ([(lo, hi)] : List (Int × Int)) : Int)) = true from rfl, cond_true, show idx ([(lo, hi)] : List (Int × Int)) 0 = some (lo, hi) from rfl, bind_s, hb, bind_s]
  rw [show idx (List.replicate (Int.toNat (List.length ([(lo, hi)] : List (Int × Int)) : Int)) false) 0 = some false from rfl, bind_s]
  rw [show IntKind.i64.wrap (0 + 1) = (1 : Int) from rfl, fixN_succ]
  simp only [schema_each_bool_s2_L1]
  rw [show decide ((1 : Int) < (List.length ([(lo, hi)] : List (Int × Int)) : Int)) = false from rfl, cond_false]
  rfl
 rw [h2, bind_s, callG_tt]
 have h3 : fixN (slices_Index_bool_bool_L1 [rightB lo hi] false) (m + 2) 0 = some (bif rightB lo hi then -1 else 0) := by
  rw [fixN_succ]
  simp only [slices_Index_bool_bool_L1]
  rw [show decide ((0 : Int) < (List.length ([rightB lo hi] : List Bool) : Int)) = true from rfl, cond_true, show idx ([rightB lo hi] : List Bool) 0 = some (rightB lo hi) from rfl, bind_s]
  rw [show IntKind.i64.wrap (0 + 1) = (1 : Int) from rfl, fixN_succ]
  simp only [slices_Index_bool_bool_L1]
  rw [show decide ((1 : Int) < (List.length ([rightB lo hi] : List Bool) : Int)) = false from rfl, cond_false]
  cases rightB lo hi <;> rfl
 rw [h3, bind_s, bind_s]
 cases rightB lo hi <;> rfl
theorem in_m (lo hi v : Int) : schema_In_s2 [(lo, hi)] [v] = some (bif decide (lo ≤ v) && decide (v ≤ hi) then 0 else 5) := by
 obtain ⟨m, hm⟩ := fuel2
 unfold schema_In_s2
 rw [hm, show ((List.length ([v] : List Int) : Int) != (List.length ([(lo, hi)] : List (Int × Int)) : Int)) = false from rfl, cond_false, fixN_succ]
 simp only [schema_In_s2_L1]
 rw [show decide ((0 : Int) < (List.length ([v] : List Int) : Int)) = true from rfl, cond_true, show idx ([v] : List Int) 0 = some v from rfl, bind_s, show idx ([(lo, hi)] : List (Int × Int)) 0 = some (lo, hi) from rfl, bind_s]
 rw [show schema_span_has (lo, hi) v = some (decide (lo ≤ v) && decide (v ≤ hi)) from rfl, bind_s, show IntKind.i64.wrap (0 + 1) = (1 : Int) from rfl, fixN_succ]
 simp only [schema_In_s2_L1]
 rw [show decide ((1 : Int) < (List.length ([v] : List Int) : Int)) = false from rfl, cond_false]
 cases (decide (lo ≤ v) && decide (v ≤ hi)) <;> rfl
theorem dec_not (a b : Int) : decide (a < b) = !decide (b ≤ a) := by
 by_cases h : a < b
 ·rw [decide_eq_true h, decide_eq_false (by omega)]; rfl
 ·rw [decide_eq_false h, decide_eq_true (by omega)]; rfl
section
variable {l : List Tok} {k : Nat} (N : List Str) (S_ : List (Int × Int)) (I : List Int) (Q : List Str) (C : List Cmd)
theorem variable_m (he : Pa.Ends (l.drop k)) (hk : l.length < 1099511627776) (hN : N.length ≤ l.length) (hS : S_.length ≤ l.length) (hI : I.length ≤ l.length) (hQ : Q.length ≤ l.length) :
  Rd l (sVar (N, S_, I, Q, C) (l.drop k)) (fun m' k' => (k', m'.1, m'.2.1, m'.2.2.1)) (model_read_variable l (k : Int) N S_ I Q C) := by
 unfold model_read_variable sVar
 have h1 := name_m N S_ I Q C (l := l) (k := k) he (by omega) (by omega) (by omega) (decide (16 ≤ (N.length : Int)))
 simp only
 cases e1 : sName (decide (16 ≤ (N.length : Int))) N Q (l.drop k) with
 | error e => rw [e1] at h1; rw [show model_read_name _ l (k : Int) N S_ I Q C = some (.error e) from h1]; rfl
 | ok p1 =>
  rw [e1] at h1
  obtain ⟨k1, m1, d1⟩ := h1
  have s1 := (sName_ok he e1).1
  obtain ⟨t1, r1, ht1⟩ := s1.1.ne
  rw [m1, bindE_o]
  simp only
  rw [next_m N S_ I Q C (d1.trans ht1), bind_s]
  have h2 := number_m N S_ I Q C (l := l) (k := k1) (by rw [d1]; exact s1.1) (by omega)
  rw [d1] at h2
  cases e2 : sNum p1.2 with
  | error e => rw [e2] at h2; rw [show model_read_number l (k1 : Int) N S_ I Q C = some (.error e) from h2]; rfl
  | ok p2 =>
   rw [e2] at h2
   obtain ⟨k2, m2, d2⟩ := h2
   have s2 := sNum_ok s1.1 e2
   rw [m2, bindE_o]
   simp only
   have h3 := number_m N S_ I Q C (l := l) (k := k2) (by rw [d2]; exact s2.1) (by omega)
   rw [d2] at h3
   cases e3 : sNum p2.2 with
   | error e => rw [e3] at h3; rw [show model_read_number l (k2 : Int) N S_ I Q C = some (.error e) from h3]; rfl
   | ok p3 =>
    rw [e3] at h3
    obtain ⟨k3, m3, d3⟩ := h3
    have s3 := sNum_ok s2.1 e3
    rw [m3, bindE_o]
    simp only
    have h4 := number_m N S_ I Q C (l := l) (k := k3) (by rw [d3]; exact s3.1) (by omega)
    rw [d3] at h4
    cases e4 : sNum p3.2 with
    | error e => rw [e4] at h4; rw [show model_read_number l (k3 : Int) N S_ I Q C = some (.error e) from h4]; rfl
    | ok p4 =>
     rw [e4] at h4
     obtain ⟨k4, m4, d4⟩ := h4
     have s4 := sNum_ok s3.1 e4
     rw [m4, bindE_o]
     simp only
     have h5 := sign_m N S_ I Q C (l := l) (k := k4) (by rw [d4]; exact s4.1) (by omega) [59]
     rw [d4] at h5
     cases e5 : sSign [59] p4.2 with
     | error e => rw [e5] at h5; rw [show model_read_sign [59] l (k4 : Int) N S_ I Q C = some (.error e) from h5]; rfl
     | ok r5 =>
      rw [e5] at h5
      obtain ⟨k5, m5, d5⟩ := h5
      rw [m5, bindE_o, right_m, bind_s, in_m, letv_e]
      have hg : (callG (!!rightB p2.1 p3.1) default (some (bif decide (p2.1 ≤ p4.1) && decide (p4.1 ≤ p3.1) then (0 : Int) else 5)) fun r81 => letv (r81 != 0) fun b87 => letv (!rightB p2.1 p3.1 || b87) fun b89 =>
        bif b89 then (some (.error (5, t1.2.2.2)) : Option (Except (Int × Int) (Int × List Str × List (Int × Int) × List Int))) else model_read_variable_K1 N S_ I (p1.1, (k1 : Int)) (p2.1, (k2 : Int)) (p3.1, (k3 : Int)) (p4.1, (k4 : Int)) (k5 : Int)) =
        bif !(rightB p2.1 p3.1) || decide (p4.1 < p2.1) || decide (p3.1 < p4.1) then some (.error (5, t1.2.2.2)) else model_read_variable_K1 N S_ I (p1.1, (k1 : Int)) (p2.1, (k2 : Int)) (p3.1, (k3 : Int)) (p4.1, (k4 : Int)) (k5 : Int) := by
       cases rightB p2.1 p3.1
       ·rfl
       ·simp only [Bool.not_true, Bool.not_false, callG_tt, bind_s, letv_e, Bool.false_or]
        rw [dec_not p4.1 p2.1, dec_not p3.1 p4.1]
        cases decide (p2.1 ≤ p4.1) <;> cases decide (p4.1 ≤ p3.1) <;> rfl
      rw [hg]
      have hp : headP p1.2 = t1.2.2.2 := by rw [ht1]; rfl
      rw [hp]
      cases hb : (!(rightB p2.1 p3.1) || decide (p4.1 < p2.1) || decide (p3.1 < p4.1))
      ·simp only [cond_false, model_read_variable_K1]
       rw [Sy.chk_t (Sy.room_ok (by simp; omega) (by simp; omega)), show idx ([(p2.1, p3.1)] : List (Int × Int)) 0 = some (p2.1, p3.1) from rfl, bind_s, Sy.chk_t (Sy.room_ok (by simp; omega) (by simp; omega)), Sy.chk_t (Sy.room_ok (by simp; omega) (by simp; omega))]
       exact ⟨k5, rfl, d5⟩
      ·rfl
theorem commands_m (hk : l.length < 1099511627776) (hN : N.length < 1099511627776) (nm : Str × Int) : ∀ (f : Nat) (C : List Cmd) (k M : Nat), Pa.Ends (l.drop k) → (l.drop k).length < f → (l.drop k).length < M →
  Rd l (sCmds f (N, S_, I, Q ++ [nm.1], C) (l.drop k)) (fun m' k' => (k', m'.2.2.2.1, m'.2.2.2.2)) (fixN (model_read_process_L1 l N S_ I Q nm) M ((k : Int), C))
 | 0, C, k, M, he, hf, hM => by omega
 | f + 1, C, k, 0, he, hf, hM => by omega
 | f + 1, C, k, M + 1, he, hf, hM => by
  rw [fixN_succ]
  obtain ⟨t, r, ht⟩ := he.ne
  have hd := drop_at ht
  simp only [model_read_process_L1]
  rw [is_m N S_ I (Q ++ [nm.1]) C ht, bind_s]
  have hH : isH 3 [125] (l.drop k) = isT 3 [125] t := by rw [ht]; rfl
  unfold sCmds
  rw [hH]
  cases h1 : isT 3 [125] t
  ·simp only [Bool.not_false, cond_true, cond_false]
   have hc := command_m N S_ I (Q ++ [nm.1]) C (l := l) (k := k) he hk hN (Nat.le_of_lt hd.2.2.1)
   cases h2 : sCmd (N, S_, I, Q ++ [nm.1], C) (l.drop k) with
   | error e =>
    rw [h2] at hc
    rw [show model_read_command l (k : Int) N S_ I (Q ++ [nm.1]) C = some (.error e) from hc]
    rfl
   | ok p =>
    rw [h2] at hc
    obtain ⟨k1, m1, d1⟩ := hc
    obtain ⟨s1, g, r1, r2, sets, r3, _, _, _, _, hp, _, _⟩ := sCmd_ok he h2
    rw [m1, bindE_o]
    have ih := commands_m hk hN nm f p.1.2.2.2.2 k1 M (by rw [d1]; exact s1.1) (by rw [d1]; have := s1.2; omega) (by rw [d1]; have := s1.2; omega)
    rw [d1] at ih
    have hpe : p.1 = (N, S_, I, Q ++ [nm.1], p.1.2.2.2.2) := by rw [hp]
    rw [← hpe] at ih
    exact ih
  ·simp only [Bool.not_true, cond_true, cond_false]
   exact ⟨k + 1, by rw [wrap1 (show k < 4611686018427387904 by omega)], by rw [ht, hd.2.1]; rfl⟩
theorem process_m (he : Pa.Ends (l.drop k)) (hk : l.length < 1099511627776) (hN : N.length ≤ l.length) (hQ : Q.length ≤ l.length) :
  Rd l (sProc (N, S_, I, Q, C) (l.drop k)) (fun m' k' => (k', m'.2.2.2.1, m'.2.2.2.2)) (model_read_process l (k : Int) N S_ I Q C) := by
 unfold model_read_process sProc
 have h1 := name_m N S_ I Q C (l := l) (k := k) he (by omega) (by omega) (by omega) false
 simp only
 cases e1 : sName false N Q (l.drop k) with
 | error e => rw [e1] at h1; rw [show model_read_name false l (k : Int) N S_ I Q C = some (.error e) from h1]; rfl
 | ok p1 =>
  rw [e1] at h1
  obtain ⟨k1, m1, d1⟩ := h1
  have s1 := (sName_ok he e1).1
  rw [m1, bindE_o]
  simp only
  rw [Sy.chk_t (Sy.room_ok (by simp; omega) (by simp; omega))]
  have h2 := sign_m N S_ I (Q ++ [p1.1]) C (l := l) (k := k1) (by rw [d1]; exact s1.1) (by omega) [123]
  rw [d1] at h2
  cases e2 : sSign [123] p1.2 with
  | error e => rw [e2] at h2; rw [show model_read_sign [123] l (k1 : Int) N S_ I (Q ++ [p1.1]) C = some (.error e) from h2]; rfl
  | ok r2 =>
   rw [e2] at h2
   obtain ⟨k2, m2, d2⟩ := h2
   have s2 := sSign_ok s1.1 e2
   rw [m2, bindE_o]
   have hdl : (l.drop k2).length ≤ l.length := by simp
   have := commands_m (l := l) N S_ I Q hk (by omega) (p1.1, (k1 : Int)) (r2.length + 1) C k2 FUEL (by rw [d2]; exact s2.1) (by rw [d2]; omega) (by show _ < 2 ^ 64; omega)
   rw [d2] at this
   exact this
end
end Mo
end Go.Proofs.YtdhgpnejphlfpaaDoor
namespace Go.Proofs.YtdhgpnejphlfpaaDoor
namespace Mo
open Pa Sy
def RdA (s : Except Err Mdl) (m : Option (Except Err (Int × List Str × List (Int × Int) × List Int × List Str × List Cmd))) : Prop := match s with
 | .error e => m = some (.error e)
 | .ok m' => ∃ k : Nat, m = some (.ok ((k : Int), m'))
theorem sProc_ok {m : Mdl} {ts : List Tok} {p : Mdl × List Tok} (he : Pa.Ends ts) (h : sProc m ts = .ok p) : Shorter ts p.2 ∧ p.1.1 = m.1 ∧ p.1.2.1 = m.2.1 ∧ p.1.2.2.1 = m.2.2.1 ∧ p.1.2.2.2.1.length = m.2.2.2.1.length + 1 := by
 unfold sProc at h
 cases h1 : sName false m.1 m.2.2.2.1 ts with
 | error e => rw [h1] at h; cases h
 | ok q1 =>
  rw [h1] at h
  simp only at h
  have s1 := (sName_ok he h1).1
  cases h2 : sSign [123] q1.2 with
  | error e => rw [h2] at h; cases h
  | ok r2 =>
   rw [h2] at h
   simp only at h
   have s2 := sSign_ok s1.1 h2
   have key : ∀ (f : Nat) (m : Mdl) (ts : List Tok) (p : Mdl × List Tok), Pa.Ends ts → sCmds f m ts = .ok p → Shorter ts p.2 ∧ p.1.1 = m.1 ∧ p.1.2.1 = m.2.1 ∧ p.1.2.2.1 = m.2.2.1 ∧ p.1.2.2.2.1 = m.2.2.2.1 := by
    intro f
    induction f with
    | zero => intro m ts p _ h; cases h
    | succ f ih =>
     intro m ts p he h
     unfold sCmds at h
     cases hh : isH 3 [125] ts
     ·rw [hh] at h
      simp only [cond_false] at h
      cases hc : sCmd m ts with
      | error e => rw [hc] at h; cases h
      | ok q =>
       rw [hc] at h
       obtain ⟨s3, g, r1, r2, sets, r3, _, _, _, _, hp, _, _⟩ := sCmd_ok he hc
       obtain ⟨a1, a2, a3, a4, a5⟩ := ih _ _ _ s3.1 h
       rw [hp] at a2 a3 a4 a5
       exact ⟨s3.trans a1, a2, a3, a4, a5⟩
     ·rw [hh] at h
      simp only [cond_true] at h
      cases h
      have := isH_ends he (by decide) hh
      exact ⟨⟨this.1, by have := this.2; simp only; omega⟩, rfl, rfl, rfl, rfl⟩
   obtain ⟨a1, a2, a3, a4, a5⟩ := key _ _ _ _ s2.1 h
   exact ⟨(s1.trans s2).trans a1, a2, a3, a4, by rw [a5]; simp⟩
theorem all_m {l : List Tok} (hk : l.length < 1099511627776) : ∀ (f : Nat) (N : List Str) (S_ : List (Int × Int)) (I : List Int) (Q : List Str) (C : List Cmd) (k M : Nat), Pa.Ends (l.drop k) → (l.drop k).length < f → (l.drop k).length < M → N.length ≤ k → S_.length ≤ k → I.length ≤ k → Q.length ≤ k →
  RdA (sItems f (N, S_, I, Q, C) (l.drop k)) (fixN (model_read_all_L1 l) M ((k : Int), N, S_, I, Q, C))
 | 0, N, S_, I, Q, C, k, M, he, hf, hM, _, _, _, _ => by omega
 | f + 1, N, S_, I, Q, C, k, 0, he, hf, hM, _, _, _, _ => by omega
 | f + 1, N, S_, I, Q, C, k, M + 1, he, hf, hM, bN, bS, bI, bQ => by
  rw [fixN_succ]
  obtain ⟨t, r, ht⟩ := he.ne
  have hd := drop_at ht
  have hw : IntKind.i64.wrap ((k : Int) + 1) = ((k + 1 : Nat) : Int) := wrap1 (by omega)
  simp only [model_read_all_L1]
  rw [next_m N S_ I Q C ht, bind_s, is_m N S_ I Q C ht, is_m N S_ I Q C ht, bind_s, hw, ht]
  unfold sItems
  simp only
  have hr : t.1 ≠ 4 → Pa.Ends (l.drop (k + 1)) := fun h => by
   rw [hd.2.1]
   rw [ht] at he
   exact he.tail h
  have hdl : (l.drop k).length = r.length + 1 := by rw [ht]; rfl
  cases h4 : (t.1 == 4)
  ·rw [show (t.1 != 4) = true by simpa [bne] using h4, cond_true, cond_false]
   have ht4 : t.1 ≠ 4 := by simpa using h4
   cases hv : isT 1 [118, 97, 114] t
   ·simp only [cond_false, bind_s]
    cases hp : isT 1 [112, 114, 111, 99] t
    ·simp only [Bool.not_false, cond_true, cond_false, stop_m N S_ I Q C ht, bindE_e]; rfl
    ·simp only [Bool.not_true, cond_true, cond_false]
     have h := process_m N S_ I Q C (l := l) (k := k + 1) (hr ht4) hk (by omega) (by omega)
     rw [hd.2.1] at h
     cases e1 : sProc (N, S_, I, Q, C) r with
     | error e =>
      rw [e1] at h
      rw [show model_read_process l ((k + 1 : Nat) : Int) N S_ I Q C = some (.error e) from h]
      rfl
     | ok p =>
      rw [e1] at h
      obtain ⟨k1, m1, d1⟩ := h
      obtain ⟨s1, a2, a3, a4, a5⟩ := sProc_ok (by rw [← hd.2.1]; exact hr ht4) e1
      have hkk : k + 1 < k1 := drop_lt hd.2.1 d1 s1.2
      rw [m1, bindE_o]
      simp only at a2 a3 a4 a5 ⊢
      have ih := all_m hk f p.1.1 p.1.2.1 p.1.2.2.1 p.1.2.2.2.1 p.1.2.2.2.2 k1 M (by rw [d1]; exact s1.1) (by rw [d1]; have := s1.2; omega) (by rw [d1]; have := s1.2; omega) (by rw [a2]; omega) (by rw [a3]; omega) (by rw [a4]; omega) (by rw [a5]; omega)
      rw [d1] at ih
      have e2 : ((k1 : Int), N, S_, I, p.1.2.2.2.1, p.1.2.2.2.2) = ((k1 : Int), p.1.1, p.1.2.1, p.1.2.2.1, p.1.2.2.2.1, p.1.2.2.2.2) := by rw [a2, a3, a4]
      rw [e2]
      exact ih
   ·simp only [cond_true]
    have h := variable_m N S_ I Q C (l := l) (k := k + 1) (hr ht4) hk (by omega) (by omega) (by omega) (by omega)
    rw [hd.2.1] at h
    cases e1 : sVar (N, S_, I, Q, C) r with
    | error e =>
     rw [e1] at h
     rw [show model_read_variable l ((k + 1 : Nat) : Int) N S_ I Q C = some (.error e) from h]
     rfl
    | ok p =>
     rw [e1] at h
     obtain ⟨k1, m1, d1⟩ := h
     obtain ⟨s1, name, lo, hi, first, hp, _⟩ := sVar_ok (by rw [← hd.2.1]; exact hr ht4) e1
     have hkk : k + 1 < k1 := drop_lt hd.2.1 d1 s1.2
     rw [m1, bindE_o]
     simp only at hp ⊢
     have ih := all_m hk f p.1.1 p.1.2.1 p.1.2.2.1 p.1.2.2.2.1 p.1.2.2.2.2 k1 M (by rw [d1]; exact s1.1) (by rw [d1]; have := s1.2; omega) (by rw [d1]; have := s1.2; omega) (by rw [hp]; simp; omega) (by rw [hp]; simp; omega) (by rw [hp]; simp; omega) (by rw [hp]; simp; omega)
     rw [d1] at ih
     have e2 : ((k1 : Int), p.1.1, p.1.2.1, p.1.2.2.1, Q, C) = ((k1 : Int), p.1.1, p.1.2.1, p.1.2.2.1, p.1.2.2.2.1, p.1.2.2.2.2) := by rw [hp]
     rw [e2]
     exact ih
  ·rw [show (t.1 != 4) = false by simpa [bne] using h4, cond_true, cond_false]
   cases N with
   | nil =>
    rw [show ((List.length ([] : List Str) : Int) == 0) = true from rfl, cond_true]
    simp only [stop_m [] S_ I Q C ht, bindE_e]
    rfl
   | cons x N =>
    rw [show ((List.length (x :: N) : Int) == 0) = false by simp; omega, cond_false]
    exact ⟨k, rfl⟩
theorem Parse_m (text : Str) : model_Parse text = some (outS (sysT text)) := by
 unfold model_Parse sysT
 rw [Lx.Tokens_eq, bind_s]
 unfold Lx.tokens
 by_cases h : 65536 < text.length
 ·rw [if_pos h, if_pos h]
  rfl
 ·rw [if_neg h, if_neg h]
  have hx : Lx.lexS (text.length + 1) 0 text = Lx.lex text := rfl
  rw [hx]
  cases hl : Lx.lex text with
  | error e =>
   have h0 : (e.1 != 0) = true := bne_iff_ne.2 (lexS_err _ _ _ _ hl)
   simp only [Lx.res, h0, cond_true]
   rfl
  | ok l =>
   have hg := lex_good hl
   have hlen := hg.len
   simp only [Lx.res, show ((0 : Int) != 0) = false from rfl, cond_false]
   have := all_m (l := l) (by omega) (l.length + 1) [] [] [] [] [] 0 FUEL (by simpa using hg.ends) (by simp) (by show _ < 2 ^ 64; simp; omega) (by simp) (by simp) (by simp) (by simp)
   unfold model_read_all
   rw [show l.drop 0 = l from rfl, show ((0 : Nat) : Int) = 0 from rfl] at this
   have hs : sItems (l.length + 1) ([], [], [], [], []) l = Sy.sys l := rfl
   rw [hs] at this
   cases hsys : Sy.sys l with
   | error e =>
    rw [hsys] at this
    rw [show fixN (model_read_all_L1 l) FUEL (0, [], [], [], [], []) = some (.error e) from this]
    rfl
   | ok m =>
    rw [hsys] at this
    obtain ⟨k, hm⟩ := this
    rw [hm]
    rfl
end Mo
end Go.Proofs.YtdhgpnejphlfpaaDoor
namespace Go.Proofs.YtdhgpnejphlfpaaDoor
namespace Mo
open Pa Sy
def given (m : Mdl) (x : Str) : Bool := key x || m.1.contains x || m.2.2.2.1.contains x
theorem name_no {m : Mdl} {x : Str} {p : Int} {r : List Tok} {full : Bool} (h : given m x = true) : sName full m.1 m.2.2.2.1 ((1, x, 0, p) :: r) = .error (3, p) := by
 unfold given at h
 simp only [sName, h]
 rfl
theorem var_no {f : Nat} {m : Mdl} {x : Str} {p0 p1 : Int} {r : List Tok} (h : given m x = true) : sItems (f + 1) m ((1, [118, 97, 114], 0, p0) :: (1, x, 0, p1) :: r) = .error (3, p1) := by
 have hv : sVar m ((1, x, 0, p1) :: r) = .error (3, p1) := by
  unfold sVar
  rw [name_no h]
 have e : sItems (f + 1) m ((1, [118, 97, 114], 0, p0) :: (1, x, 0, p1) :: r) = match sVar m ((1, x, 0, p1) :: r) with
   | .error e => .error e
   | .ok (m', r') => sItems f m' r' := rfl
 rw [e, hv]
theorem cmd_ok {m : Mdl} {x t : Str} {p1 p2 p3 p4 p5 p6 : Int} {r : List Tok} (hc : m.2.2.2.2.length < 256) (hx : 0 ≤ idxI m.1 x) :
  sCmd m ((1, [116, 114, 117, 101], 0, p1) :: (3, [58], 0, p2) :: (1, x, 0, p3) :: (3, [61], 0, p4) :: (2, t, 0, p5) :: (3, [59], 0, p6) :: r) =
   .ok ((m.1, m.2.1, m.2.2.1, m.2.2.2.1, m.2.2.2.2 ++ [(IntKind.i64.wrap ((m.2.2.2.1.length : Int) - 1), .mk 13 0 p1 [], [(idxI m.1 x, .mk 1 0 p5 [])])]), r) := by
 unfold sCmd
 rw [decide_eq_false (show ¬ (256 ≤ (m.2.2.2.2.length : Int)) by omega), cond_false, expr_true rfl rfl (plain_sign rfl (.inr (.inl rfl)))]
 simp only
 rw [show sSign [58] ((3, [58], 0, p2) :: (1, x, 0, p3) :: (3, [61], 0, p4) :: (2, t, 0, p5) :: (3, [59], 0, p6) :: r) = .ok ((1, x, 0, p3) :: (3, [61], 0, p4) :: (2, t, 0, p5) :: (3, [59], 0, p6) :: r) from rfl]
 simp only
 have hs : ∀ f, sSets m.1 (f + 1) [] ((1, x, 0, p3) :: (3, [61], 0, p4) :: (2, t, 0, p5) :: (3, [59], 0, p6) :: r) = .ok ([(idxI m.1 x, .mk 1 0 p5 [])], (3, [59], 0, p6) :: r) := fun f => by
  have hd : decide (idxI m.1 x < 0) = false := decide_eq_false (by omega)
  have ho : sOne m.1 [] ((1, x, 0, p3) :: (3, [61], 0, p4) :: (2, t, 0, p5) :: (3, [59], 0, p6) :: r) = .ok ((idxI m.1 x, .mk 1 0 p5 []), (3, [59], 0, p6) :: r) := by
   simp only [sOne, hd]
   rw [show twice [] (idxI m.1 x) = false from rfl, show sSign [61] ((3, [61], 0, p4) :: (2, t, 0, p5) :: (3, [59], 0, p6) :: r) = .ok ((2, t, 0, p5) :: (3, [59], 0, p6) :: r) from rfl]
   simp only
   rw [expr_num rfl (plain_sign rfl (.inl rfl))]
   rfl
  rw [sSets_one, ho]
  rfl
 rw [hs]
 rfl
end Mo
end Go.Proofs.YtdhgpnejphlfpaaDoor
namespace Go.Proofs.YtdhgpnejphlfpaaDoor
namespace Mo
open Pa Sy
open Lx (strip)
abbrev Scan := Int × Int × Bool
def scan1 (s : Scan) (t : Tok) : Scan :=
 let d1 := bif isT 3 [123] t then s.1 + 1 else s.1
 let d2 := bif isT 3 [125] t then d1 - 1 else d1
 let o2 := bif isT 3 [125] t then false else s.2.2
 let i3 := bif isT 3 [59] t && d2 == 0 then s.2.1 + 1 else s.2.1
 let o3 := bif isT 3 [59] t && d2 == 0 then false else o2
 let o4 := bif t.1 == 1 && (t.2.1 == [118, 97, 114] || t.2.1 == [112, 114, 111, 99]) then true else o3
 (d2, i3, o4)
def scan (s : Scan) (l : List Tok) : Scan := l.foldl scan1 s
theorem isT_no {t : Tok} {c : UInt8} (h : bad2 t = false) (hc : c = 123 ∨ c = 125) : isT 3 [c] t = false := by
 cases hx : isT 3 [c] t
 ·rfl
 ·exfalso
  unfold isT at hx
  simp only [Bool.and_eq_true, beq_iff_eq] at hx
  unfold bad2 at h
  rw [hx.1, hx.2] at h
  rcases hc with rfl | rfl <;> cases h
theorem kw_no {t : Tok} (h : bad2 t = false) : (t.1 == 1 && (t.2.1 == [118, 97, 114] || t.2.1 == [112, 114, 111, 99])) = false := by
 unfold bad2 at h
 simp only [Bool.or_eq_false_iff, List.contains_cons, List.contains_nil, Bool.or_false] at h
 exact h.2
theorem semi_no {t : Tok} (h : bad t = false) : isT 3 [59] t = false := by
 cases hx : isT 3 [59] t
 ·rfl
 ·exfalso
  unfold isT at hx
  simp only [Bool.and_eq_true, beq_iff_eq] at hx
  unfold bad at h
  rw [hx.1, hx.2] at h
  cases h
theorem scan1_bad {d i : Int} {o : Bool} {t : Tok} (h : bad t = false) : scan1 (d, i, o) t = (d, i, o) := by
 have h2 := bad_bad2 h
 simp only [scan1, isT_no h2 (.inl rfl), isT_no h2 (.inr rfl), semi_no h, kw_no h2, Bool.false_and, cond_false]
theorem scan1_bad2 {i : Int} {o : Bool} {t : Tok} (h2 : bad2 t = false) : scan1 (1, i, o) t = (1, i, o) := by
 simp only [scan1, isT_no h2 (.inl rfl), isT_no h2 (.inr rfl), kw_no h2, cond_false]
 cases isT 3 [59] t <;> rfl
theorem scan_bad {d i : Int} {o : Bool} : ∀ {l : List Tok}, (∀ t ∈ l, bad t = false) → scan (d, i, o) l = (d, i, o)
 | [], _ => rfl
 | t :: l, h => by
  show scan (scan1 (d, i, o) t) l = _
  rw [scan1_bad (h t (by simp))]
  exact scan_bad (fun u hu => h u (List.mem_cons_of_mem _ hu))
theorem scan_bad2 {i : Int} {o : Bool} : ∀ {l : List Tok}, (∀ t ∈ l, bad2 t = false) → scan (1, i, o) l = (1, i, o)
 | [], _ => rfl
 | t :: l, h => by
  show scan (scan1 (1, i, o) t) l = _
  rw [scan1_bad2 (h t (by simp))]
  exact scan_bad2 (fun u hu => h u (List.mem_cons_of_mem _ hu))
theorem isT_two {t : Tok} {c d : UInt8} (h : isT 3 [c] t = true) (hn : c ≠ d) : isT 3 [d] t = false := by
 unfold isT at *
 simp only [Bool.and_eq_true, beq_iff_eq] at h
 rw [h.1, h.2]
 simpa using hn
theorem sign_kw {t : Tok} {c : UInt8} (h : isT 3 [c] t = true) : (t.1 == 1 && (t.2.1 == [118, 97, 114] || t.2.1 == [112, 114, 111, 99])) = false := by
 unfold isT at h
 simp only [Bool.and_eq_true, beq_iff_eq] at h
 rw [h.1]; rfl
theorem scan1_semi {i : Int} {o : Bool} {t : Tok} (h : isT 3 [59] t = true) : scan1 (0, i, o) t = (0, i + 1, false) := by
 simp only [scan1, h, isT_two h (show (59 : UInt8) ≠ 123 by decide), isT_two h (show (59 : UInt8) ≠ 125 by decide), sign_kw h]
 rfl
theorem scan1_open {i : Int} {o : Bool} {t : Tok} (h : isT 3 [123] t = true) : scan1 (0, i, o) t = (1, i, o) := by
 simp only [scan1, h, isT_two h (show (123 : UInt8) ≠ 59 by decide), isT_two h (show (123 : UInt8) ≠ 125 by decide), sign_kw h]
 rfl
theorem scan1_close {i : Int} {o : Bool} {t : Tok} (h : isT 3 [125] t = true) : scan1 (1, i, o) t = (0, i, false) := by
 simp only [scan1, h, isT_two h (show (125 : UInt8) ≠ 59 by decide), isT_two h (show (125 : UInt8) ≠ 123 by decide), sign_kw h]
 rfl
theorem scan1_kw {i : Int} {o : Bool} {t : Tok} (h : isT 1 [118, 97, 114] t = true ∨ isT 1 [112, 114, 111, 99] t = true) : scan1 (0, i, o) t = (0, i, true) := by
 have h1 : t.1 = 1 ∧ (t.2.1 == [118, 97, 114] || t.2.1 == [112, 114, 111, 99]) = true := by
  unfold isT at h
  simp only [Bool.and_eq_true] at h
  rcases h with h | h
  ·exact ⟨beq_iff_eq.1 h.1, by rw [h.2]; rfl⟩
  ·exact ⟨beq_iff_eq.1 h.1, by rw [h.2]; simp⟩
 have e : ∀ c : UInt8, isT 3 [c] t = false := fun c => by unfold isT; rw [h1.1]; rfl
 simp only [scan1, e, h1.1, h1.2, Bool.false_and, cond_false]
 rfl
theorem first_one {q : Tok → Bool} : ∀ {a b r s : List Tok} {x y : Tok}, a ++ x :: r = b ++ y :: s → (∀ t ∈ a, q t = false) → (∀ t ∈ b, q t = false) → q x = true → q y = true → a = b ∧ x = y ∧ r = s
 | [], [], r, s, x, y, h, _, _, _, _ => by cases h; exact ⟨rfl, rfl, rfl⟩
 | [], t :: b, r, s, x, y, h, _, hb, hx, _ => by
  cases h
  have := hb t (by simp)
  rw [this] at hx; cases hx
 | t :: a, [], r, s, x, y, h, ha, _, _, hy => by
  cases h
  have := ha t (by simp)
  rw [this] at hy; cases hy
 | t :: a, u :: b, r, s, x, y, h, ha, hb, hx, hy => by
  simp only [List.cons_append, List.cons.injEq] at h
  obtain ⟨h1, h2⟩ := h
  obtain ⟨e1, e2, e3⟩ := first_one h2 (fun t ht => ha t (List.mem_cons_of_mem _ ht)) (fun t ht => hb t (List.mem_cons_of_mem _ ht)) hx hy
  exact ⟨by rw [h1, e1], e2, e3⟩
def Stop (z : Tok) : Prop := z.1 = 4 ∨ isT 1 [118, 97, 114] z = true
theorem Stop.bad2 {z : Tok} (h : Stop z) : bad2 z = true := by
 unfold Mo.bad2
 rcases h with h | h
 ·rw [h]; rfl
 ·unfold isT at h
  simp only [Bool.and_eq_true, beq_iff_eq] at h
  rw [h.1, h.2]; rfl
theorem Stop.bad {z : Tok} (h : Stop z) : bad z = true := by
 cases hb : Pa.bad z
 ·have := bad_bad2 hb
  rw [h.bad2] at this; cases this
 ·rfl
theorem Stop.not3 {z : Tok} (h : Stop z) (c : UInt8) : isT 3 [c] z = false := by
 unfold isT
 rcases h with h | h
 ·rw [h]; rfl
 ·unfold isT at h
  simp only [Bool.and_eq_true, beq_iff_eq] at h
  rw [h.1]; rfl
theorem isT_bad {t : Tok} {c : UInt8} (h : isT 3 [c] t = true) (hc : c = 123 ∨ c = 125 ∨ c = 59) : bad t = true := by
 unfold isT at h
 simp only [Bool.and_eq_true, beq_iff_eq] at h
 unfold Pa.bad
 rw [h.1, h.2]
 rcases hc with rfl | rfl | rfl <;> rfl
theorem isT_bad2t {t : Tok} {c : UInt8} (h : isT 3 [c] t = true) (hc : c = 123 ∨ c = 125) : bad2 t = true := by
 unfold isT at h
 simp only [Bool.and_eq_true, beq_iff_eq] at h
 unfold bad2
 rw [h.1, h.2]
 rcases hc with rfl | rfl <;> rfl
theorem sVar_cut {m : Mdl} {a b z' : List Tok} {z : Tok} (ha : ∀ t ∈ a, bad t = false) (hz : Stop z) (hb : b <+: a) (hE : Pa.Ends (b ++ z :: z')) : ∃ e, sVar m (b ++ z :: z') = .error e := by
 cases h : sVar m (b ++ z :: z') with
 | error e => exact ⟨e, rfl⟩
 | ok p =>
  exfalso
  obtain ⟨m1, r1⟩ := p
  obtain ⟨a2, c2, _, _, _, _, e, h2, hc2, _⟩ := sVar_l hE h
  obtain ⟨_, e2, _⟩ := first_one e (fun t ht => ha t (hb.mem ht)) h2 hz.bad (isT_bad hc2 (.inr (.inr rfl)))
  rw [← e2, hz.not3] at hc2; cases hc2
theorem sProc_cut {m : Mdl} {a b z' : List Tok} {x o z : Tok} (hk : NK m) (_hx : bad x = false) (_ho : isT 3 [123] o = true) (ha : ∀ t ∈ a, bad2 t = false) (hz : Stop z) (hb : b <+: x :: o :: a) (hE : Pa.Ends (b ++ z :: z')) : ∃ e, sProc m (b ++ z :: z') = .error e := by
 cases h : sProc m (b ++ z :: z') with
 | error e => exact ⟨e, rfl⟩
 | ok p =>
  exfalso
  obtain ⟨m1, r1⟩ := p
  obtain ⟨x2, o2, a2, c2, _, _, e, hx2, _, ho2, ha2, hc2, _⟩ := sProc_l hE hk h
  match b, hb with
  | [], _ =>
   simp only [List.nil_append, List.cons.injEq] at e
   rw [← e.1, hz.bad] at hx2; cases hx2
  | [y], _ =>
   simp only [List.cons_append, List.nil_append, List.cons.injEq] at e
   rw [← e.2.1, hz.not3] at ho2; cases ho2
  | y :: u :: b', hb =>
   simp only [List.cons_append, List.cons.injEq] at e
   have hb' : b' <+: a := by
    obtain ⟨s, hs⟩ := hb
    simp only [List.cons_append, List.cons.injEq] at hs
    exact ⟨s, hs.2.2⟩
   obtain ⟨_, e2, _⟩ := first_one e.2.2 (fun t ht => ha t (hb'.mem ht)) ha2 hz.bad2 (isT_bad2t hc2 (.inr rfl))
   rw [← e2, hz.not3] at hc2; cases hc2
end Mo
end Go.Proofs.YtdhgpnejphlfpaaDoor
namespace Go.Proofs.YtdhgpnejphlfpaaDoor
namespace Mo
open Pa Sy
open Lx (strip)
structure Le (m p : Mdl) : Prop where
 names : m.1 <+: p.1
 procs : m.2.2.2.1 <+: p.2.2.2.1
 cmds : m.2.2.2.2.length ≤ p.2.2.2.2.length
theorem Le.refl (m : Mdl) : Le m m := ⟨List.prefix_refl _, List.prefix_refl _, Nat.le_refl _⟩
theorem Le.trans {a b c : Mdl} (h : Le a b) (k : Le b c) : Le a c := ⟨h.names.trans k.names, h.procs.trans k.procs, Nat.le_trans h.cmds k.cmds⟩
theorem Fit.le {m0 m p : Mdl} (h : Fit m0 p) (k : Le m p) : Fit m0 m := ⟨fun x hx => h.free x (by
  rcases hx with hx | hx
  ·exact .inl (k.names.mem hx)
  ·exact .inr (k.procs.mem hx)), by have := h.names; have := k.names.length_le; omega, by have := h.procs; have := k.procs.length_le; omega, by have := h.cmds; have := k.cmds; omega⟩
theorem items_step {f : Nat} {m p : Mdl} {t : Tok} {r : List Tok} (h : sItems (f + 1) m (t :: r) = .ok p) :
  (t.1 = 4 ∧ m.1 ≠ [] ∧ p = m) ∨ (t.1 ≠ 4 ∧ isT 1 [118, 97, 114] t = true ∧ ∃ m1 r1, sVar m r = .ok (m1, r1) ∧ sItems f m1 r1 = .ok p) ∨ (t.1 ≠ 4 ∧ isT 1 [118, 97, 114] t = false ∧ isT 1 [112, 114, 111, 99] t = true ∧ ∃ m1 r1, sProc m r = .ok (m1, r1) ∧ sItems f m1 r1 = .ok p) := by
 simp only [sItems] at h
 cases c4 : (t.1 == 4)
 ·rw [c4] at h
  simp only [cond_false] at h
  have h4 : t.1 ≠ 4 := by simpa using c4
  cases cv : isT 1 [118, 97, 114] t
  ·rw [cv] at h
   simp only [cond_false] at h
   cases cp : isT 1 [112, 114, 111, 99] t
   ·rw [cp] at h; cases h
   ·rw [cp] at h
    simp only [cond_true] at h
    cases h1 : sProc m r with
    | error e => rw [h1] at h; cases h
    | ok q => rw [h1] at h; exact .inr (.inr ⟨h4, rfl, rfl, q.1, q.2, rfl, h⟩)
  ·rw [cv] at h
   simp only [cond_true] at h
   cases h1 : sVar m r with
   | error e => rw [h1] at h; cases h
   | ok q => rw [h1] at h; exact .inr (.inl ⟨h4, rfl, q.1, q.2, rfl, h⟩)
 ·rw [c4] at h
  simp only [cond_true] at h
  cases hne : m.1.isEmpty
  ·rw [hne] at h
   cases h
   exact .inl ⟨by simpa using c4, fun e => (by rw [e] at hne; cases hne), rfl⟩
  ·rw [hne] at h; cases h
theorem items_var {g : Nat} {M M1 : Mdl} {t t' : Tok} {r r' : List Tok} (hv : isT 1 [118, 97, 114] t = true) (ht : strip t' = strip t) (h : sVar M r = .ok (M1, r')) : sItems (g + 1) M (t' :: r) = sItems g M1 r' := by
 have h4 : (t'.1 == 4) = false := by
  rw [st1 ht]
  exact beq_eq_false_iff_ne.2 (isT_ne hv (by decide))
 simp only [sItems, h4, tl_isT ht, hv, cond_false, cond_true, h]
theorem items_proc {g : Nat} {M M1 : Mdl} {t t' : Tok} {r r' : List Tok} (hv : isT 1 [118, 97, 114] t = false) (hp : isT 1 [112, 114, 111, 99] t = true) (ht : strip t' = strip t) (h : sProc M r = .ok (M1, r')) : sItems (g + 1) M (t' :: r) = sItems g M1 r' := by
 have h4 : (t'.1 == 4) = false := by
  rw [st1 ht]
  exact beq_eq_false_iff_ne.2 (isT_ne hp (by decide))
 simp only [sItems, h4, tl_isT ht, hv, hp, cond_false, cond_true, h]
theorem items_var_e {g : Nat} {M : Mdl} {t : Tok} {r : List Tok} {e : Err} (hv : isT 1 [118, 97, 114] t = true) (h : sVar M r = .error e) : sItems (g + 1) M (t :: r) = .error e := by
 have h4 : (t.1 == 4) = false := beq_eq_false_iff_ne.2 (isT_ne hv (by decide))
 simp only [sItems, h4, hv, cond_false, cond_true, h]
theorem items_proc_e {g : Nat} {M : Mdl} {t : Tok} {r : List Tok} {e : Err} (hv : isT 1 [118, 97, 114] t = false) (hp : isT 1 [112, 114, 111, 99] t = true) (h : sProc M r = .error e) : sItems (g + 1) M (t :: r) = .error e := by
 have h4 : (t.1 == 4) = false := beq_eq_false_iff_ne.2 (isT_ne hp (by decide))
 simp only [sItems, h4, hv, hp, cond_false, cond_true, h]
theorem not4 {t : Tok} (h : bad2 t = false) : t.1 ≠ 4 := by
 intro e
 unfold bad2 at h
 rw [e] at h; cases h
theorem items_l : ∀ (f : Nat) (m p : Mdl) (ts : List Tok), Pa.Ends ts → NK m → sItems f m ts = .ok p →
  ∃ a z r, ts = a ++ z :: r ∧ z.1 = 4 ∧ (∀ t ∈ a, t.1 ≠ 4) ∧ NK p ∧ Le m p ∧ p.1 ≠ [] ∧ 4 * p.2.2.2.2.length ≤ 4 * m.2.2.2.2.length + a.length ∧
   ∀ (m0 M : Mdl) a' r' f', RM m0 m M → Fit m0 p → tl a a' → a'.length < f' → ∃ g M1, f' ≤ g + a'.length ∧ sItems f' M (a' ++ r') = sItems g M1 r' ∧ RM m0 p M1 := by
 intro f
 induction f with
 | zero => intro _ _ _ _ _ h; simp [sItems] at h
 | succ f ih =>
  intro m p ts he hk h
  obtain ⟨t, r, rfl⟩ := he.ne
  rcases items_step h with ⟨h4, hne, rfl⟩ | ⟨h4, hv, m1, r1, h1, h2⟩ | ⟨h4, hv, hp, m1, r1, h1, h2⟩
  ·exact ⟨[], t, r, rfl, h4, fun u hu => (by cases hu), hk, Le.refl _, hne, by simp, fun m0 M a' r' f' hM hF ha hf => by
    have : a' = [] := by simpa [tl] using ha
    subst this
    exact ⟨f', M, by simp, rfl, hM⟩⟩
  ·obtain ⟨a, c, name, lo, hi, fi, rfl, hb, hc, her, hm1, hkn, hl⟩ := sVar_l (he.tail h4) h1
   have hk1 : NK m1 := by
    rw [hm1]
    intro n hn
    rcases List.mem_append.1 hn with hn | hn
    ·exact hk n hn
    ·rw [List.mem_singleton.1 hn]; exact hkn
   obtain ⟨a2, z, r2, rfl, hz, hn4, hkp, hle, hne, hcm, hl2⟩ := ih m1 p r1 her hk1 h2
   have hle1 : Le m m1 := by rw [hm1]; exact ⟨List.prefix_append _ _, List.prefix_refl _, Nat.le_refl _⟩
   refine ⟨t :: (a ++ c :: a2), z, r2, by simp, hz, fun u hu => ?_, hkp, hle1.trans hle, hne, ?_, fun m0 M a' r' f' hM hF ha hf => ?_⟩
   ·rcases List.mem_cons.1 hu with rfl | hu
    ·exact h4
    ·rcases List.mem_append.1 hu with hu | hu
     ·exact not4 (bad_bad2 (hb u hu))
     ·rcases List.mem_cons.1 hu with rfl | hu
      ·exact isT_ne hc (by decide)
      ·exact hn4 u hu
   ·rw [hm1] at hcm
    simp only [List.length_cons, List.length_append] at hcm ⊢
    omega
   ·obtain ⟨t', b, rfl, ht', hb'⟩ := map_cons ha
    obtain ⟨b1, b2, rfl, hb1, hb2⟩ := map_app hb'
    obtain ⟨c', b3, rfl, hc', hb3⟩ := map_cons hb2
    obtain ⟨M1, q1, q2⟩ := hl m0 M b1 c' (b3 ++ r') hM (hF.le hle) hb1 hc'
    obtain ⟨n, rfl⟩ : ∃ n, f' = n + 1 := ⟨f' - 1, by omega⟩
    simp only [List.length_cons, List.length_append] at hf
    obtain ⟨g, M2, g1, g2, g3⟩ := hl2 m0 M1 b3 r' n q2 hF hb3 (by omega)
    refine ⟨g, M2, by simp only [List.length_cons, List.length_append]; omega, ?_, g3⟩
    rw [List.cons_append, List.append_assoc, List.cons_append, items_var hv ht' q1, g2]
  ·obtain ⟨x, o, a, c, name, C, rfl, hx, hx1, ho, hb, hc, her, hm1, hC, hl⟩ := sProc_l (he.tail h4) hk h1
   have hk1 : NK m1 := by rw [hm1]; exact hk
   obtain ⟨a2, z, r2, rfl, hz, hn4, hkp, hle, hne, hcm, hl2⟩ := ih m1 p r1 her hk1 h2
   have hle1 : Le m m1 := by rw [hm1]; exact ⟨List.prefix_refl _, List.prefix_append _ _, by simp⟩
   refine ⟨t :: x :: o :: (a ++ c :: a2), z, r2, by simp, hz, fun u hu => ?_, hkp, hle1.trans hle, hne, ?_, fun m0 M a' r' f' hM hF ha hf => ?_⟩
   ·rcases List.mem_cons.1 hu with rfl | hu
    ·exact h4
    ·rcases List.mem_cons.1 hu with rfl | hu
     ·rw [hx1]; decide
     ·rcases List.mem_cons.1 hu with rfl | hu
      ·exact isT_ne ho (by decide)
      ·rcases List.mem_append.1 hu with hu | hu
       ·exact not4 (hb u hu)
       ·rcases List.mem_cons.1 hu with rfl | hu
        ·exact isT_ne hc (by decide)
        ·exact hn4 u hu
   ·rw [hm1] at hcm
    simp only [List.length_cons, List.length_append] at hcm ⊢
    omega
   ·obtain ⟨t', b, rfl, ht', hb'⟩ := map_cons ha
    obtain ⟨x', b0, rfl, hx', hb0⟩ := map_cons hb'
    obtain ⟨o', b00, rfl, ho', hb00⟩ := map_cons hb0
    obtain ⟨b1, b2, rfl, hb1, hb2⟩ := map_app hb00
    obtain ⟨c', b3, rfl, hc', hb3⟩ := map_cons hb2
    obtain ⟨M1, q1, q2⟩ := hl m0 M x' o' b1 c' (b3 ++ r') hM (hF.le hle) hx' ho' hb1 hc'
    obtain ⟨n, rfl⟩ : ∃ n, f' = n + 1 := ⟨f' - 1, by omega⟩
    simp only [List.length_cons, List.length_append] at hf
    obtain ⟨g, M2, g1, g2, g3⟩ := hl2 m0 M1 b3 r' n q2 hF hb3 (by omega)
    refine ⟨g, M2, by simp only [List.length_cons, List.length_append]; omega, ?_, g3⟩
    simp only [List.cons_append, List.append_assoc]
    rw [items_proc hv hp ht' q1, g2]
def E0 : Mdl := ([], [], [], [], [])
theorem RM.self (m : Mdl) : RM E0 m m := ⟨rfl, rfl, rfl, rfl, by
 simp only [E0, List.map_nil, List.nil_append, List.length_nil]
 refine List.map_congr_left fun c _ => ?_
 obtain ⟨i, g, s⟩ := c
 unfold clrC shC
 simp only [Prod.mk.injEq]
 refine ⟨by omega, rfl, List.map_congr_left fun s _ => ?_⟩
 unfold clrS shS
 simp only [Prod.mk.injEq]
 exact ⟨by omega, rfl⟩⟩
theorem RM.none (m : Mdl) : RM m E0 m := ⟨by simp [E0], by simp [E0], by simp [E0], by simp [E0], by simp [E0]⟩
structure Few (p : Mdl) : Prop where
 names : p.1.length ≤ 16
 procs : p.2.2.2.1.length < 1000000
 cmds : p.2.2.2.2.length ≤ 256
theorem Few.fit {p : Mdl} (h : Few p) : Fit E0 p := ⟨fun x _ => ⟨List.not_mem_nil, List.not_mem_nil⟩, by have := h.names; simp [E0]; omega, by have := h.procs; simp [E0]; omega, by have := h.cmds; simp [E0]; omega⟩
theorem ends_app : ∀ {a b : List Tok}, Pa.Ends (a ++ b) → b ≠ [] → Pa.Ends b
 | [], _, h, _ => h
 | t :: a, b, h, hb => by
  rcases h with h | ⟨h, _⟩
  ·exact ends_app h hb
  ·exfalso
   have : b = [] := (List.append_eq_nil_iff.1 h).2
   exact hb this
theorem cut_l : ∀ (f : Nat) (m p : Mdl) (ts : List Tok), Pa.Ends ts → NK m → Few p → sItems f m ts = .ok p → ∀ (k : Nat) (i0 : Int), k < ts.length → (∀ t ∈ ts.take k, t.1 ≠ 4) →
  (∃ mk, scan (0, i0, false) (ts.take k) = (0, i0 + (mk.1.length - m.1.length : Nat), false) ∧ m.1.length ≤ mk.1.length ∧ mk.1.length ≤ p.1.length ∧ NK mk ∧
   ∀ (M : Mdl) r' f', RM E0 m M → k < f' → ∃ g Mk, f' ≤ g + k ∧ sItems f' M (ts.take k ++ r') = sItems g Mk r' ∧ RM E0 mk Mk) ∨
  (∃ d i, scan (0, i0, false) (ts.take k) = (d, i, true) ∧ ∀ (M : Mdl) z z' f', RM E0 m M → Stop z → Pa.Ends (ts.take k ++ z :: z') → ∃ e, sItems f' M (ts.take k ++ z :: z') = .error e) := by
 intro f
 induction f with
 | zero => intro _ _ _ _ _ _ h; simp [sItems] at h
 | succ f ih =>
  intro m p ts he hk hF h k i0 hkl hk4
  obtain ⟨t, r, rfl⟩ := he.ne
  cases k with
  | zero =>
   refine .inl ⟨m, by simp [scan], Nat.le_refl _, ?_, hk, fun M r' f' hM hf => ⟨f', M, by omega, rfl, hM⟩⟩
   obtain ⟨_, _, _, _, _, _, _, hle, _⟩ := items_l (f + 1) m p (t :: r) he hk h
   exact hle.names.length_le
  | succ k =>
   rw [List.take_succ_cons] at hk4 ⊢
   have ht4 : t.1 ≠ 4 := hk4 t (by simp)
   simp only [List.length_cons] at hkl
   rcases items_step h with ⟨h4, _, _⟩ | ⟨_, hv, m1, r1, h1, h2⟩ | ⟨_, hv, hp, m1, r1, h1, h2⟩
   ·exact absurd h4 ht4
   ·obtain ⟨a, c, name, lo, hi, fi, rfl, hb, hc, her, hm1, hkn, hl⟩ := sVar_l (he.tail ht4) h1
    have hk1 : NK m1 := by
     rw [hm1]
     intro n hn
     rcases List.mem_append.1 hn with hn | hn
     ·exact hk n hn
     ·rw [List.mem_singleton.1 hn]; exact hkn
    have hle : Le m1 p := (items_l f m1 p r1 her hk1 h2).choose_spec.choose_spec.choose_spec.2.2.2.2.1
    have hs1 : scan1 (0, i0, false) t = (0, i0, true) := scan1_kw (.inl hv)
    rcases Nat.lt_or_ge a.length k with hka | hka
    · -- behind the item
     have hL : m1.1.length = m.1.length + 1 := by rw [hm1]; simp
     have htk : (a ++ c :: r1).take k = a ++ c :: r1.take (k - a.length - 1) := by
      rw [List.take_append, List.take_of_length_le (by omega)]
      congr 1
      obtain ⟨j, hj⟩ : ∃ j, k - a.length = j + 1 := ⟨k - a.length - 1, by omega⟩
      rw [hj, List.take_succ_cons]; congr 2
     have hsc : scan (0, i0, false) (t :: (a ++ c :: r1.take (k - a.length - 1))) = scan (0, i0 + 1, false) (r1.take (k - a.length - 1)) := by
      show scan (scan1 (0, i0, false) t) _ = _
      rw [hs1]
      unfold scan
      rw [List.foldl_append]
      have := scan_bad (d := 0) (i := i0) (o := true) hb
      unfold scan at this
      rw [this]
      show List.foldl scan1 (scan1 (0, i0, true) c) _ = _
      rw [scan1_semi hc]
     rw [htk] at hk4 ⊢
     have hlr : k - a.length - 1 < r1.length := by simp only [List.length_append, List.length_cons] at hkl; omega
     rcases ih m1 p r1 her hk1 hF h2 (k - a.length - 1) (i0 + 1) hlr (fun u hu => hk4 u (by simp [hu])) with ⟨mk, g1, g2, g3, g4, g5⟩ | ⟨d, i, g1, g2⟩
     ·refine .inl ⟨mk, ?_, by omega, g3, g4, fun M r' f' hM hf => ?_⟩
      ·rw [hsc, g1]
       congr 2
       omega
      ·obtain ⟨M1, q1, q2⟩ := hl E0 M a c (r1.take (k - a.length - 1) ++ r') hM (hF.fit.le hle) rfl rfl
       obtain ⟨n, rfl⟩ : ∃ n, f' = n + 1 := ⟨f' - 1, by omega⟩
       obtain ⟨g, Mk, w1, w2, w3⟩ := g5 M1 r' n q2 (by omega)
       refine ⟨g, Mk, by omega, ?_, w3⟩
       rw [List.cons_append, List.append_assoc, List.cons_append, items_var hv rfl q1, w2]
     ·refine .inr ⟨d, i, by rw [hsc, g1], fun M z z' f' hM hz hE => ?_⟩
      obtain ⟨M1, q1, q2⟩ := hl E0 M a c (r1.take (k - a.length - 1) ++ z :: z') hM (hF.fit.le hle) rfl rfl
      cases f' with
      | zero => exact ⟨_, rfl⟩
      | succ n =>
       obtain ⟨e, he'⟩ := g2 M1 z z' n q2 hz (ends_app (a := t :: (a ++ [c])) (by simpa using hE) (by simp))
       exact ⟨e, by rw [List.cons_append, List.append_assoc, List.cons_append, items_var hv rfl q1, he']⟩
    · -- within the item
     have htk : (a ++ c :: r1).take k = a.take k := by rw [List.take_append_of_le_length hka]
     rw [htk] at hk4 ⊢
     refine .inr ⟨0, i0, ?_, fun M z z' f' hM hz hE => ?_⟩
     ·show scan (scan1 (0, i0, false) t) _ = _
      rw [hs1]
      exact scan_bad (fun u hu => hb u (List.mem_of_mem_take hu))
     ·cases f' with
      | zero => exact ⟨_, rfl⟩
      | succ n =>
       obtain ⟨e, he'⟩ := sVar_cut (m := M) (z' := z') hb hz (List.take_prefix k a) (hE.tail ht4)
       exact ⟨e, items_var_e hv he'⟩
   ·obtain ⟨x, o, a, c, name, C, rfl, hx, hx1, ho, hb, hc, her, hm1, hC, hl⟩ := sProc_l (he.tail ht4) hk h1
    have hk1 : NK m1 := by rw [hm1]; exact hk
    have hle : Le m1 p := (items_l f m1 p r1 her hk1 h2).choose_spec.choose_spec.choose_spec.2.2.2.2.1
    have hs1 : scan1 (0, i0, false) t = (0, i0, true) := scan1_kw (.inr hp)
    have hsx : scan1 (0, i0, true) x = (0, i0, true) := scan1_bad hx
    have hso : scan1 (0, i0, true) o = (1, i0, true) := scan1_open ho
    have hMk : ∀ M, RM E0 m M → NK M := fun M hM => by
     intro n hn
     rw [hM.names] at hn
     exact hk n (by simpa [E0] using hn)
    rcases Nat.lt_or_ge (a.length + 2) k with hka | hka
    ·have hL : m1.1.length = m.1.length := by rw [hm1]
     have htk : (x :: o :: (a ++ c :: r1)).take k = x :: o :: (a ++ c :: r1.take (k - a.length - 3)) := by
      obtain ⟨j, rfl⟩ : ∃ j, k = j + 2 := ⟨k - 2, by omega⟩
      rw [List.take_succ_cons, List.take_succ_cons, List.take_append, List.take_of_length_le (by omega)]
      congr 3
      obtain ⟨q, hq⟩ : ∃ q, j - a.length = q + 1 := ⟨j - a.length - 1, by omega⟩
      rw [hq, List.take_succ_cons]; congr 2; omega
     have hsc : scan (0, i0, false) (t :: x :: o :: (a ++ c :: r1.take (k - a.length - 3))) = scan (0, i0, false) (r1.take (k - a.length - 3)) := by
      show scan (scan1 (scan1 (scan1 (0, i0, false) t) x) o) _ = _
      rw [hs1, hsx, hso]
      unfold scan
      rw [List.foldl_append]
      have := scan_bad2 (i := i0) (o := true) hb
      unfold scan at this
      rw [this]
      show List.foldl scan1 (scan1 (1, i0, true) c) _ = _
      rw [scan1_close hc]
     rw [htk] at hk4 ⊢
     have hlr : k - a.length - 3 < r1.length := by simp only [List.length_append, List.length_cons] at hkl; omega
     rcases ih m1 p r1 her hk1 hF h2 (k - a.length - 3) i0 hlr (fun u hu => hk4 u (by simp [hu])) with ⟨mk, g1, g2, g3, g4, g5⟩ | ⟨d, i, g1, g2⟩
     ·refine .inl ⟨mk, ?_, by omega, g3, g4, fun M r' f' hM hf => ?_⟩
      ·rw [hsc, g1, hL]
      ·obtain ⟨M1, q1, q2⟩ := hl E0 M x o a c (r1.take (k - a.length - 3) ++ r') hM (hF.fit.le hle) rfl rfl rfl rfl
       obtain ⟨n, rfl⟩ : ∃ n, f' = n + 1 := ⟨f' - 1, by omega⟩
       obtain ⟨g, Mk, w1, w2, w3⟩ := g5 M1 r' n q2 (by omega)
       refine ⟨g, Mk, by omega, ?_, w3⟩
       simp only [List.cons_append, List.append_assoc]
       rw [items_proc hv hp rfl q1, w2]
     ·refine .inr ⟨d, i, by rw [hsc, g1], fun M z z' f' hM hz hE => ?_⟩
      obtain ⟨M1, q1, q2⟩ := hl E0 M x o a c (r1.take (k - a.length - 3) ++ z :: z') hM (hF.fit.le hle) rfl rfl rfl rfl
      cases f' with
      | zero => exact ⟨_, rfl⟩
      | succ n =>
       obtain ⟨e, he'⟩ := g2 M1 z z' n q2 hz (ends_app (a := t :: x :: o :: (a ++ [c])) (by simpa using hE) (by simp))
       refine ⟨e, ?_⟩
       simp only [List.cons_append, List.append_assoc]
       rw [items_proc hv hp rfl q1, he']
    ·have htk : (x :: o :: (a ++ c :: r1)).take k = (x :: o :: a).take k := by
      have : x :: o :: (a ++ c :: r1) = (x :: o :: a) ++ c :: r1 := by simp
      rw [this, List.take_append_of_le_length (by simp only [List.length_cons]; omega)]
     rw [htk] at hk4 ⊢
     refine .inr ?_
     have hsc : ∃ d, scan (0, i0, false) (t :: (x :: o :: a).take k) = (d, i0, true) := by
      match k with
      | 0 => exact ⟨0, by show scan1 (0, i0, false) t = _; exact hs1⟩
      | 1 => exact ⟨0, by show scan1 (scan1 (0, i0, false) t) x = _; rw [hs1, hsx]⟩
      | j + 2 =>
       refine ⟨1, ?_⟩
       rw [List.take_succ_cons, List.take_succ_cons]
       show scan (scan1 (scan1 (scan1 (0, i0, false) t) x) o) _ = _
       rw [hs1, hsx, hso]
       exact scan_bad2 (fun u hu => hb u (List.mem_of_mem_take hu))
     obtain ⟨d, hsc⟩ := hsc
     refine ⟨d, i0, hsc, fun M z z' f' hM hz hE => ?_⟩
     cases f' with
     | zero => exact ⟨_, rfl⟩
     | succ n =>
      obtain ⟨e, he'⟩ := sProc_cut (m := M) (z' := z') (hMk M hM) hx ho hb hz (List.take_prefix k (x :: o :: a)) (hE.tail ht4)
      exact ⟨e, items_proc_e hv hp he'⟩
end Mo
end Go.Proofs.YtdhgpnejphlfpaaDoor
namespace Go.Proofs.YtdhgpnejphlfpaaDoor
namespace Lx
theorem lex_len {s : Str} {l : List Tok} (h : lex s = .ok l) : 1 ≤ l.length ∧ l.length ≤ s.length + 1 := by
 constructor
 ·have := lex_ok_ne _ _ h
  cases l with
  | nil => exact absurd rfl this
  | cons x l => simp
 ·exact (Sy.lex_good h).len
theorem lex_last : ∀ (s : Str) (l : List Tok), lex s = .ok l → l.getLast? = some (4, [], 0, (s.length : Int)) := by
 intro s
 refine lex_ind (P := fun s => ∀ (l : List Tok), lex s = .ok l → l.getLast? = some (4, [], 0, (s.length : Int))) ?_ ?_ ?_ ?_ s
 ·intro l h; rw [lex_nil] at h; cases h; rfl
 ·intro c s k hst ih l h
  rw [lex_skip hst] at h
  obtain ⟨hk1, hk2⟩ := step_skip hst
  cases hl : lex ((c :: s).drop k) with
  | ok l' =>
   rw [hl] at h; simp only [shE, Except.ok.injEq] at h
   subst h
   rw [List.getLast?_map, ih l' hl]
   simp only [Option.map_some, shT, List.length_drop]
   congr 4
   omega
  | error e => rw [hl] at h; cases h
 ·intro c s e hst l h; rw [lex_err hst] at h; cases h
 ·intro c s k t n hst ih l h
  rw [lex_tok hst] at h
  obtain ⟨_, _, h1, h2⟩ := step_tok hst
  have hk2 := h2.length_le
  cases hl : lex ((c :: s).drop t.length) with
  | ok l' =>
   rw [hl] at h; simp only [shE, consE, Except.ok.injEq] at h
   subst h
   rw [List.getLast?_cons, List.getLast?_map, ih l' hl]
   simp only [Option.map_some, shT, List.length_drop, Option.getD_some]
   congr 4
   omega
  | error e => rw [hl] at h; cases h
def Whole (x : Tok) : Prop := (∃ c s, x.2.1 = c :: s ∧ (c == 35) = false) ∧ step x.2.1 = .tok x.1 x.2.1 x.2.2.1
theorem lex_whole : ∀ (s : Str) (l : List Tok), lex s = .ok l → ∀ x ∈ l.dropLast, Whole x := by
 intro s
 refine lex_ind (P := fun s => ∀ (l : List Tok), lex s = .ok l → ∀ x ∈ l.dropLast, Whole x) ?_ ?_ ?_ ?_ s
 ·intro l h; rw [lex_nil] at h; cases h; simp
 ·intro c s k hst ih l h x hx
  rw [lex_skip hst] at h
  cases hl : lex ((c :: s).drop k) with
  | ok l' =>
   rw [hl] at h; simp only [shE, Except.ok.injEq] at h
   subst h
   rw [← List.map_dropLast] at hx
   obtain ⟨y, hy, rfl⟩ := List.mem_map.1 hx
   exact ih l' hl y hy
  | error e => rw [hl] at h; cases h
 ·intro c s e hst l h; rw [lex_err hst] at h; cases h
 ·intro c s k t n hst ih l h x hx
  rw [lex_tok hst] at h
  cases hl : lex ((c :: s).drop t.length) with
  | ok l' =>
   rw [hl] at h; simp only [shE, consE, Except.ok.injEq] at h
   subst h
   have hne := lex_ok_ne _ _ hl
   rw [List.dropLast_cons_of_ne_nil (by simpa using hne)] at hx
   rcases List.mem_cons.1 hx with rfl | hx
   ·obtain ⟨h1, ⟨s', h2⟩, _, _⟩ := step_self hst
    obtain ⟨_, hc, _, _⟩ := step_tok hst
    exact ⟨⟨c, s', h2, hc⟩, h1⟩
   ·rw [← List.map_dropLast] at hx
    obtain ⟨y, hy, rfl⟩ := List.mem_map.1 hx
    exact ih l' hl y hy
  | error e => rw [hl] at h; cases h
def body (g : Str) : List Tok → Str
 | [] => []
 | x :: l => x.2.1 ++ g ++ body g l
def texts : List Tok → Nat
 | [] => 0
 | x :: l => x.2.1.length + texts l
end Lx
end Go.Proofs.YtdhgpnejphlfpaaDoor
namespace Go.Proofs.YtdhgpnejphlfpaaDoor
namespace Lx
theorem tw_take (p : UInt8 → Bool) : ∀ (l : Str) (n : Nat), (l.takeWhile p).length ≤ n → (l.take n).takeWhile p = l.takeWhile p
 | [], n, _ => by simp
 | c :: l, n, h => by
  cases hc : p c
  ·cases n with
   | zero => simp [hc]
   | succ n => simp [hc]
  ·rw [List.takeWhile_cons, if_pos hc] at h
   simp only [List.length_cons] at h
   obtain ⟨m, rfl⟩ : ∃ m, n = m + 1 := ⟨n - 1, by omega⟩
   rw [List.take_succ_cons, List.takeWhile_cons, if_pos hc, List.takeWhile_cons, if_pos hc, tw_take p l m (by omega)]
theorem step_skip_take {c : UInt8} {s : Str} {k n : Nat} (h : step (c :: s) = .skip k) (hn : k ≤ n) : step ((c :: s).take n) = .skip k := by
 have hk := step_skip h
 obtain ⟨m, rfl⟩ : ∃ m, n = m + 1 := ⟨n - 1, by omega⟩
 rw [List.take_succ_cons]
 cases hb : isBlank c
 ·cases hc : (c == 35)
  ·simp only [step, hb, hc, Bool.false_eq_true, if_false] at h
   repeat' (split at h)
   all_goals cases h
  ·simp only [step, hb, hc, Bool.false_eq_true, if_false, if_true, Step.skip.injEq] at h ⊢
   rw [← List.take_succ_cons, tw_take notLf (c :: s) (m + 1) (by omega)]
   exact h
 ·simp only [step, hb, if_true] at h ⊢
  exact h
theorem tw_pre {p : UInt8 → Bool} {l : Str} {n : Nat} {t : Str} (h : l.takeWhile p = t) (hn : t.length ≤ n) : (l.take n).takeWhile p = t := by
 subst h; exact tw_take p l n hn
theorem prefix_take {g l : Str} {n : Nat} (h : g.isPrefixOf (l.take n) = true) : g.isPrefixOf l = true := by
 rw [List.isPrefixOf_iff_prefix] at *
 exact h.trans (List.take_prefix n l)
theorem signOf_take {l : Str} {n : Nat} {t : Str} (h : signOf l = t) (ht : (t == []) = false) (hn : t.length ≤ n) : signOf (l.take n) = t := by
 subst h
 obtain ⟨h1, h2, h3⟩ := signOf_mem ht
 unfold signOf at h3 hn ⊢
 rw [h3] at hn ⊢
 simp only [Option.getD_some] at h3 hn ⊢
 have hp : (signOf l).isPrefixOf (l.take n) = true := by
  rw [List.isPrefixOf_iff_prefix]
  exact List.prefix_take_iff.2 ⟨h2, hn⟩
 rw [List.find?_eq_some_iff_append] at h3
 obtain ⟨_, l1, l2, e, hb⟩ := h3
 have : signs.find? (fun g => g.isPrefixOf (l.take n)) = some (signOf l) := by
  rw [List.find?_eq_some_iff_append]
  refine ⟨hp, l1, l2, e, fun g hg => ?_⟩
  have := hb g hg
  cases hx : g.isPrefixOf (l.take n)
  ·rfl
  ·rw [prefix_take hx] at this; cases this
 rw [this]
 rfl
theorem step_tok_take {c : UInt8} {s : Str} {k : Int} {t : Str} {x : Int} {n : Nat} (h : step (c :: s) = .tok k t x) (hn : t.length ≤ n) : step ((c :: s).take n) = .tok k t x := by
 obtain ⟨hb, hc, h1, h2⟩ := step_tok h
 obtain ⟨m, rfl⟩ : ∃ m, n = m + 1 := ⟨n - 1, by omega⟩
 rw [List.take_succ_cons]
 simp only [step, hb, hc, Bool.false_eq_true, if_false] at h ⊢
 cases hl : isLetter c
 ·simp only [hl, Bool.false_eq_true, if_false] at h ⊢
  cases hd : isDigit c
  ·simp only [hd, Bool.false_eq_true, if_false] at h ⊢
   cases hs : (signOf (c :: s) == [])
   ·simp only [hs, Bool.false_eq_true, if_false, Step.tok.injEq] at h
    obtain ⟨e1, e2, e3⟩ := h
    have := signOf_take (n := m + 1) e2 (by rw [← e2]; exact hs) hn
    rw [List.take_succ_cons] at this
    rw [this, ← e2, hs, ← e1, ← e3]
    rfl
   ·simp [hs] at h
  ·simp only [hd, if_true] at h ⊢
   split at h
   ·cases h
   ·rename_i hb'
    simp only [Step.tok.injEq] at h
    obtain ⟨e1, e2, e3⟩ := h
    have := tw_pre (n := m + 1) e2 hn
    rw [List.take_succ_cons] at this
    rw [e2] at e3 hb'
    rw [this, if_neg hb', ← e1, ← e3]
 ·simp only [hl, if_true] at h ⊢
  split at h
  ·cases h
  ·rename_i hb'
   simp only [Step.tok.injEq] at h
   obtain ⟨e1, e2, e3⟩ := h
   have := tw_pre (n := m + 1) e2 hn
   rw [List.take_succ_cons] at this
   rw [e2] at hb'
   rw [this, if_neg hb', ← e1, ← e3]
def plN (t : Tok) : Nat := t.2.2.2.toNat
theorem plN_sh {t : Tok} (k : Nat) (h : 0 ≤ t.2.2.2) : plN (shT k t) = plN t + k := by unfold plN shT; simp only; omega
theorem place_bound : ∀ (s : Str) (l : List Tok), lex s = .ok l → ∀ x ∈ l, 0 ≤ x.2.2.2 ∧ x.2.2.2 ≤ (s.length : Int) := by
 intro s
 refine lex_ind (P := fun s => ∀ (l : List Tok), lex s = .ok l → ∀ x ∈ l, 0 ≤ x.2.2.2 ∧ x.2.2.2 ≤ (s.length : Int)) ?_ ?_ ?_ ?_ s
 ·intro l h; rw [lex_nil] at h; cases h; simp
 ·intro c s k hst ih l h x hx
  rw [lex_skip hst] at h
  obtain ⟨hk1, hk2⟩ := step_skip hst
  cases hl : lex ((c :: s).drop k) with
  | ok l' =>
   rw [hl] at h; simp only [shE, Except.ok.injEq] at h
   subst h
   obtain ⟨y, hy, rfl⟩ := List.mem_map.1 hx
   have := ih l' hl y hy
   simp only [List.length_drop] at this
   simp only [shT]; omega
  | error e => rw [hl] at h; cases h
 ·intro c s e hst l h; rw [lex_err hst] at h; cases h
 ·intro c s k t n hst ih l h x hx
  rw [lex_tok hst] at h
  obtain ⟨_, _, h1, h2⟩ := step_tok hst
  have hk2 := h2.length_le
  cases hl : lex ((c :: s).drop t.length) with
  | ok l' =>
   rw [hl] at h; simp only [shE, consE, Except.ok.injEq] at h
   subst h
   rcases List.mem_cons.1 hx with rfl | hx
   ·simp; omega
   ·obtain ⟨y, hy, rfl⟩ := List.mem_map.1 hx
    have := ih l' hl y hy
    simp only [List.length_drop] at this
    simp only [shT]; omega
  | error e => rw [hl] at h; cases h
theorem take_add (l : Str) (k p : Nat) : (l.take (p + k)).drop k = (l.drop k).take p := by
 rw [List.drop_take]; congr 1; omega
theorem lex_take : ∀ (s : Str) (l : List Tok), lex s = .ok l → ∀ (k : Nat) (x : Tok), l[k]? = some x → lex (s.take (plN x)) = .ok (l.take k ++ [(4, [], 0, (plN x : Int))]) := by
 intro s
 refine lex_ind (P := fun s => ∀ (l : List Tok), lex s = .ok l → ∀ (k : Nat) (x : Tok), l[k]? = some x → lex (s.take (plN x)) = .ok (l.take k ++ [(4, [], 0, (plN x : Int))])) ?_ ?_ ?_ ?_ s
 ·intro l h k x hx
  rw [lex_nil] at h
  cases h
  cases k with
  | zero => simp at hx; subst hx; rfl
  | succ k => simp at hx
 ·intro c s j hst ih l h k x hx
  rw [lex_skip hst] at h
  obtain ⟨hj1, hj2⟩ := step_skip hst
  cases hl : lex ((c :: s).drop j) with
  | error e => rw [hl] at h; cases h
  | ok l' =>
   rw [hl] at h; simp only [shE, Except.ok.injEq] at h
   subst h
   rw [List.getElem?_map] at hx
   cases hy : l'[k]? with
   | none => rw [hy] at hx; cases hx
   | some y =>
    rw [hy] at hx
    simp only [Option.map_some, Option.some.injEq] at hx
    subst hx
    have hp := (place_bound _ _ hl y (List.mem_of_getElem? hy)).1
    rw [plN_sh j hp]
    have ihy := ih l' hl k y hy
    have hst2 := step_skip_take (n := plN y + j) hst (by omega)
    obtain ⟨c', s', e⟩ : ∃ c' s', (c :: s).take (plN y + j) = c' :: s' := by
     obtain ⟨m, hm⟩ : ∃ m, plN y + j = m + 1 := ⟨plN y + j - 1, by omega⟩
     exact ⟨c, s.take m, by rw [hm]; rfl⟩
    have hd := take_add (c :: s) j (plN y)
    rw [e] at hst2 hd ⊢
    rw [lex_skip hst2, hd, ihy]
    simp only [shE, List.map_append, List.map_take, List.map_cons, List.map_nil]
    congr 2
 ·intro c s e hst l h; rw [lex_err hst] at h; cases h
 ·intro c s kk t n hst ih l h k x hx
  rw [lex_tok hst] at h
  obtain ⟨_, _, h1, h2⟩ := step_tok hst
  cases hl : lex ((c :: s).drop t.length) with
  | error e => rw [hl] at h; cases h
  | ok l' =>
   rw [hl] at h; simp only [shE, consE, Except.ok.injEq] at h
   subst h
   cases k with
   | zero =>
    simp only [List.getElem?_cons_zero, Option.some.injEq] at hx
    subst hx
    rfl
   | succ k =>
    simp only [List.getElem?_cons_succ, List.getElem?_map] at hx
    cases hy : l'[k]? with
    | none => rw [hy] at hx; cases hx
    | some y =>
     rw [hy] at hx
     simp only [Option.map_some, Option.some.injEq] at hx
     subst hx
     have hp := (place_bound _ _ hl y (List.mem_of_getElem? hy)).1
     rw [plN_sh t.length hp]
     have ihy := ih l' hl k y hy
     have hst2 := step_tok_take (n := plN y + t.length) hst (by omega)
     obtain ⟨c', s', e⟩ : ∃ c' s', (c :: s).take (plN y + t.length) = c' :: s' := by
      obtain ⟨m, hm⟩ : ∃ m, plN y + t.length = m + 1 := ⟨plN y + t.length - 1, by omega⟩
      exact ⟨c, s.take m, by rw [hm]; rfl⟩
     have hd := take_add (c :: s) t.length (plN y)
     rw [e] at hst2 hd ⊢
     rw [lex_tok hst2, hd, ihy]
     simp only [shE, consE, List.map_append, List.map_take, List.map_cons, List.map_nil, List.take_succ_cons, List.cons_append]
     congr 3
end Lx
end Go.Proofs.YtdhgpnejphlfpaaDoor
namespace Go.Proofs.YtdhgpnejphlfpaaDoor
mutual
def same : Ex → Ex → Bool
 | .mk o n _ l, b => o == b.op && n == b.n && sameL l b.l
def sameL : List Ex → List Ex → Bool
 | [], [] => true
 | x :: l, y :: m => same x y && sameL l m
 | [], _ :: _ => false
 | _ :: _, [] => false
end
end Go.Proofs.YtdhgpnejphlfpaaDoor
namespace Go.Proofs.YtdhgpnejphlfpaaDoor
def all2 {α β : Type} (R : α → β → Bool) : List α → List β → Bool
 | [], [] => true
 | x :: l, y :: m => R x y && all2 R l m
 | _, _ => false
theorem all2_loop {α β : Type} {F : (Int → Option Bool) → Int → Option Bool} {s1 : List α} {s2 : List β} {R : α → β → Bool} (hl : s1.length < 4611686018427387904)
  (hstep : ∀ again (i : Nat) (x : α) (y : β), s1[i]? = some x → s2[i]? = some y → F again (i : Int) = bif R x y then again (((i + 1 : Nat) : Int)) else some false)
  (hend : ∀ again, F again (s1.length : Int) = some true) :
  ∀ (r : List α) (r' : List β) (pre : List α) (pre' : List β), s1 = pre ++ r → s2 = pre' ++ r' → pre.length = pre'.length → r.length = r'.length → ∀ M, r.length < M → fixN F M (pre.length : Int) = some (all2 R r r')
 | [], r', pre, pre', h, h', hp, hr, M, hM => by
  obtain ⟨m, rfl⟩ : ∃ m, M = m + 1 := ⟨M - 1, by simp at hM; omega⟩
  obtain rfl : r' = [] := List.eq_nil_of_length_eq_zero (by simpa using hr.symm)
  rw [fixN_succ]
  have : pre = s1 := by simpa using h.symm
  rw [this]
  exact hend _
 | x :: r, [], pre, pre', h, h', hp, hr, M, hM => by simp at hr
 | x :: r, y :: r', pre, pre', h, h', hp, hr, M, hM => by
  obtain ⟨m, rfl⟩ : ∃ m, M = m + 1 := ⟨M - 1, by omega⟩
  rw [fixN_succ]
  have ih := all2_loop hl hstep hend r r' (pre ++ [x]) (pre' ++ [y]) (by rw [h]; simp) (by rw [h']; simp) (by simp [hp]) (by simpa using hr) m (by simp at hM; omega)
  rw [show ((pre ++ [x]).length : Int) = ((pre.length + 1 : Nat) : Int) by simp] at ih
  rw [hstep _ pre.length x y (by rw [h]; simp) (by rw [h', hp]; simp), ih]
  simp only [all2]
  cases R x y <;> rfl
namespace Mo
open Pa Sy
structure Sml (m : Mdl) : Prop where
 names : m.1.length < 4611686018427387904
 schema : m.2.1.length < 4611686018427387904
 init : m.2.2.1.length < 4611686018427387904
 procs : m.2.2.2.1.length < 4611686018427387904
 cmds : m.2.2.2.2.length < 4611686018427387904
 cmd : ∀ c ∈ m.2.2.2.2, c.2.1.sz < 4611686018427387904 ∧ c.2.2.length < 4611686018427387904 ∧ ∀ s ∈ c.2.2, s.2.sz < 4611686018427387904
theorem Sml.empty : Sml ([], [], [], [], []) := ⟨by decide, by decide, by decide, by decide, by decide, fun c h => by cases h⟩
theorem Sml.of {m : Mdl} (h : Part m) (hq : m.2.2.2.1.length < 4611686018427387904) : Sml m := ⟨by have := h.names; omega, by have := h.schema; have := h.names; omega, by have := h.init; have := h.names; omega, hq, by have := h.cmds; omega, fun c hc => by
 have := h.cmd c hc
 exact ⟨by have := this.sz; omega, by have := this.len; omega, fun s hs => by have := (this.sets s hs).sz; omega⟩⟩
/-! the program's Same -/
/-! the document's Same -/
end Mo
end Go.Proofs.YtdhgpnejphlfpaaDoor
namespace Go.Proofs.YtdhgpnejphlfpaaDoor
namespace Mo
theorem shown_true : scrutinylaw14_shown = some true := by
 show _ = _
 kernel_rfl
end Mo
end Go.Proofs.YtdhgpnejphlfpaaDoor
namespace Go.Proofs.YtdhgpnejphlfpaaDoor
namespace Mo
open Pa Sy
open Lx (strip lexes stops Tk)
/-! tokens -/
def lexes0 (s : Str) (k : List Tk) : Prop := ∃ l, Lx.lex s = .ok l ∧ l.map strip = k ∧ headP l = 0
theorem lexes0.le {s : Str} {k : List Tk} (h : lexes0 s k) : lexes s k := by
 obtain ⟨l, h1, h2, _⟩ := h
 exact ⟨l, h1, h2⟩
/-! the whole -/
end Mo
end Go.Proofs.YtdhgpnejphlfpaaDoor
namespace Go.Proofs.YtdhgpnejphlfpaaDoor
namespace Mo
open Pa Sy
open Lx (strip)
theorem sProc_procs {m : Mdl} {ts : List Tok} {p : Mdl × List Tok} (he : Pa.Ends ts) (h : sProc m ts = .ok p) : p.1.2.2.2.1.length ≤ m.2.2.2.1.length + 1 := by
 have := (sProc_ok he h).2.2.2.2
 omega
theorem sItems_procs : ∀ (f : Nat) (m : Mdl) (ts : List Tok) (p : Mdl), Pa.Ends ts → sItems f m ts = .ok p → p.2.2.2.1.length ≤ m.2.2.2.1.length + ts.length := by
 intro f
 induction f with
 | zero => intro _ _ _ _ h; simp [sItems] at h
 | succ f ih =>
  intro m ts p he h
  obtain ⟨t, r, rfl⟩ := he.ne
  simp only [sItems] at h
  cases c4 : (t.1 == 4)
  ·rw [c4] at h
   simp only [cond_false] at h
   have her := he.tail (by simpa using c4)
   cases cv : isT 1 [118, 97, 114] t
   ·rw [cv] at h
    simp only [cond_false] at h
    cases cp : isT 1 [112, 114, 111, 99] t
    ·rw [cp] at h; cases h
    ·rw [cp] at h
     simp only [cond_true] at h
     cases h1 : sProc m r with
     | error e => rw [h1] at h; cases h
     | ok q =>
      obtain ⟨m', r'⟩ := q
      rw [h1] at h
      simp only at h
      have g := sProc_ok her h1
      have g1 := sProc_procs her h1
      have i1 := ih m' r' p g.1.1 h
      have := g.1.2
      simp only [List.length_cons] at *
      omega
   ·rw [cv] at h
    simp only [cond_true] at h
    cases h1 : sVar m r with
    | error e => rw [h1] at h; cases h
    | ok q =>
     obtain ⟨m', r'⟩ := q
     rw [h1] at h
     simp only at h
     obtain ⟨g, name, lo, hi, first, g2, _⟩ := sVar_ok her h1
     have i1 := ih m' r' p g.1 h
     have := g.2
     simp only at g2
     rw [g2] at i1
     simp only [List.length_cons] at *
     omega
  ·rw [c4] at h
   simp only [cond_true] at h
   cases hne : m.1.isEmpty
   ·rw [hne] at h; cases h; simp only [List.length_cons]; omega
   ·rw [hne] at h; cases h
end Mo
end Go.Proofs.YtdhgpnejphlfpaaDoor
namespace Go.Proofs.YtdhgpnejphlfpaaDoor
namespace Mo
open Pa Sy
open Lx (strip plN)
theorem isT_eq (k : Int) (x : Str) (t : Tok) : isT k x t = ((t.1 == k) && (t.2.1 == x)) := rfl
theorem cut_step (text : Str) (c : Int) (r3 : Bool) (l : List Tok) (q1 q2 : Int) (r12 : Mdl × Int × Int) (e40 t : Tok) (again : Int × Int × Bool × Int → Option Bool) (d i : Int) (o : Bool) (j : Nat)
  (hj : (j : Int) < Int.tmod (IntKind.i64.wrap c) (l.length : Int)) (ht : l[j]? = some t) (hd : -1000 ≤ d ∧ d ≤ 1000) (hi : 0 ≤ i ∧ i ≤ 1000) (hj2 : j ≤ 1000) :
  scrutinylaw14_ModelCuts_L1 text c r3 (l, q1, q2) r12 e40 again (d, i, o, (j : Int)) = again ((scan1 (d, i, o) t).1, (scan1 (d, i, o) t).2.1, (scan1 (d, i, o) t).2.2, ((j + 1 : Nat) : Int)) := by
 have hx : idx l (j : Int) = some t := by simp [idx, ht]
 have w1 : IntKind.i64.wrap (d + 1) = d + 1 := w64 (by omega)
 have w2 : IntKind.i64.wrap (d - 1) = d - 1 := w64 (by omega)
 have w3 : IntKind.i64.wrap (d + 1 - 1) = d + 1 - 1 := w64 (by omega)
 have w4 : IntKind.i64.wrap (i + 1) = i + 1 := w64 (by omega)
 have w5 : IntKind.i64.wrap ((j : Int) + 1) = ((j + 1 : Nat) : Int) := by rw [w64 (by omega)]; omega
 simp only [scrutinylaw14_ModelCuts_L1, scrutinylaw14_ModelCuts_K2, scrutinylaw14_ModelCuts_K3, scrutinylaw14_ModelCuts_K4, decide_eq_true hj, cond_true, hx, bind_s, letv_e, callG_v, scan1, isT_eq, w1, w5]
 cases (t.1 == 3) <;> cases (t.1 == 1) <;> simp only [cond_true, cond_false, Bool.true_and, Bool.false_and]
 ·cases (t.2.1 == [118, 97, 114]) <;> try simp only [cond_true, cond_false, Bool.not_true, Bool.not_false, Bool.true_or, Bool.false_or]
  cases (t.2.1 == [112, 114, 111, 99]) <;> rfl
 all_goals cases (t.2.1 == [123]) <;> cases (t.2.1 == [125]) <;> cases (t.2.1 == [59]) <;> simp only [cond_true, cond_false, Bool.true_and, Bool.false_and, w2, w3, w4]
 all_goals cases (t.2.1 == [118, 97, 114]) <;> try simp only [cond_true, cond_false, Bool.not_true, Bool.not_false, Bool.true_or, Bool.false_or]
 all_goals first
  | rfl
  | (cases (d == 0) <;> rfl)
  | (cases (d - 1 == 0) <;> rfl)
  | (cases (d + 1 == 0) <;> rfl)
  | (cases (d + 1 - 1 == 0) <;> rfl)
  | (cases (t.2.1 == [112, 114, 111, 99]) <;> first
    | rfl
    | (cases (d == 0) <;> rfl)
    | (cases (d - 1 == 0) <;> rfl)
    | (cases (d + 1 == 0) <;> rfl)
    | (cases (d + 1 - 1 == 0) <;> rfl))
theorem scan1_near (s : Scan) (t : Tok) {n : Int} (h1 : -n ≤ s.1 ∧ s.1 ≤ n) (h2 : 0 ≤ s.2.1 ∧ s.2.1 ≤ n) : (-(n + 1) ≤ (scan1 s t).1 ∧ (scan1 s t).1 ≤ n + 1) ∧ (0 ≤ (scan1 s t).2.1 ∧ (scan1 s t).2.1 ≤ n + 1) := by
 simp only [scan1]
 cases isT 3 [123] t <;> cases isT 3 [125] t <;> simp only [cond_true, cond_false]
 ·refine ⟨by omega, ?_⟩
  cases (isT 3 [59] t && s.1 == 0) <;> simp only [cond_true, cond_false] <;> omega
 ·refine ⟨by omega, ?_⟩
  cases (isT 3 [59] t && s.1 - 1 == 0) <;> simp only [cond_true, cond_false] <;> omega
 ·refine ⟨by omega, ?_⟩
  cases (isT 3 [59] t && s.1 + 1 == 0) <;> simp only [cond_true, cond_false] <;> omega
 ·refine ⟨by omega, ?_⟩
  cases (isT 3 [59] t && s.1 + 1 - 1 == 0) <;> simp only [cond_true, cond_false] <;> omega
theorem cut_loop (text : Str) (c : Int) (r3 : Bool) (l : List Tok) (q1 q2 : Int) (r12 : Mdl × Int × Int) (e40 : Tok) (k : Nat) (hk : Int.tmod (IntKind.i64.wrap c) (l.length : Int) = (k : Int)) (hk2 : k ≤ l.length) (hl : k ≤ 1000) :
  ∀ (r pre : List Tok) (s : Scan), l.take k = pre ++ r → (-(pre.length : Int) ≤ s.1 ∧ s.1 ≤ pre.length) → (0 ≤ s.2.1 ∧ s.2.1 ≤ pre.length) → ∀ M, r.length < M →
   fixN (scrutinylaw14_ModelCuts_L1 text c r3 (l, q1, q2) r12 e40) M (s.1, s.2.1, s.2.2, (pre.length : Int)) = scrutinylaw14_ModelCuts_L1 text c r3 (l, q1, q2) r12 e40 (fun _ => none) ((scan s r).1, (scan s r).2.1, (scan s r).2.2, (k : Int))
 | [], pre, s, h, h1, h2, M, hM => by
  obtain ⟨m, rfl⟩ : ∃ m, M = m + 1 := ⟨M - 1, by simp at hM; omega⟩
  have hp : pre.length = k := by
   have := congrArg List.length h
   simp at this
   omega
  rw [fixN_succ, hp]
  show scrutinylaw14_ModelCuts_L1 text c r3 (l, q1, q2) r12 e40 _ (s.1, s.2.1, s.2.2, (k : Int)) = scrutinylaw14_ModelCuts_L1 text c r3 (l, q1, q2) r12 e40 _ (s.1, s.2.1, s.2.2, (k : Int))
  simp only [scrutinylaw14_ModelCuts_L1, hk, decide_eq_false (show ¬ (k : Int) < (k : Int) by omega), cond_false]
 | t :: r, pre, s, h, h1, h2, M, hM => by
  obtain ⟨m, rfl⟩ : ∃ m, M = m + 1 := ⟨M - 1, by omega⟩
  have hlen := congrArg List.length h
  simp only [List.length_take, List.length_append, List.length_cons] at hlen
  have hpk : pre.length < k := by omega
  have ht : l[pre.length]? = some t := by
   have e1 : (l.take k)[pre.length]? = some t := by rw [h]; simp
   rwa [List.getElem?_take_of_lt hpk] at e1
  rw [fixN_succ]
  have hst := cut_step text c r3 l q1 q2 r12 e40 t (fixN (scrutinylaw14_ModelCuts_L1 text c r3 (l, q1, q2) r12 e40) m) s.1 s.2.1 s.2.2 pre.length (by rw [hk]; omega) ht (by omega) (by omega) (by omega)
  have hn := scan1_near s t (n := (pre.length : Int)) h1 h2
  have ih := cut_loop text c r3 l q1 q2 r12 e40 k hk hk2 hl r (pre ++ [t]) (scan1 s t) (by rw [h]; simp) (by simp only [List.length_append, List.length_singleton]; omega) (by simp only [List.length_append, List.length_singleton]; omega) m (by simp at hM; omega)
  rw [show ((pre ++ [t]).length : Int) = ((pre.length + 1 : Nat) : Int) by simp] at ih
  exact hst.trans ih
theorem sysT_few {text : Str} {p : Mdl} {l : List Tok} (hl : Lx.lex text = .ok l) (h6 : text.length ≤ 65536) (h : sysT text = .ok p) : Few p ∧ sItems (l.length + 1) E0 l = .ok p := by
 have hg := (sysT_good h).toPart
 have h2 : sItems (l.length + 1) E0 l = .ok p := by
  unfold sysT at h
  rw [if_neg (by omega), hl] at h
  exact h
 have hx := lex_good hl
 have := sItems_procs _ _ _ _ hx.ends h2
 have := hx.len
 exact ⟨⟨hg.names, by simp [E0] at *; omega, hg.cmds⟩, h2⟩
theorem lex_cut1 {text : Str} {l : List Tok} (hl : Lx.lex text = .ok l) {k : Nat} {x : Tok} (hx : l[k]? = some x) :
  Lx.lex (text.take (plN x) ++ [10]) = .ok (l.take k ++ [(4, [], 0, (((text.take (plN x)).length + 1 : Nat) : Int))]) := by
 rw [Lx.lex_join, Lx.lex_take _ _ hl _ _ hx, Lx.lex_nil]
 simp only [Lx.joinE, Lx.shE, Lx.shT, List.map_cons, List.map_nil]
 rw [List.dropLast_concat]
 simp
theorem lex_cut2 {text : Str} {l : List Tok} (hl : Lx.lex text = .ok l) {k : Nat} {x : Tok} (hx : l[k]? = some x) :
  ∃ p1 p3, Lx.lex (text.take (plN x) ++ [10, 32, 118, 97, 114, 32, 118, 97, 114]) = .ok (l.take k ++ [(1, [118, 97, 114], 0, p1), (1, [118, 97, 114], 0, (((text.take (plN x)).length + 6 : Nat) : Int)), (4, [], 0, p3)]) := by
 refine ⟨(1 : Int) + (((text.take (plN x)).length + 1 : Nat) : Int), (8 : Int) + (((text.take (plN x)).length + 1 : Nat) : Int), ?_⟩
 rw [Lx.lex_join, Lx.lex_take _ _ hl _ _ hx]
 have e : Lx.lex [32, 118, 97, 114, 32, 118, 97, 114] = .ok [(1, [118, 97, 114], 0, 1), (1, [118, 97, 114], 0, 5), (4, [], 0, 8)] := rfl
 rw [e]
 simp only [Lx.joinE, Lx.shE, Lx.shT, List.map_cons, List.map_nil]
 rw [List.dropLast_concat, show (5 : Int) + (((text.take (plN x)).length + 1 : Nat) : Int) = (((text.take (plN x)).length + 6 : Nat) : Int) by omega]
theorem drop_not4 {text : Str} {l : List Tok} (hl : Lx.lex text = .ok l) : ∀ t ∈ l.dropLast, t.1 ≠ 4 := fun t ht => by
 obtain ⟨⟨c, s, h1, _⟩, h2⟩ := Lx.lex_whole _ _ hl t ht
 rw [h1] at h2
 have := (Lx.step_self h2).2.2.1
 omega
theorem ends_sn (a : List Tok) (z : Tok) (h : z.1 = 4) : Pa.Ends (a ++ [z]) := by
 induction a with
 | nil => exact .inr ⟨rfl, h⟩
 | cons t a ih => exact .inl ih
theorem modelCuts_true (text : Str) (c : Int) (_ : text.length ≤ 9223372036854775807) (hc : 0 ≤ c ∧ c ≤ 65535) : scrutinylaw14_ModelCuts text c = some true := by
 unfold scrutinylaw14_ModelCuts
 rw [shown_true, bind_s]
 by_cases ht : 600 < text.length
 ·rw [decide_eq_true (by omega), cond_true]
 rw [decide_eq_false (by omega), cond_false, Lx.refTokens_eq, bind_s, Lx.tokens_lex (by omega), Parse_m, bind_s]
 simp only [letv_e]
 cases hl : Lx.lex text with
 | error e =>
  have he : (e.1 != 0) = true := by
   have := lexS_err _ _ _ _ hl
   simpa using this
  simp only [Lx.res, he, Bool.true_or, cond_true]
 | ok l =>
  simp only [Lx.res, bne_self_eq_false, Bool.false_or]
  cases hs : sysT text with
  | error e =>
   have he : (e.1 != 0) = true := by simpa using sysT_err hs
   simp only [outS, he, Bool.true_or, cond_true]
  | ok p =>
   simp only [outS, bne_self_eq_false, Bool.false_or]
   have h1 := Lx.lex_len hl
   by_cases h2 : l.length < 2
   ·have h2' : (l.length : Int) < 2 := by omega
    simp only [h2', decide_true, cond_true]
   have h2' : ¬ (l.length : Int) < 2 := by omega
   simp only [h2', decide_false, cond_false]
   rw [show ((l.length : Int) != 0) = true from bne_iff_ne.2 (by omega), Lx.chk_true]
   obtain ⟨m, hm⟩ : ∃ m : Nat, c = (m : Int) := ⟨c.toNat, by omega⟩
   have hk : Int.tmod (IntKind.i64.wrap c) (l.length : Int) = ((m % l.length : Nat) : Int) := by rw [hm, w64 (by omega)]; rfl
   have hkl : m % l.length < l.length := Nat.mod_lt _ (by omega)
   generalize m % l.length = k at hk hkl
   obtain ⟨x, hx⟩ : ∃ x, l[k]? = some x := ⟨l[k], List.getElem?_eq_getElem hkl⟩
   rw [hk, show idx l (k : Int) = some x by simp [idx, hx], bind_s]
   have hp := Lx.place_bound _ _ hl x (List.mem_of_getElem? hx)
   have hxN : x.2.2.2 = (plN x : Int) := by unfold plN; omega
   have hcut : cut text 0 x.2.2.2 = text.take (plN x) := by
    rw [hxN]
    show (text.drop 0).take (plN x - 0) = _
    simp
   rw [Lx.cutB_true (by omega) (by omega) (by omega), Lx.chk_true]
   have hF : l.length < FUEL := by show _ < 2 ^ 64; omega
   generalize FUEL = F at hF ⊢
   have hloop := cut_loop text c true l 0 0 (p, 0, 0) x k hk (by omega) (by omega) (l.take k) [] (0, 0, false) rfl (by simp) (by simp) F (by rw [List.length_take]; omega)
   rw [show (((0 : Int), (0 : Int), false) : Scan).1 = 0 from rfl] at hloop
   rw [show ((([] : List Tok).length : Nat) : Int) = 0 from rfl] at hloop
   rw [hloop]
   obtain ⟨hfew, hit⟩ := sysT_few hl (by omega) hs
   have hen := (lex_good hl).ends
   have hk4 : ∀ t ∈ l.take k, t.1 ≠ 4 := fun t h => drop_not4 hl t (by
    rw [List.dropLast_eq_take]
    exact (List.take_prefix_take_left (by omega)).mem h)
   have hc1 := lex_cut1 hl hx
   obtain ⟨p1, p3, hc2⟩ := lex_cut2 hl hx
   have hsl : (text.take (plN x)).length ≤ 600 := by rw [List.length_take]; omega
   have es1 : sysT (text.take (plN x) ++ [10]) = sItems ((l.take k ++ [(4, [], 0, (((text.take (plN x)).length + 1 : Nat) : Int))]).length + 1) E0 (l.take k ++ [(4, [], 0, (((text.take (plN x)).length + 1 : Nat) : Int))]) := by
    unfold sysT
    rw [if_neg (by simp; omega), hc1]; rfl
   have es2 : sysT (text.take (plN x) ++ [10, 32, 118, 97, 114, 32, 118, 97, 114]) = sItems ((l.take k ++ [(1, [118, 97, 114], 0, p1), (1, [118, 97, 114], 0, (((text.take (plN x)).length + 6 : Nat) : Int)), (4, [], 0, p3)]).length + 1) E0 (l.take k ++ [(1, [118, 97, 114], 0, p1), (1, [118, 97, 114], 0, (((text.take (plN x)).length + 6 : Nat) : Int)), (4, [], 0, p3)]) := by
    unfold sysT
    rw [if_neg (by simp; omega), hc2]; rfl
   have hkt : (l.take k).length = k := by rw [List.length_take]; omega
   simp only [scrutinylaw14_ModelCuts_L1, hk, decide_eq_false (show ¬ (k : Int) < (k : Int) by omega), cond_false, hcut, Parse_m, bind_s, letv_e]
   rw [Lx.catB_true (by simp; omega), Lx.chk_true, Lx.catB_true (by simp; omega), Lx.chk_true]
   have hw6 : IntKind.i64.wrap (((text.take (plN x)).length : Int) + 6) = (((text.take (plN x)).length + 6 : Nat) : Int) := by rw [w64 (by omega)]; omega
   have hw1 : IntKind.i64.wrap (((text.take (plN x)).length : Int) + 1) = (((text.take (plN x)).length + 1 : Nat) : Int) := by rw [w64 (by omega)]; omega
   rcases cut_l _ _ _ _ hen (show NK E0 from fun n hn => by cases hn) hfew hit k 0 hkl hk4 with ⟨mk, s1, s2, s3, s4, s5⟩ | ⟨d, i, s1, s2⟩
   ·rw [s1]
    obtain ⟨g1, M1, a1, a2, a3⟩ := s5 E0 [(4, [], 0, (((text.take (plN x)).length + 1 : Nat) : Int))] _ (RM.self E0) (show k < (l.take k ++ [(4, [], 0, (((text.take (plN x)).length + 1 : Nat) : Int))]).length + 1 by rw [List.length_append, hkt]; omega)
    obtain ⟨g2, M2, b1, b2, b3⟩ := s5 E0 [(1, [118, 97, 114], 0, p1), (1, [118, 97, 114], 0, (((text.take (plN x)).length + 6 : Nat) : Int)), (4, [], 0, p3)] _ (RM.self E0) (show k < (l.take k ++ [(1, [118, 97, 114], 0, p1), (1, [118, 97, 114], 0, (((text.take (plN x)).length + 6 : Nat) : Int)), (4, [], 0, p3)]).length + 1 by rw [List.length_append, hkt]; omega)
    rw [List.length_append, hkt] at a1 b1
    simp only [List.length_cons, List.length_nil] at a1 b1
    obtain ⟨h1', rfl⟩ : ∃ n, g1 = n + 1 := ⟨g1 - 1, by omega⟩
    obtain ⟨h2', rfl⟩ : ∃ n, g2 = n + 1 := ⟨g2 - 1, by omega⟩
    have hM1 : M1.1 = mk.1 := by rw [a3.names]; rfl
    have e2 : sItems (h2' + 1) M2 [(1, [118, 97, 114], 0, p1), (1, [118, 97, 114], 0, (((text.take (plN x)).length + 6 : Nat) : Int)), (4, [], 0, p3)] = .error (3, (((text.take (plN x)).length + 6 : Nat) : Int)) := var_no (by unfold given; rfl)
    rw [es2, b2, e2, es1, a2]
    have e1 : sItems (h1' + 1) M1 [(4, [], 0, (((text.take (plN x)).length + 1 : Nat) : Int))] = bif M1.1.isEmpty then .error (2, (((text.take (plN x)).length + 1 : Nat) : Int)) else .ok M1 := rfl
    rw [e1, hM1, hw6, hw1]
    simp only [outS, bne_self_eq_false, Bool.or_self, cond_false, show decide ((0 : Int) < 0) = false from rfl, show E0.1.length = 0 from rfl, Nat.sub_zero, Int.zero_add]
    cases hmk : mk.1 with
    | nil => simp
    | cons n r =>
     rw [hmk] at s3
     have h0 : (((n :: r).length : Int) == 0) = false := by simp; omega
     rw [h0]
     simp only [List.isEmpty_cons, cond_false, hM1, hmk, beq_self_eq_true, Bool.true_and]
     rw [decide_eq_true (by omega)]
   ·rw [s1]
    obtain ⟨x1, hx1⟩ := s2 E0 (4, [], 0, (((text.take (plN x)).length + 1 : Nat) : Int)) [] ((l.take k ++ [(4, [], 0, (((text.take (plN x)).length + 1 : Nat) : Int))]).length + 1) (RM.self E0) (.inl rfl) (ends_sn _ _ rfl)
    obtain ⟨x2, hx2⟩ := s2 E0 (1, [118, 97, 114], 0, p1) [(1, [118, 97, 114], 0, (((text.take (plN x)).length + 6 : Nat) : Int)), (4, [], 0, p3)] ((l.take k ++ [(1, [118, 97, 114], 0, p1), (1, [118, 97, 114], 0, (((text.take (plN x)).length + 6 : Nat) : Int)), (4, [], 0, p3)]).length + 1) (RM.self E0) (.inr rfl) (by
     have := ends_sn (l.take k ++ [(1, [118, 97, 114], 0, p1), (1, [118, 97, 114], 0, (((text.take (plN x)).length + 6 : Nat) : Int))]) (4, [], 0, p3) rfl
     simpa using this)
    have hy1 : (x1.1 != 0) = true := by simpa using sysT_err (es1.trans hx1)
    have hy2 : (x2.1 != 0) = true := by simpa using sysT_err (es2.trans hx2)
    rw [es1, hx1, es2, hx2]
    simp only [outS, Bool.true_or, cond_true, hy1, hy2]
    rfl
end Mo
end Go.Proofs.YtdhgpnejphlfpaaDoor
namespace Go.Proofs.YtdhgpnejphlfpaaDoor
open Go.Lib Go.ChangeAt Go.ChangeShapes Go.WideShapes Go.RowKit
theorem laid_at {P : Program} {w : World} : ∀ (l : List (String × DataW Unit)) (ps : List MemPlace), DataW.LaidVars P w l ps → ∀ (i : Nat) (n : String) (d : DataW Unit), l[i]? = some (n, d) →
  ∃ g t cs fuel p, P.globalNamed n = some g ∧ (P.globals[g]?).map (·.type) = some t ∧ w.var? P n = some cs ∧ DataW.trod (fun _ => ()) P w 0 (fun _ => true) false fuel t cs.toList = some (d, p)
 | [], _, _, i, n, d, h => by simp at h
 | (n0, d0) :: l, ps, h, i, n, d, hi => by
  obtain ⟨g, t, cs, fuel, p, q, h1, h2, h3, h4, h5, _⟩ := h
  cases i with
  | zero =>
   simp only [List.getElem?_cons_zero, Option.some.injEq, Prod.mk.injEq] at hi
   obtain ⟨rfl, rfl⟩ := hi
   exact ⟨g, t, cs, fuel, p, h1, h2, h3, h4⟩
  | succ i => exact laid_at l q h5 i n d (by simpa using hi)
theorem cells_of_strs {H : Type} {enc : TypeId × Value → H} {P : Program} {w : World} {base : Nat} {sp : Nat → Bool} {held : Bool} {fuel : Nat} {t e : TypeId} {n : Nat} {cs : List Value} {zs : List Str} {p : List MemPlace}
  (ht : P.underlying t = some (.array n e)) (he : P.underlying e = some .string) (hce : P.cellsOf e = 1) (hct : P.cellsOf t = n)
  (h : DataW.trod enc P w base sp held fuel t cs = some (.agg (zs.map fun z => .lit (.string z)), p)) : cs = zs.map S := by
 cases fuel with
 | zero => simp [DataW.trod] at h
 | succ fuel =>
  simp only [DataW.trod, ht, hce, hct, Nat.mul_one] at h
  split at h
  ·rename_i hl
   obtain ⟨xs, hm, hx⟩ := Option.map_eq_some_iff.1 h
   have hxs : xs.map (·.1) = zs.map fun z => (DataW.lit (.string z) : DataW H) := by
    have := congrArg Prod.fst hx
    simpa using this
   have hxl : xs.length = n := by simpa using mapM_length hm
   have hzl : zs.length = n := by
    have := congrArg List.length hxs
    simp at this
    omega
   apply List.ext_getElem?
   intro i
   by_cases hi : i < n
   ·obtain ⟨b, hb, hf⟩ := mapM_at hm i i (by simp [hi])
    obtain ⟨z, hc, rfl, _⟩ := DataW.trod_string he hf
    have h1 : cs[i]? = some (.string z) := by
     have := congrArg (·[0]?) hc
     simpa [List.getElem?_take, List.getElem?_drop] using this
    have h2 : (xs.map (·.1))[i]? = some (DataW.lit (.string z.data.toList) : DataW H) := by simp [hb]
    rw [hxs] at h2
    simp only [List.getElem?_map, Option.map_eq_some_iff, DataW.lit.injEq, Lit.string.injEq] at h2
    obtain ⟨z', hz', hz2⟩ := h2
    subst hz2
    simp [h1, hz', S]
   ·rw [List.getElem?_eq_none (by omega), List.getElem?_eq_none (by simp; omega)]
  ·cases h
theorem laidMet_of {P : Program} {laid : List (String × DataW Unit)} {w : World} (hf : (laid.filter fun x => x.2.handleName?.isSome) = []) (h : laidMetH P laid w) : laidMet P laid w := by
 unfold laidMetH at h
 rw [hf] at h
 exact h
theorem gl_strs {P : Program} {laid : List (String × DataW Unit)} {w : World} {Γ : Ctx} (h : laidMet P laid w) (i : Nat) {n : String} {zs : List Str} {g : Nat} {t e : TypeId} {k : Nat}
  (hi : laid[i]? = some (n, .agg (zs.map fun z => .lit (.string z)))) (hg : P.globalNamed n = some g) (hty : (P.globals[g]?).map (·.type) = some t)
  (ht : P.underlying t = some (.array k e)) (he : P.underlying e = some .string) (hce : P.cellsOf e = 1) (hct : P.cellsOf t = k) (hM : ¬ Γ.M g) : (gl g (zs.map S)).P Γ.M w := by
 obtain ⟨ps, hl, _⟩ := h
 obtain ⟨g', t', cs, fuel, p, hg', ht', hv, hd⟩ := laid_at _ _ hl i n _ hi
 obtain rfl := Option.some.inj (hg.symm.trans hg')
 obtain rfl := Option.some.inj (hty.symm.trans ht')
 have e1 := cells_of_strs ht he hce hct hd
 refine ⟨hM, ?_⟩
 unfold World.var? at hv
 rw [hg] at hv
 simp only [Option.bind_some] at hv
 split at hv
 ·rename_i c ty fr hb
  obtain rfl := Option.some.inj hv
  exact ⟨ty, fr, by rw [hb, ← e1]⟩
 ·cases hv
theorem gl_ints {P : Program} {laid : List (String × DataW Unit)} {w : World} {Γ : Ctx} (h : laidMet P laid w) (i : Nat) {n : String} {kd : IntKind} {zs : List Int} {g : Nat} {t e : TypeId} {k : Nat}
  (hi : laid[i]? = some (n, tabData kd zs)) (hg : P.globalNamed n = some g) (hty : (P.globals[g]?).map (·.type) = some t)
  (ht : P.underlying t = some (.array k e)) (he : P.underlying e = some (.int kd)) (hce : P.cellsOf e = 1) (hct : P.cellsOf t = k) (hM : ¬ Γ.M g) : (gl g (zs.map (Value.int kd))).P Γ.M w := by
 obtain ⟨ps, hl, _⟩ := h
 obtain ⟨g', t', cs, fuel, p, hg', ht', hv, hd⟩ := laid_at _ _ hl i n _ hi
 obtain rfl := Option.some.inj (hg.symm.trans hg')
 obtain rfl := Option.some.inj (hty.symm.trans ht')
 have e1 := cells_of_tab ht he hce hct hd
 refine ⟨hM, ?_⟩
 unfold World.var? at hv
 rw [hg] at hv
 simp only [Option.bind_some] at hv
 split at hv
 ·rename_i c ty fr hb
  obtain rfl := Option.some.inj hv
  exact ⟨ty, fr, by rw [hb, ← e1]⟩
 ·cases hv
/-! the row at the start: nothing is owned -/
def NoM (Γ : Ctx) : Prop := ∀ b, ¬ Γ.M b
theorem noM_nil : NoM [] := fun b h => by obtain ⟨it, h, _⟩ := h; cases h
theorem noM_cons {it : Item} {Γ : Ctx} (hp : it.own = []) (h : NoM Γ) : NoM (it :: Γ) := fun b hb => by
 rcases Ctx.M_cons.1 hb with h1 | h1
 ·rw [hp] at h1; cases h1
 ·exact h b h1
theorem sat_start (w : World) : Sat [kept w (fun _ => False)] w := Sat.nil.add rfl ⟨SameEnv.refl w, Nat.le_refl _, fun b _ _ => ⟨noM_nil b, rfl⟩⟩
theorem noM_start (w : World) : NoM [kept w (fun _ => False)] := noM_cons rfl noM_nil
theorem below_end {w w' : World} {Γ : Ctx} {i : Nat} (h : Sat Γ w') (hi : Γ[i]? = some (kept w (fun _ => False))) : Below w.heap.size w w' := by
 obtain ⟨h1, h2, h3⟩ := h.kept hi
 exact ⟨h1.os, h1.tape, h1.output, h2, fun k hk => (h3 k hk (fun h => h)).2⟩
end Go.Proofs.YtdhgpnejphlfpaaDoor
