/-
  Own texts for the statement LassoWalks, cut down to what it needs: StB1, StN, SysErr, StC1, LsW, LsE, StC2, TrREval, StC4, LsK, KFr, KFx, KArg, LsKt. (cut and joined by a program)
-/
import Derived.Test.YtpnogcmollnjeaaGreatDoorLassoWalksA
import Derived.Test.YtpnogcmollnjeaaGreatDoorLassoWalksB
import Derived.Test.YtpnogcmollnjeaaGreatDoorLassoWalksC
import Derived.Test.YtpnogcmollnjeaaGreatDoorLassoWalksD
import Derived.Test.YtpnogcmollnjeaaGreatDoorLassoWalksE
import Derived.Test.YtpnogcmollnjeaaGreatDoorLassoWalksF
import Derived.Lib.LaidTab
import Derived.Below
import Derived.WalkKit
import Derived.ProofKit
import Derived.Test.YtpnogcmollnjeaaGreatDoorRows
import Derived.Carry
import Derived.ChangeSlices
import Derived.OpenShut
namespace Go.Proofs.YtpnogcmollnjeaaGreatDoor
namespace Sp
noncomputable def fits : List (Int × Int) → List Int → Bool
 | s :: S, n :: w => (decide (s.1 ≤ n) && decide (n ≤ s.2)) && fits S w
 | _, _ => true
noncomputable def sL (v w : List Int) (s : Int × Ex) : List Int := w.set s.1.toNat (ev v s.2)
noncomputable def G0 (v : List Int) (c : Sy.Cmd) : List Int := c.2.2.foldl (sL v) v
theorem wo (v w : List Int) (s : Int × Ex) : (sL v w s).length = w.length := by simp [sL]
theorem zM (v : List Int) : ∀ (l : List (Int × Ex)) (w : List Int), (l.foldl (sL v) w).length = w.length
 | [], w => rfl
 | s :: l, w => by rw [List.foldl_cons, zM v l, wo]
theorem sV (v : List Int) (c : Sy.Cmd) : (G0 v c).length = v.length := zM _ _ _
noncomputable def fin (S : List (Int × Int)) (w : List Int) : List Int × Int := bif fits S w then (w, 0) else ([], 6)
noncomputable def enI (v : List Int) : Nat → List Sy.Cmd → List Int
 | _, [] => []
 | k, c :: r => if ev v c.2.1 = 1 then (k : Int) :: enI v (k + 1) r else enI v (k + 1) r
noncomputable def enC (v : List Int) (l : List Sy.Cmd) : List Sy.Cmd := l.filter fun c => decide (ev v c.2.1 = 1)
noncomputable def cq (cmds : List Sy.Cmd) (v : List Int) (i : Int) : List Int := match cmds[i.toNat]? with | some c => G0 v c | none => v
noncomputable def uM (S : List (Int × Int)) (cmds : List Sy.Cmd) (v : List Int) (k : Int) : List Int × Int :=
 if k < 0 ∨ (cmds.length : Int) ≤ k then ([], 10) else fin S (cq cmds v k)
noncomputable def goes (v : List Int) (cmds : List Sy.Cmd) : List (List Int) := (enC v cmds).map (G0 v)
noncomputable def uC (S : List (Int × Int)) (v : List Int) (ws : List (List Int)) : List (List Int) × Int :=
 if ws = [] then ([v], 0) else bif ws.all (fits S) then (lC [] ws, 0) else ([], 6)
noncomputable def eW (S : List (Int × Int)) (cmds : List Sy.Cmd) (v : List Int) : List (List Int) × Int := uC S v (goes v cmds)
structure SafeS (S : List (Int × Int)) (C : List Sy.Cmd) : Prop where
 pos : 1 ≤ S.length
 few : S.length ≤ 16
 field : ∀ f ∈ S, Sy.uN f
 cmds : C.length ≤ 300
 guard : ∀ c ∈ C, c.2.1.sz < 1000000
 sets : ∀ c ∈ C, c.2.2.length ≤ 65537 ∧ ∀ s ∈ c.2.2, 0 ≤ s.1 ∧ s.1 < S.length ∧ s.2.sz < 1000000
structure InS (S : List (Int × Int)) (v : List Int) : Prop where
 len : v.length = S.length
 fit : fits S v = true
theorem Cg : ∀ {S : List (Int × Int)} {v : List Int}, v.length = S.length → (∀ f ∈ S, Sy.uN f) → fits S v = true → I64 v
 | [], [], _, _, _ => fun n hn => by cases hn
 | [], _ :: _, h, _, _ => by simp at h
 | _ :: _, [], h, _, _ => by simp at h
 | s :: S, x :: w, h, hS, hf => by
  simp only [fits, Bool.and_eq_true, decide_eq_true_eq] at hf
  have h1 := hS s (by simp)
  intro n hn
  rcases List.mem_cons.1 hn with rfl | hn
  ·have := h1.lo; have := h1.hi; omega
  ·exact Cg (by simpa using h) (fun f hf => hS f (List.mem_cons_of_mem _ hf)) hf.2 n hn
theorem InS.i64 {S : List (Int × Int)} {cmds : List Sy.Cmd} {v : List Int} (h : InS S v) (hs : SafeS S cmds) : I64 v := Cg h.len hs.field h.fit
theorem InS.ne {S : List (Int × Int)} {cmds : List Sy.Cmd} {v : List Int} (h : InS S v) (hs : SafeS S cmds) : v ≠ [] := fun e => by
 have := h.len; have := hs.pos; subst e; simp at *; omega
theorem InS.short {S : List (Int × Int)} {cmds : List Sy.Cmd} {v : List Int} (h : InS S v) (hs : SafeS S cmds) : v.length < 1000000000 := by
 have := h.len; have := hs.few; omega
/-! within the ranges -/
theorem Oz (s : Int × Int) (n : Int) : jm s n = some (decide (s.1 ≤ n) && decide (n ≤ s.2)) := rfl
theorem Ei (S : List (Int × Int)) (w : List Int) : ∀ (r pre : List Int) (rs ps : List (Int × Int)), w = pre ++ r → S = ps ++ rs → ps.length = pre.length → rs.length = r.length → w.length < 1000 →
  ∀ M, r.length < M → an (jq S w) M (pre.length : Int) = some (bif fits rs r then 0 else 5)
 | [], pre, rs, ps, h, hS, hl, hr, hw, M, hM => by
  obtain ⟨m, rfl⟩ : ∃ m, M = m + 1 := ⟨M - 1, by simp at hM; omega⟩
  rw [ao]
  simp only [jq, Sy.gM h, cond_false]
  have : rs = [] := List.eq_nil_of_length_eq_zero hr
  subst this; rfl
 | x :: r, pre, [], ps, h, hS, hl, hr, hw, M, hM => by simp at hr
 | x :: r, pre, s :: rs, ps, h, hS, hl, hr, hw, M, hM => by
  obtain ⟨m, rfl⟩ : ∃ m, M = m + 1 := ⟨M - 1, by omega⟩
  rw [ao]
  have e1 : idx S (pre.length : Int) = some s := by rw [← hl]; exact Sy.mid hS
  have hlen : pre.length + r.length + 1 = w.length := by rw [h]; simp; omega
  have ih := Ei S w r (pre ++ [x]) rs (ps ++ [s]) (by rw [h]; simp) (by rw [hS]; simp) (by simp; omega) (by simpa using hr) hw m (by simp at hM; omega)
  rw [show ((pre ++ [x]).length : Int) = ((pre.length + 1 : Nat) : Int) by simp] at ih
  simp only [jq, Sy.fk h, cond_true, Sy.mid h, aj, e1, Oz, Pa.bM (show pre.length < 4611686018427387904 by omega), ih, fits]
  cases h1 : (decide (s.1 ≤ x) && decide (x ≤ s.2))
  ·rfl
  ·simp only [Bool.not_true, cond_false, Bool.true_and]
theorem LC (S : List (Int × Int)) (w : List Int) (hl : w.length = S.length) (hw : w.length < 1000) : fT S w = some (bif fits S w then 0 else 5) := by
 unfold fT
 rw [show ((List.length w : Int) != (List.length S : Int)) = false by rw [hl]; simp, cond_false]
 exact Ei S w w [] S [] rfl rfl rfl hl.symm hw au (by show w.length < 2 ^ 64; omega)
/-! a fired command -/
theorem qF {α : Type} (l : List α) (i : Int) (h0 : 0 ≤ i) (h1 : i < l.length) : ∃ x, idx l i = some x ∧ l[i.toNat]? = some x := by
 have h : i.toNat < l.length := by omega
 refine ⟨l[i.toNat], ?_, List.getElem?_eq_getElem h⟩
 unfold idx
 rw [if_pos h0]
 exact List.getElem?_eq_getElem h
theorem z7 (m : Sy.Mdl) (v : List Int) (e : Sy.Cmd) (hn : v.length = m.2.1.length) (hv : v.length < 1000) (he : e.2.2.length ≤ 65537) (hs : ∀ s ∈ e.2.2, 0 ≤ s.1 ∧ s.1 < m.2.1.length ∧ s.2.sz < 1000000) :
  ∀ (r pre : List (Int × Ex)), e.2.2 = pre ++ r → ∀ (w : List Int) (M : Nat), w.length = v.length → r.length < M →
   an (lQ m v e) M (w, (pre.length : Int)) = some (fin m.2.1 (r.foldl (sL v) w))
 | [], pre, h, w, M, hw, hM => by
  obtain ⟨k, rfl⟩ : ∃ k, M = k + 1 := ⟨M - 1, by simp at hM; omega⟩
  rw [ao]
  simp only [lQ, Sy.gM h, cond_false, List.foldl_nil, fin]
  rw [LC m.2.1 w (by omega) (by omega), aj]
  cases hf : fits m.2.1 w <;> rfl
 | s :: r, pre, h, w, M, hw, hM => by
  obtain ⟨k, rfl⟩ : ∃ k, M = k + 1 := ⟨M - 1, by omega⟩
  rw [ao]
  obtain ⟨h0, h1, h2⟩ := hs s (by rw [h]; simp)
  have hlen : pre.length + r.length + 1 = e.2.2.length := by rw [h]; simp; omega
  obtain ⟨x, hx, _⟩ := qF w s.1 h0 (by omega)
  have ih := z7 m v e hn hv he hs r (pre ++ [s]) (by rw [h]; simp) (sL v w s) k (by rw [wo, hw]) (by simp at hM; omega)
  rw [show ((pre ++ [s]).length : Int) = ((pre.length + 1 : Nat) : Int) by simp] at ih
  simp only [lQ, Sy.fk h, cond_true, Sy.mid h, aj]
  rw [E4 s.2 (by omega) v]
  simp only [aj, hx, Pa.bM (show pre.length < 4611686018427387904 by omega)]
  exact ih
theorem CW (v : List Int) (h : v.length < 1000000000) : bP v = some v := by
 unfold bP
 rw [Sy.c7 (Sy.cN (by simp; omega) (by simp; omega)), List.nil_append]
 cases v with
 | nil => simp [zA, both]
 | cons x r => rfl
theorem Ms {m : Sy.Mdl} {v : List Int} (hm : SafeS m.2.1 m.2.2.2.2) (hn : v.length = m.2.1.length) (k : Int) : pW m v k = some (uM m.2.1 m.2.2.2.2 v k) := by
 have hv : v.length < 1000 := by have := hm.few; omega
 unfold pW
 simp only [bu]
 unfold uM
 by_cases hk : k < 0 ∨ (m.2.2.2.2.length : Int) ≤ k
 ·rw [if_pos hk]
  rw [show (decide (k < 0) || decide ((List.length m.2.2.2.2 : Int) ≤ k)) = true by rw [Bool.or_eq_true, decide_eq_true_eq, decide_eq_true_eq]; exact hk, cond_true]
 ·rw [if_neg hk]
  rw [show (decide (k < 0) || decide ((List.length m.2.2.2.2 : Int) ≤ k)) = false by rw [Bool.eq_false_iff]; intro h; rw [Bool.or_eq_true, decide_eq_true_eq, decide_eq_true_eq] at h; exact hk h, cond_false]
  obtain ⟨c, hc, hc2⟩ := qF m.2.2.2.2 k (by omega) (by omega)
  rw [CW v (by omega), aj, hc, aj]
  have hmem : c ∈ m.2.2.2.2 := List.mem_of_getElem? hc2
  have := z7 m v c hn hv (hm.sets c hmem).1 (hm.sets c hmem).2 c.2.2 [] rfl v au rfl (by have := (hm.sets c hmem).1; show _ < 2 ^ 64; omega)
  rw [show (0 : Int) = ((([] : List (Int × Ex)).length : Nat) : Int) from rfl, this]
  unfold cq
  rw [hc2]
  rfl
/-! the commands that may fire -/
theorem Fa (m : Sy.Mdl) (v : List Int) (hm : SafeS m.2.1 m.2.2.2.2) : ∀ (r pre : List Sy.Cmd), m.2.2.2.2 = pre ++ r → ∀ (out : List Int) (M : Nat), out.length ≤ pre.length → r.length < M →
  an (js m v) M (out, (pre.length : Int)) = some (out ++ enI v pre.length r)
 | [], pre, h, out, M, ho, hM => by
  obtain ⟨k, rfl⟩ : ∃ k, M = k + 1 := ⟨M - 1, by simp at hM; omega⟩
  rw [ao]
  simp only [js, Sy.gM h, cond_false, enI, List.append_nil]
 | c :: r, pre, h, out, M, ho, hM => by
  obtain ⟨k, rfl⟩ : ∃ k, M = k + 1 := ⟨M - 1, by omega⟩
  rw [ao]
  have hlen : pre.length + r.length + 1 = m.2.2.2.2.length := by rw [h]; simp; omega
  have h3 := hm.cmds
  have hg := hm.guard c (by rw [h]; simp)
  simp only [js, Sy.fk h, cond_true, Sy.mid h, aj]
  rw [E4 c.2.1 (by omega) v, aj]
  have ih := fun out ho => Fa m v hm r (pre ++ [c]) (by rw [h]; simp) out k ho (by simp at hM; omega)
  rw [show ((pre ++ [c]).length : Int) = ((pre.length + 1 : Nat) : Int) by simp, show (pre ++ [c]).length = pre.length + 1 by simp] at ih
  simp only [Pa.bM (show pre.length < 4611686018427387904 by omega), enI]
  by_cases he : ev v c.2.1 = 1
  ·rw [if_pos he, show (ev v c.2.1 == 1) = true by simpa using he, cond_true, Sy.c7 (Sy.cN (by simp; omega) (by simp; omega)), ih _ (by simp; omega), List.append_assoc]
   rfl
  ·rw [if_neg he, show (ev v c.2.1 == 1) = false by simpa using he, cond_false, ih _ (by omega)]
theorem OS {m : Sy.Mdl} {v : List Int} (hm : SafeS m.2.1 m.2.2.2.2) : pd m v = some (enI v 0 m.2.2.2.2) :=
 Fa m v hm m.2.2.2.2 [] rfl [] au (Nat.le_refl _) (by have := hm.cmds; show _ < 2 ^ 64; omega)
theorem qW (v : List Int) : ∀ (r : List Sy.Cmd) (k : Nat), (enI v k r).length = (enC v r).length
 | [], k => rfl
 | c :: r, k => by
  unfold enI enC
  rw [List.filter_cons]
  by_cases he : ev v c.2.1 = 1
  ·rw [if_pos he, if_pos (by simpa using he), List.length_cons, List.length_cons, qW v r]; rfl
  ·rw [if_neg he, if_neg (by simpa using he), qW v r]; rfl
theorem EI {v : List Int} {i : Int} : ∀ {r : List Sy.Cmd} {k : Nat}, i ∈ enI v k r → ∃ (j : Nat) (c : Sy.Cmd), i = ((k + j : Nat) : Int) ∧ r[j]? = some c ∧ ev v c.2.1 = 1
 | [], k, h => by simp [enI] at h
 | c :: r, k, h => by
  unfold enI at h
  have rec_ : i ∈ enI v (k + 1) r → ∃ (j : Nat) (d : Sy.Cmd), i = ((k + j : Nat) : Int) ∧ (c :: r)[j]? = some d ∧ ev v d.2.1 = 1 := fun h => by
   obtain ⟨j, d, h1, h2, h3⟩ := EI h
   exact ⟨j + 1, d, by rw [h1]; omega, by simpa using h2, h3⟩
  by_cases he : ev v c.2.1 = 1
  ·rw [if_pos he] at h
   rcases List.mem_cons.1 h with rfl | h
   ·exact ⟨0, c, rfl, rfl, he⟩
   ·exact rec_ h
  ·rw [if_neg he] at h
   exact rec_ h
theorem yR (v : List Int) (cmds : List Sy.Cmd) : ∀ (r pre : List Sy.Cmd), cmds = pre ++ r → (enI v pre.length r).map (cq cmds v) = goes v r
 | [], pre, h => rfl
 | c :: r, pre, h => by
  have ih := yR v cmds r (pre ++ [c]) (by rw [h]; simp)
  rw [show (pre ++ [c]).length = pre.length + 1 by simp] at ih
  unfold enI goes enC
  rw [List.filter_cons]
  by_cases he : ev v c.2.1 = 1
  ·rw [if_pos he, if_pos (by simpa using he), List.map_cons, List.map_cons, ih]
   unfold cq
   rw [show ((pre.length : Int)).toNat = pre.length from rfl, show cmds[pre.length]? = some c by rw [h]; simp]
   rfl
  ·rw [if_neg he, if_neg (by simpa using he), ih]; rfl
theorem Kq {v w : List Int} {cmds : List Sy.Cmd} (h : w ∈ goes v cmds) : w.length = v.length := by
 obtain ⟨c, _, rfl⟩ := List.mem_map.1 h
 exact sV v c
theorem IT (v : List Int) (cmds : List Sy.Cmd) : (goes v cmds).length ≤ cmds.length := by
 unfold goes enC
 rw [List.length_map]
 exact List.length_filter_le _ _
theorem Hq {v : List Int} {cmds : List Sy.Cmd} {i : Int} (h : i ∈ enI v 0 cmds) : 0 ≤ i ∧ i < cmds.length := by
 obtain ⟨j, c, rfl, h2, _⟩ := EI h
 have := (List.getElem?_eq_some_iff.1 h2).1
 omega
theorem Ct {S : List (Int × Int)} {cmds : List Sy.Cmd} {v : List Int} (hv : InS S v) : ∀ w ∈ (eW S cmds v).1, InS S w := by
 intro w hw
 unfold eW uC at hw
 split at hw
 ·rw [List.mem_singleton.1 hw]; exact hv
 ·cases ha : (goes v cmds).all (fits S) <;> rw [ha] at hw
  ·cases hw
  ·rcases rS.1 hw with h | h
   ·cases h
   ·exact ⟨by rw [Kq h]; exact hv.len, List.all_eq_true.1 ha w h⟩
theorem tu {S : List (Int × Int)} {cmds : List Sy.Cmd} (v : List Int) : (eW S cmds v).1.length ≤ cmds.length + 1 := by
 unfold eW uC
 split
 ·simp
 ·cases ha : (goes v cmds).all (fits S)
  ·simp
  ·have := Br (goes v cmds) []
   have := IT v cmds
   simp at *; omega
end Sp
end Go.Proofs.YtpnogcmollnjeaaGreatDoor
namespace Go.Proofs.YtpnogcmollnjeaaGreatDoor
namespace Sp
theorem JG {v : List Int} {S : List (Int × Int)} {C : List Sy.Cmd} (hm : SafeS S C) (hv : InS S v) {l : List (List Int)} {at_ : Option (List (Str × Bool))} (hs : Seen l at_) (k : List (List Int) → Option (List (Str × Bool)) → Option ((List (List Int)) × Int)) (hk : ∀ l a, k l a = some (l, 0)) :
  (bif ((List.length l : Int) == 0) then ((bP v).bind fun r76 => (fy r76 l at_).bind fun r81 => k r81.1 r81.2) else some (l, 0)) = some (if l = [] then [v] else l, 0) := by
 by_cases h : l = []
 ·subst h
  rw [show ((List.length ([] : List (List Int)) : Int) == 0) = true from rfl, cond_true, CW v (hv.short hm), aj]
  obtain ⟨at', h4, _⟩ := add_eq (hv.i64 hm) (hv.short hm) (hv.ne hm) (show ([] : List (List Int)).length < 1000000000 by simp) hs
  rw [h4, aj, hk]
  rfl
 ·have e : ((List.length l : Int) == 0) = false := by
   rw [beq_eq_false_iff_ne]
   intro e
   exact h (List.eq_nil_of_length_eq_zero (by omega))
  rw [e, cond_false, if_neg h]
theorem Ai (m : Sy.Mdl) (v : List Int) (hm : SafeS m.2.1 m.2.2.2.2) (hv : InS m.2.1 v) (L : List Int) (hL : ∀ i ∈ L, 0 ≤ i ∧ i < m.2.2.2.2.length) (hLl : L.length ≤ 300) :
  ∀ (r pre : List Int), L = pre ++ r → ∀ (c : Int) (l : List (List Int)) (at_ : Option (List (Str × Bool))) (M : Nat), Seen l at_ → l.length ≤ pre.length → r.length < M →
   an (lS v (m.1, m.2.1, m.2.2.1, m.2.2.2.1, m.2.2.2.2, v) L) M ((pre.length : Int), c, l, at_) =
    some (if (r.map (cq m.2.2.2.2 v)).all (fits m.2.1) = true then (if lC l (r.map (cq m.2.2.2.2 v)) = [] then [v] else lC l (r.map (cq m.2.2.2.2 v)), 0) else ([], 6))
 | [], pre, h, c, l, at_, M, hs, hl, hM => by
  obtain ⟨k, rfl⟩ : ∃ k, M = k + 1 := ⟨M - 1, by simp at hM; omega⟩
  rw [ao]
  simp only [lS, Sy.gM h, cond_false]
  exact JG hm hv hs (fun l _ => some (l, 0)) (fun _ _ => rfl)
 | i :: r, pre, h, c, l, at_, M, hs, hl, hM => by
  obtain ⟨k, rfl⟩ : ∃ k, M = k + 1 := ⟨M - 1, by omega⟩
  rw [ao]
  have hlen : pre.length + r.length + 1 = L.length := by rw [h]; simp; omega
  obtain ⟨hi0, hi1⟩ := hL i (by rw [h]; simp)
  simp only [lS, Sy.fk h, cond_true, Sy.mid h, aj, Bool.not_true, Bool.not_false, cond_false]
  rw [show (m.1, m.2.1, m.2.2.1, m.2.2.2.1, m.2.2.2.2) = m from rfl, Ms hm hv.len i]
  unfold uM
  rw [if_neg (by omega), aj]
  unfold fin
  rw [List.map_cons, List.all_cons]
  obtain ⟨c', _, hc⟩ := qF m.2.2.2.2 i hi0 hi1
  have hfl : (cq m.2.2.2.2 v i).length = m.2.1.length := by unfold cq; rw [hc, ← hv.len]; exact sV v c'
  cases hf : fits m.2.1 (cq m.2.2.2.2 v i)
  ·rw [Bool.false_and, if_neg (by decide)]
   rfl
  ·have hin : InS m.2.1 (cq m.2.2.2.2 v i) := ⟨hfl, hf⟩
   obtain ⟨at', h1, h2⟩ := add_eq (hin.i64 hm) (hin.short hm) (hin.ne hm) (show l.length < 1000000000 by omega) hs
   have hl2 := wP l (cq m.2.2.2.2 v i)
   have hq := Ai m v hm hv L hL hLl r (pre ++ [i]) (by rw [h]; simp) c (jK l (cq m.2.2.2.2 v i)) at' k h2 (by simp; omega) (by simp at hM; omega)
   rw [show ((pre ++ [i]).length : Int) = ((pre.length + 1 : Nat) : Int) by simp] at hq
   rw [cond_true, show ((0 : Int) != 0) = false from rfl, cond_false]
   simp only [h1, aj, Pa.bM (show pre.length < 4611686018427387904 by omega)]
   rw [hq, Bool.true_and]
   rfl
theorem Mh {m : Sy.Mdl} {v : List Int} (hm : SafeS m.2.1 m.2.2.2.2) (hv : InS m.2.1 v) : p7 m v = some (eW m.2.1 m.2.2.2.2 v) := by
 have hlen : (enI v 0 m.2.2.2.2).length ≤ 300 := by
  rw [qW]
  have := List.length_filter_le (fun c : Sy.Cmd => decide (ev v c.2.1 = 1)) m.2.2.2.2
  have := hm.cmds
  unfold enC; omega
 have hq := Ai m v hm hv (enI v 0 m.2.2.2.2) (fun i hi => Hq hi) hlen (enI v 0 m.2.2.2.2) [] rfl 0 [] none au JQ (Nat.le_refl _) (by show _ < 2 ^ 64; omega)
 have hmap : (enI v 0 m.2.2.2.2).map (cq m.2.2.2.2 v) = goes v m.2.2.2.2 := yR v m.2.2.2.2 m.2.2.2.2 [] rfl
 rw [hmap] at hq
 unfold p7 rM
 rw [aj]
 simp only
 rw [show (m.1, m.2.1, m.2.2.1, m.2.2.2.1, m.2.2.2.2) = m from rfl, OS hm, aj]
 rw [show ((([] : List Int).length : Nat) : Int) = 0 from rfl] at hq
 rw [hq]
 congr 1
 unfold eW uC
 cases ha : (goes v m.2.2.2.2).all (fits m.2.1)
 ·have hg : goes v m.2.2.2.2 ≠ [] := fun e => by rw [e] at ha; cases ha
  rw [if_neg hg, if_neg (by decide)]
  rfl
 ·rw [if_pos rfl, cond_true]
  by_cases hg : goes v m.2.2.2.2 = []
  ·rw [if_pos hg, if_pos (by rw [hg]; rfl)]
  ·rw [if_neg hg, if_neg]
   intro e
   cases hgo : goes v m.2.2.2.2 with
   | nil => exact hg hgo
   | cons x r =>
    have : x ∈ lC [] (x :: r) := rS.2 (.inr (by simp))
    rw [hgo] at e
    rw [e] at this
    cases this
end Sp
end Go.Proofs.YtpnogcmollnjeaaGreatDoor
namespace Go.Proofs.YtpnogcmollnjeaaGreatDoor
namespace Sy
open Pa
noncomputable def Er {α : Type} (x : Except Err α) : Prop := ∀ e, x = .error e → e.1 ≠ 0
theorem Er.ok {α : Type} {a : α} : Er (.ok a : Except Err α) := fun e h => by cases h
theorem Er.lit {α : Type} {e : Err} (h : e.1 ≠ 0) : Er (.error e : Except Err α) := fun e' he => by cases he; exact h
theorem Er.bif {α : Type} {c : Bool} {a b : Except Err α} (ha : c = true → Er a) (hb : c = false → Er b) : Er (bif c then a else b) := by cases c; exact hb rfl; exact ha rfl
theorem Er.of {α : Type} {x : Except Err α} (h : Er x) {e : Err} (he : x = .error e) {β : Type} : Er (.error e : Except Err β) := .lit (h e he)
theorem Kd {names : List Str} {ts : List Tok} : Er (pQ names ts) := fun e h => by
 unfold pQ at h
 split at h
 ·rename_i hx
  have h1 := Classical.choose_spec hx
  rw [h] at h1
  rcases h1.err e rfl with h | h | h <;> omega
 ·cases h; decide
theorem ot {x : Str} {ts : List Tok} : Er (aV x ts) := by
 unfold aV
 split
 ·exact .lit (by decide)
 ·exact .bif (fun _ => .ok) (fun _ => .lit (show (2 : Int) ≠ 0 by decide))
theorem Bs {full : Bool} {names procs : List Str} {ts : List Tok} : Er (cL full names procs ts) := by
 unfold cL
 split
 ·exact .lit (by decide)
 ·exact .bif (fun _ => .lit (show (2 : Int) ≠ 0 by decide)) fun _ => .bif (fun _ => .lit (show (3 : Int) ≠ 0 by decide)) fun _ => .bif (fun _ => .lit (show (9 : Int) ≠ 0 by decide)) fun _ => .ok
theorem CD {neg : Bool} {ts : List Tok} : Er (jk neg ts) := by
 unfold jk
 split
 ·exact .lit (by decide)
 ·exact .bif (fun _ => .lit (show (2 : Int) ≠ 0 by decide)) fun _ => .ok
theorem zL {ts : List Tok} : Er (cS ts) := .bif (fun _ => CD) fun _ => CD
theorem Mu {m : Mdl} {ts : List Tok} : Er (iM m ts) := by
 unfold iM
 split
 ·rename_i h; exact Bs.of h
 ·split
  ·rename_i h; exact zL.of h
  ·split
   ·rename_i h; exact zL.of h
   ·split
    ·rename_i h; exact zL.of h
    ·split
     ·rename_i h; exact ot.of h
     ·exact .bif (fun _ => .lit (show (5 : Int) ≠ 0 by decide)) fun _ => .ok
theorem CX {want : Int} {names : List Str} {ts : List Tok} : Er (bW want names ts) := by
 unfold bW
 split
 ·rename_i h; exact Kd.of h
 ·exact .bif (fun h => .lit (by simpa using h)) fun _ => .bif (fun _ => .lit (show (4 : Int) ≠ 0 by decide)) fun _ => .ok
theorem Da {names : List Str} : ∀ (f : Nat) (acc : List (Int × Ex)) (ts : List Tok), Er (cz names f acc ts)
 | 0, _, _ => .lit (show (2 : Int) ≠ 0 by decide)
 | f + 1, acc, ts => by
  unfold cz
  split
  ·exact .lit (by decide)
  ·refine .bif (fun _ => .lit (show (2 : Int) ≠ 0 by decide)) fun _ => .bif (fun _ => .lit (show (3 : Int) ≠ 0 by decide)) fun _ => ?_
   split
   ·rename_i h; exact ot.of h
   ·split
    ·rename_i h; exact CX.of h
    ·exact .bif (fun _ => Da f _ _) fun _ => .ok
theorem LH {m : Mdl} {ts : List Tok} : Er (gw m ts) := by
 unfold gw
 refine .bif (fun _ => .lit (show (9 : Int) ≠ 0 by decide)) fun _ => ?_
 split
 ·rename_i h; exact CX.of h
 ·split
  ·rename_i h; exact ot.of h
  ·split
   ·rename_i h; exact (Da _ _ _).of h
   ·split
    ·rename_i h; exact ot.of h
    ·exact .ok
theorem BM : ∀ (f : Nat) (m : Mdl) (ts : List Tok), Er (fK f m ts)
 | 0, _, _ => .lit (show (2 : Int) ≠ 0 by decide)
 | f + 1, m, ts => by
  unfold fK
  refine .bif (fun _ => .ok) fun _ => ?_
  split
  ·rename_i h; exact LH.of h
  ·exact BM f _ _
theorem Kr {m : Mdl} {ts : List Tok} : Er (kb m ts) := by
 unfold kb
 split
 ·rename_i h; exact Bs.of h
 ·split
  ·rename_i h; exact ot.of h
  ·exact BM _ _ _
theorem s9 : ∀ (f : Nat) (m : Mdl) (ts : List Tok), Er (iA f m ts)
 | 0, _, _ => .lit (show (2 : Int) ≠ 0 by decide)
 | f + 1, m, ts => by
  unfold iA
  split
  ·exact .lit (by decide)
  ·refine .bif (fun _ => .bif (fun _ => .lit (show (2 : Int) ≠ 0 by decide)) fun _ => .ok) fun _ => .bif (fun _ => ?_) fun _ => .bif (fun _ => ?_) fun _ => .lit (show (2 : Int) ≠ 0 by decide)
   ·split
    ·rename_i h; exact Mu.of h
    ·exact s9 f _ _
   ·split
    ·rename_i h; exact Kr.of h
    ·exact s9 f _ _
theorem Jl {text : Str} {e : Err} (h : wB text = .error e) : e.1 ≠ 0 := by
 unfold wB at h
 split at h
 ·cases h; decide
 ·split at h
  ·exact s9 _ _ _ e h
  ·rename_i hl
   cases h
   exact Dr _ _ _ _ hl
end Sy
end Go.Proofs.YtpnogcmollnjeaaGreatDoor
namespace Go.Proofs.YtpnogcmollnjeaaGreatDoor
namespace Sp
/-! rows alike -/
theorem BG (a b : List Int) (hl : a.length = b.length) (ha : a.length < 1000000000) : ∀ (r pre s : List Int), a = pre ++ r → b = pre ++ s → ∀ M, r.length < M → an (fG a b) M (pre.length : Int) = some (r == s)
 | [], pre, s, h, h2, M, hM => by
  obtain ⟨k, rfl⟩ : ∃ k, M = k + 1 := ⟨M - 1, by simp at hM; omega⟩
  rw [ao]
  simp only [fG, Sy.gM h, cond_false]
  have : s = [] := List.eq_nil_of_length_eq_zero (by rw [h, h2] at hl; simpa using hl.symm)
  subst this; rfl
 | x :: r, pre, [], h, h2, M, hM => by rw [h, h2] at hl; simp at hl
 | x :: r, pre, y :: s, h, h2, M, hM => by
  obtain ⟨k, rfl⟩ : ∃ k, M = k + 1 := ⟨M - 1, by omega⟩
  rw [ao]
  have hlen : pre.length + r.length + 1 = a.length := by rw [h]; simp; omega
  simp only [fG, Sy.fk h, cond_true, Sy.mid h, Sy.mid h2, aj, Pa.bM (show pre.length < 4611686018427387904 by omega)]
  by_cases e : x = y
  ·subst e
   have ih := BG a b hl ha r (pre ++ [x]) s (by rw [h]; simp) (by rw [h2]; simp) k (by simp at hM; omega)
   rw [show ((pre ++ [x]).length : Int) = ((pre.length + 1 : Nat) : Int) by simp] at ih
   rw [show (x != x) = false by simp, cond_false, ih]
   simp
  ·rw [show (x != y) = true by simpa using e, cond_true]
   simp [e]
theorem Hx (a b : List Int) (ha : a.length < 1000000000) : di a b = some (a == b) := by
 unfold di
 by_cases hl : a.length = b.length
 ·rw [show ((List.length a : Int) != (List.length b : Int)) = false by rw [hl]; simp, cond_false]
  exact BG a b hl ha a [] b rfl rfl au (by show _ < 2 ^ 64; omega)
 ·rw [show ((List.length a : Int) != (List.length b : Int)) = true by simp; omega, cond_true, beq_eq_false_iff_ne.2 (fun e => hl (by rw [e]))]
/-! the place of a state in a row -/
noncomputable def plc (v : List Int) : Nat → List (List Int) → Int
 | _, [] => -1
 | k, x :: r => if x = v then (k : Int) else plc v (k + 1) r
theorem qO {v : List Int} : ∀ {l : List (List Int)} {k : Nat}, plc v k l < 0 ↔ v ∉ l
 | [], k => by simp [plc]
 | x :: r, k => by
  unfold plc
  by_cases e : x = v
  ·rw [if_pos e]
   constructor
   ·intro h; omega
   ·intro h; exact absurd (by rw [e]; simp) h
  ·rw [if_neg e, qO (l := r)]
   simp only [List.mem_cons, not_or]
   exact ⟨fun h => ⟨fun e2 => e e2.symm, h⟩, fun h => h.2⟩
theorem Ic {v : List Int} : ∀ {l : List (List Int)} {k : Nat}, v ∈ l → ∃ j : Nat, plc v k l = ((k + j : Nat) : Int) ∧ l[j]? = some v
 | [], k, h => by cases h
 | x :: r, k, h => by
  unfold plc
  by_cases e : x = v
  ·rw [if_pos e]
   exact ⟨0, rfl, by rw [e]; rfl⟩
  ·rw [if_neg e]
   rcases List.mem_cons.1 h with h | h
   ·exact absurd h.symm e
   ·obtain ⟨j, h1, h2⟩ := Ic (k := k + 1) h
    exact ⟨j + 1, by rw [h1]; omega, by simpa using h2⟩
/-! within the ranges, as the document says it -/
noncomputable def inB (S : List (Int × Int)) (v : List Int) : Bool := decide (v.length = S.length) && fits S v
theorem gC {S : List (Int × Int)} {v : List Int} : inB S v = true ↔ InS S v := by
 unfold inB
 rw [Bool.and_eq_true, decide_eq_true_eq]
 exact ⟨fun h => ⟨h.1, h.2⟩, fun h => ⟨h.len, h.fit⟩⟩
/-! what the document's walk needs -/
structure pZ (S : List (Int × Int)) (C : List Sy.Cmd) : Prop extends SafeS S C where
 rguard : ∀ c ∈ C, eo (S.length : Int) c.2.1 = true ∧ (rt c.2.1).1 = 2
 rsets : ∀ c ∈ C, ∀ s ∈ c.2.2, eo (S.length : Int) s.2 = true ∧ (rt s.2).1 = 1
theorem MK {m : Sy.Mdl} (h : Sy.Wf m) : pZ m.2.1 m.2.2.2.2 := by
 have hs := h.schema
 have h1 := h.some_
 have h2 := h.names
 have h3 := h.cmds
 refine { pos := by omega, few := by omega, field := h.fields, cmds := by omega, guard := fun c hc => ?_, sets := fun c hc => ⟨(h.cmd c hc).len, fun s hs2 => ?_⟩, rguard := fun c hc => ?_, rsets := fun c hc s hs2 => ?_ }
 ·have := (h.cmd c hc).sz; omega
 ·have k := (h.cmd c hc).sets s hs2
  have := k.var; have := k.sz
  refine ⟨by omega, by omega, by omega⟩
 ·have k := h.cmd c hc
  rw [hs]
  exact ⟨k.may, k.typ.2⟩
 ·have k := (h.cmd c hc).sets s hs2
  rw [hs]
  exact ⟨k.may, k.typ.2⟩
theorem E8 : ∀ {S : List (Int × Int)} {v : List Int}, (∀ (i : Nat) (f : Int × Int) (n : Int), S[i]? = some f → v[i]? = some n → f.1 ≤ n ∧ n ≤ f.2) → fits S v = true
 | [], [], _ => rfl
 | [], _ :: _, _ => rfl
 | _ :: _, [], _ => rfl
 | s :: S, x :: v, h => by
  have h0 := h 0 s x rfl rfl
  simp only [fits, Bool.and_eq_true, decide_eq_true_eq]
  exact ⟨h0, E8 fun i f n h1 h2 => h (i + 1) f n (by simpa using h1) (by simpa using h2)⟩
theorem M1 {m : Sy.Mdl} (h : Sy.Wf m) : InS m.2.1 m.2.2.1 := ⟨by rw [h.init, h.schema], E8 h.first⟩
/-! the system of a text -/
theorem IN (text : Str) : ∃ q, fZ text = some q ∧ (q.2 = true → Sy.Wf q.1) := by
 unfold fZ
 by_cases h : (600 : Int) < (text.length : Int)
 ·rw [decide_eq_true h, cond_true]
  exact ⟨_, rfl, fun h => by cases h⟩
 ·rw [decide_eq_false h, cond_false, Sy.Kj, aj]
  refine ⟨_, rfl, fun h => ?_⟩
  cases hs : Sy.wB text with
  | ok m =>
   exact Sy.Ip hs
  | error e =>
   rw [hs] at h
   exact absurd (by simpa [Sy.wu] using h) (Sy.Jl hs)
end Sp
end Go.Proofs.YtpnogcmollnjeaaGreatDoor
namespace Go.Proofs.YtpnogcmollnjeaaGreatDoor
namespace Ls
open Sp
/-! witnesses of few states -/
abbrev Las := List (List Int) × List (List Int)
structure Small (l : Las) (n : Nat) : Prop where
 stem : l.1.length ≤ n
 cyc : l.2.length ≤ n
 rows1 : ∀ v ∈ l.1, v.length ≤ 40
 rows2 : ∀ v ∈ l.2, v.length ≤ 40
/-! rows one behind the other -/
theorem OE (L : List (List (List Int))) (hl : L.length < 1000000) : ∀ (r pre : List (List (List Int))), L = pre ++ r → ∀ (acc : List (List Int)) (M : Nat), acc.length + r.flatten.length < 1000000 → r.length < M → an (dW L) M (acc, (pre.length : Int)) = some (acc ++ r.flatten)
 | [], pre, h, acc, M, ha, hM => by
  obtain ⟨m, rfl⟩ : ∃ m, M = m + 1 := ⟨M - 1, by simp at hM; omega⟩
  rw [ao]
  simp only [dW, Sy.gM h, cond_false, List.flatten_nil, List.append_nil]
 | x :: r, pre, h, acc, M, ha, hM => by
  obtain ⟨m, rfl⟩ : ∃ m, M = m + 1 := ⟨M - 1, by omega⟩
  rw [ao]
  have hlen : pre.length + r.length + 1 = L.length := by rw [h]; simp; omega
  simp only [List.flatten_cons, List.length_append] at ha
  have ih := OE L hl r (pre ++ [x]) (by rw [h]; simp) (acc ++ x) m (by rw [List.length_append]; omega) (by simp at hM; omega)
  rw [show ((pre ++ [x]).length : Int) = ((pre.length + 1 : Nat) : Int) by simp] at ih
  simp only [dW, Sy.fk h, cond_true, Sy.mid h, aj, Pa.bM (show pre.length < 4611686018427387904 by omega)]
  rw [Sy.c7 (Sy.cN (by omega) (by omega)), ih]
  simp
theorem On (L : List (List (List Int))) (hl : L.length < 1000000) (hL : L.flatten.length < 1000000) : ∀ (r pre : List (List (List Int))), L = pre ++ r → ∀ (M : Nat), r.length < M → an (dV L) M ((pre.flatten.length : Int), (pre.length : Int)) = some L.flatten
 | [], pre, h, M, hM => by
  obtain ⟨m, rfl⟩ : ∃ m, M = m + 1 := ⟨M - 1, by simp at hM; omega⟩
  rw [ao]
  have e : pre = L := by rw [h]; simp
  simp only [dV, Sy.gM h, cond_false]
  rw [e]
  have hg : xy (L.flatten.length : Int) = some [] := by
   unfold xy
   rw [decide_eq_true (show (0 : Int) ≤ (L.flatten.length : Int) by omega), Sy.c7 (by rw [Bool.true_and]; exact Sy.cN (by rw [Int.toNat_natCast]; omega) (by rw [Int.toNat_natCast]; omega))]
  rw [hg, aj]
  have := OE L hl L [] rfl [] au (by simpa using hL) (by show _ < 2 ^ 64; omega)
  rw [show ((([] : List (List (List Int))).length : Nat) : Int) = 0 from rfl] at this
  rw [this, List.nil_append]
 | x :: r, pre, h, M, hM => by
  obtain ⟨m, rfl⟩ : ∃ m, M = m + 1 := ⟨M - 1, by omega⟩
  rw [ao]
  have hlen : pre.length + r.length + 1 = L.length := by rw [h]; simp; omega
  have hf : pre.flatten.length + x.length ≤ L.flatten.length := by rw [h]; simp only [List.flatten_append, List.flatten_cons, List.length_append]; omega
  have ih := On L hl hL r (pre ++ [x]) (by rw [h]; simp) m (by simp at hM; omega)
  rw [show ((pre ++ [x]).length : Int) = ((pre.length + 1 : Nat) : Int) by simp, show ((pre ++ [x]).flatten.length : Int) = (pre.flatten.length : Int) + (x.length : Int) by simp] at ih
  have hw : IntKind.i64.wrap ((pre.flatten.length : Int) + (x.length : Int)) = (pre.flatten.length : Int) + (x.length : Int) := w64 (by omega)
  simp only [dV, Sy.fk h, cond_true, Sy.mid h, aj, Pa.bM (show pre.length < 4611686018427387904 by omega), hw, ih]
  rw [decide_eq_false (by omega), cond_false]
theorem HU (L : List (List (List Int))) (hl : L.length < 1000000) (hL : L.flatten.length < 1000000) : fu L = some L.flatten := by
 have := On L hl hL L [] rfl au (by show _ < 2 ^ 64; omega)
 exact this
/-! ranges of all states -/
noncomputable def inB (S : List (Int × Int)) (v : List Int) : Bool := decide (v.length = S.length) && fits S v
theorem gC {S : List (Int × Int)} {v : List Int} : inB S v = true ↔ InS S v := by
 unfold inB
 rw [Bool.and_eq_true, decide_eq_true_eq]
 exact ⟨fun h => ⟨h.1, h.2⟩, fun h => ⟨h.len, h.fit⟩⟩
theorem Mq : @tO = @fT := rfl
theorem OY {S : List (Int × Int)} (hS : S.length < 1000) (v : List Int) (N I P C) : lV v N S I P C = some (inB S v) := by
 unfold lV
 rw [Mq]
 by_cases hl : v.length = S.length
 ·rw [LC S v hl (by omega), aj]
  unfold inB
  rw [decide_eq_true hl, Bool.true_and]
  cases fits S v <;> rfl
 ·unfold fT inB
  rw [show ((List.length v : Int) != (List.length S : Int)) = true by simp; omega, cond_true, aj, decide_eq_false hl]
  rfl
theorem C7 {S : List (Int × Int)} (hS : S.length < 1000) (l : List (List Int)) (hl : l.length < 1000000) (N I P C) : ∀ (r pre : List (List Int)), l = pre ++ r → ∀ M, r.length < M → an (eU l N S I P C) M (pre.map (inB S), (pre.length : Int)) = some (l.map (inB S))
 | [], pre, h, M, hM => by
  obtain ⟨m, rfl⟩ : ∃ m, M = m + 1 := ⟨M - 1, by simp at hM; omega⟩
  rw [ao]
  simp only [eU, Sy.gM h, cond_false]
  rw [h, List.append_nil]
 | x :: r, pre, h, M, hM => by
  obtain ⟨m, rfl⟩ : ∃ m, M = m + 1 := ⟨M - 1, by omega⟩
  rw [ao]
  have hlen : pre.length + r.length + 1 = l.length := by rw [h]; simp; omega
  have ih := C7 hS l hl N I P C r (pre ++ [x]) (by rw [h]; simp) m (by simp at hM; omega)
  rw [show ((pre ++ [x]).length : Int) = ((pre.length + 1 : Nat) : Int) by simp, List.map_append, List.map_cons, List.map_nil] at ih
  simp only [eU, Sy.fk h, cond_true, Sy.mid h, aj, OY hS, Pa.bM (show pre.length < 4611686018427387904 by omega)]
  rw [Sy.c7 (Sy.cN (by simp; omega) (by simp; omega)), ih]
theorem nJ (l : List Bool) (hl : l.length < 1000000) : ∀ (r pre : List Bool), l = pre ++ r → ∀ M, r.length < M → ∃ i : Int, an (dL l false) M (pre.length : Int) = some i ∧ (decide (0 ≤ i)) = r.contains false
 | [], pre, h, M, hM => by
  obtain ⟨m, rfl⟩ : ∃ m, M = m + 1 := ⟨M - 1, by simp at hM; omega⟩
  rw [ao]
  simp only [dL, Sy.gM h, cond_false]
  exact ⟨_, rfl, rfl⟩
 | x :: r, pre, h, M, hM => by
  obtain ⟨m, rfl⟩ : ∃ m, M = m + 1 := ⟨M - 1, by omega⟩
  rw [ao]
  have hlen : pre.length + r.length + 1 = l.length := by rw [h]; simp; omega
  obtain ⟨i, h1, h2⟩ := nJ l hl r (pre ++ [x]) (by rw [h]; simp) m (by simp at hM; omega)
  rw [show ((pre ++ [x]).length : Int) = ((pre.length + 1 : Nat) : Int) by simp] at h1
  simp only [dL, Sy.fk h, cond_true, Sy.mid h, aj, Pa.bM (show pre.length < 4611686018427387904 by omega), h1]
  cases x
  ·exact ⟨_, rfl, by simp⟩
  ·exact ⟨i, rfl, by rw [h2]; simp⟩
theorem Hp (l : List Bool) (hl : l.length < 1000000) : dN l false = some (l.contains false) := by
 unfold dN gV
 obtain ⟨i, h1, h2⟩ := nJ l hl l [] rfl au (by show _ < 2 ^ 64; omega)
 rw [show ((([] : List Bool).length : Nat) : Int) = 0 from rfl] at h1
 rw [h1, aj, h2]
/-! alike, and among -/
theorem ym (a b : List Int) (hl : a.length = b.length) (ha : a.length < 1000000000) : ∀ (r pre s : List Int), a = pre ++ r → b = pre ++ s → ∀ M, r.length < M → an (eA a b) M (pre.length : Int) = some (r == s)
 | [], pre, s, h, h2, M, hM => by
  obtain ⟨m, rfl⟩ : ∃ m, M = m + 1 := ⟨M - 1, by simp at hM; omega⟩
  rw [ao]
  have : s = [] := List.eq_nil_of_length_eq_zero (by rw [h, h2] at hl; simp only [List.length_append, List.length_nil] at hl; omega)
  subst this
  simp only [eA, Sy.gM h, cond_false]
  rfl
 | x :: r, pre, [], h, h2, M, hM => by rw [h, h2] at hl; simp at hl
 | x :: r, pre, y :: s, h, h2, M, hM => by
  obtain ⟨m, rfl⟩ : ∃ m, M = m + 1 := ⟨M - 1, by omega⟩
  rw [ao]
  have hlen : pre.length + r.length + 1 = a.length := by rw [h]; simp; omega
  simp only [eA, Sy.fk h, cond_true, Sy.mid h, Sy.mid h2, aj]
  by_cases e : x = y
  ·subst e
   have ih := ym a b hl ha r (pre ++ [x]) s (by rw [h]; simp) (by rw [h2]; simp) m (by simp at hM; omega)
   rw [show ((pre ++ [x]).length : Int) = ((pre.length + 1 : Nat) : Int) by simp] at ih
   rw [show (x != x) = false by simp, cond_false, Pa.bM (show pre.length < 4611686018427387904 by omega), ih]
   simp
  ·rw [show (x != y) = true by simpa using e, cond_true, show ((x :: r) == (y :: s)) = false by simp [e]]
theorem CR (a b : List Int) (ha : a.length < 1000000000) : ec a b = some (a == b) := by
 unfold ec
 by_cases hl : a.length = b.length
 ·rw [show ((List.length a : Int) != (List.length b : Int)) = false by rw [hl]; simp, cond_false]
  exact ym a b hl ha a [] b rfl rfl au (by show _ < 2 ^ 64; omega)
 ·rw [show ((List.length a : Int) != (List.length b : Int)) = true by simp; omega, cond_true, beq_eq_false_iff_ne.2 (fun e => hl (by rw [e]))]
theorem yo (l : List (List Int)) (y : List Int) (hy : y.length < 1000000000) (hl : l.length < 1000000) : ∀ (r pre : List (List Int)), l = pre ++ r → ∀ M, r.length < M → ∃ i : Int, an (dj l y) M (pre.length : Int) = some i ∧ (decide (0 ≤ i)) = r.contains y
 | [], pre, h, M, hM => by
  obtain ⟨m, rfl⟩ : ∃ m, M = m + 1 := ⟨M - 1, by simp at hM; omega⟩
  rw [ao]
  simp only [dj, Sy.gM h, cond_false]
  exact ⟨_, rfl, rfl⟩
 | x :: r, pre, h, M, hM => by
  obtain ⟨m, rfl⟩ : ∃ m, M = m + 1 := ⟨M - 1, by omega⟩
  rw [ao]
  have hlen : pre.length + r.length + 1 = l.length := by rw [h]; simp; omega
  obtain ⟨i, h1, h2⟩ := yo l y hy hl r (pre ++ [x]) (by rw [h]; simp) m (by simp at hM; omega)
  rw [show ((pre ++ [x]).length : Int) = ((pre.length + 1 : Nat) : Int) by simp] at h1
  simp only [dj, Sy.fk h, cond_true, Sy.mid h, aj, lE, CR y x hy, Pa.bM (show pre.length < 4611686018427387904 by omega), h1]
  by_cases e : y = x
  ·rw [show (y == x) = true by simpa using e, cond_true]
   exact ⟨_, rfl, by rw [e]; simp⟩
  ·rw [show (y == x) = false by simpa using e, cond_false]
   exact ⟨i, rfl, by rw [h2, List.contains_cons, show (y == x) = false by simpa using e, Bool.false_or]⟩
theorem IQ (l : List (List Int)) (y : List Int) (hy : y.length < 1000000000) (hl : l.length < 1000000) : dk l y = some (l.contains y) := by
 unfold dk fW
 obtain ⟨i, h1, h2⟩ := yo l y hy hl l [] rfl au (by show _ < 2 ^ 64; omega)
 rw [show ((([] : List (List Int)).length : Nat) : Int) = 0 from rfl] at h1
 rw [h1, aj, h2]
/-! steps and ways -/
noncomputable def mP (m : Sy.Mdl) (x y : List Int) : Bool := ((eW m.2.1 m.2.2.2.2 x).2 == 0) && (eW m.2.1 m.2.2.2.2 x).1.contains y
noncomputable def chain (m : Sy.Mdl) : List Int → List (List Int) → Bool
 | _, [] => true
 | x, y :: r => mP m x y && chain m y r
noncomputable def zE (m : Sy.Mdl) : List (List Int) → Bool
 | [] => false
 | x :: r => (x == m.2.2.1) && chain m x r
noncomputable def sd (m : Sy.Mdl) (l : Las) : Bool := match l.2 with
 | [] => false
 | c :: _ => (l.1 ++ l.2).all (inB m.2.1) && zE m (l.1 ++ l.2 ++ [c])
theorem OX {m : Sy.Mdl} (hm : SafeS m.2.1 m.2.2.2.2) {x : List Int} (hx : InS m.2.1 x) (y : List Int) (hy : y.length < 1000000000) : lW x y m.1 m.2.1 m.2.2.1 m.2.2.2.1 m.2.2.2.2 = some (mP m x y) := by
 have hfew := tu (S := m.2.1) (cmds := m.2.2.2.2) x
 have hc := hm.cmds
 unfold lW mP
 rw [show (m.1, m.2.1, m.2.2.1, m.2.2.2.1, m.2.2.2.2) = m from rfl, Mh hm hx, aj]
 simp only [bu]
 rw [IQ _ y hy (by omega), Fl]
 cases ((eW m.2.1 m.2.2.2.2 x).2 == 0) <;> rfl
theorem x7 {m : Sy.Mdl} (hm : SafeS m.2.1 m.2.2.2.2) (l : List (List Int)) (hl : l.length < 1000000) (hi : ∀ v ∈ l, InS m.2.1 v) : ∀ (r pre : List (List Int)) (x : List Int), l = pre ++ x :: r → ∀ M, r.length < M →
  an (ig l m.1 m.2.1 m.2.2.1 m.2.2.2.1 m.2.2.2.2) M ((pre.length + 1 : Nat) : Int) = some (chain m x r)
 | [], pre, x, h, M, hM => by
  obtain ⟨k, rfl⟩ : ∃ k, M = k + 1 := ⟨M - 1, by simp at hM; omega⟩
  rw [ao]
  have hlen : l.length = pre.length + 1 := by rw [h]; simp
  simp only [ig]
  rw [decide_eq_false (by omega), cond_false, chain]
 | y :: r, pre, x, h, M, hM => by
  obtain ⟨k, rfl⟩ : ∃ k, M = k + 1 := ⟨M - 1, by omega⟩
  rw [ao]
  have hlen : l.length = pre.length + r.length + 2 := by rw [h]; simp; omega
  have ih := x7 hm l hl hi r (pre ++ [x]) y (by rw [h]; simp) k (by simp at hM; omega)
  rw [show (pre ++ [x]).length = pre.length + 1 by simp] at ih
  have e1 : idx l (IntKind.i64.wrap (((pre.length + 1 : Nat) : Int) - 1)) = some x := by
   rw [w64 (by omega), show ((pre.length + 1 : Nat) : Int) - 1 = (pre.length : Int) by omega]
   exact Sy.mid h
  have e2 : idx l ((pre.length + 1 : Nat) : Int) = some y := by
   have h' : l = (pre ++ [x]) ++ y :: r := by rw [h]; simp
   have := Sy.mid h'
   rwa [show (pre ++ [x]).length = pre.length + 1 by simp] at this
  have hx := hi x (by rw [h]; simp)
  have hy := hi y (by rw [h]; simp)
  simp only [ig]
  rw [decide_eq_true (by omega), cond_true, e1, aj, e2, aj, OX hm hx y (hy.short hm), aj, Pa.bM (show pre.length + 1 < 4611686018427387904 by omega), ih, chain]
  cases mP m x y <;> rfl
theorem Mr {S : List (Int × Int)} (l : List (List Int)) : (l.map (inB S)).contains false = !(l.all (inB S)) := by
 induction l with
 | nil => rfl
 | cons x r ih =>
  rw [List.map_cons, List.contains_cons, ih, List.all_cons]
  cases inB S x <;> cases r.all (inB S) <;> rfl
theorem HH {m : Sy.Mdl} (hm : SafeS m.2.1 m.2.2.2.2) {l : Las} {n : Nat} (hs : l.1.length + l.2.length ≤ n) (hn : n < 100000) (hr : ∀ v ∈ l.1 ++ l.2, v.length < 1000000000) : fO m l = some (sd m l) := by
 obtain ⟨st, cy⟩ := l
 simp only at hs hr
 unfold fO
 simp only
 cases cy with
 | nil => rfl
 | cons c r =>
  rw [show sd m (st, c :: r) = ((st ++ (c :: r)).all (inB m.2.1) && zE m (st ++ (c :: r) ++ [c])) from rfl]
  simp only [List.length_cons] at hs
  rw [show ((List.length (c :: r) : Int) == 0) = false by simp; omega, cond_false]
  rw [Sy.c7 (show eK 0 1 (List.length (c :: r)) = true by unfold eK; simp; omega), show bO (c :: r) 0 1 = [c] from rfl]
  have hcat : ([st, c :: r, [c]] : List (List (List Int))).flatten = st ++ (c :: r) ++ [c] := by simp
  rw [HU _ (by simp) (by rw [hcat]; simp; omega), aj, hcat]
  have hS : m.2.1.length < 1000 := by have := hm.few; omega
  unfold jj
  have hmap := C7 hS (st ++ (c :: r) ++ [c]) (by simp; omega) m.1 m.2.2.1 m.2.2.2.1 m.2.2.2.2 (st ++ (c :: r) ++ [c]) [] rfl au (by simp; show _ < 2 ^ 64; omega)
  rw [show ((([] : List (List Int)).length : Nat) : Int) = 0 from rfl, List.map_nil] at hmap
  rw [hmap, aj, Hp _ (by simp; omega), aj, Mr]
  have hall : (st ++ (c :: r) ++ [c]).all (inB m.2.1) = (st ++ (c :: r)).all (inB m.2.1) := by
   rw [List.all_append]
   cases h : (st ++ (c :: r)).all (inB m.2.1)
   ·rfl
   ·rw [Bool.true_and]
    rw [List.all_append, List.all_cons] at h
    simp only [Bool.and_eq_true] at h
    simp [h.2.1]
  rw [hall]
  cases h : (st ++ (c :: r)).all (inB m.2.1)
  ·rfl
  ·have hin : ∀ v ∈ st ++ (c :: r) ++ [c], InS m.2.1 v := fun v hv => gC.1 (List.all_eq_true.1 (hall.trans h) v hv)
   obtain ⟨x, q, hxq⟩ : ∃ x q, st ++ (c :: r) ++ [c] = x :: q := by
    cases st with
    | nil => exact ⟨_, _, rfl⟩
    | cons a b => exact ⟨_, _, rfl⟩
   have hlq : (x :: q).length < 1000000 := by rw [← hxq]; simp; omega
   rw [hxq] at hin ⊢
   rw [zE]
   simp only [Bool.not_true, Bool.not_false, dT, Bool.false_or, bu, Bool.true_and]
   rw [show idx (x :: q) 0 = some x from rfl, aj, CR x m.2.2.1 ((hin x (by simp)).short hm), aj]
   cases hx : x == m.2.2.1
   ·rfl
   ·have := x7 hm (x :: q) hlq hin q [] x rfl au (by simp at hlq; show _ < 2 ^ 64; omega)
    rw [show ((([] : List (List Int)).length + 1 : Nat) : Int) = 1 from rfl] at this
    simp only [Bool.not_true, cond_false, Bool.true_and]
    unfold mI
    rw [this, aj]
end Ls
end Go.Proofs.YtpnogcmollnjeaaGreatDoor
namespace Go.Proofs.YtpnogcmollnjeaaGreatDoor
namespace Ls
open Sp
/-! which trees are formulas, as the document says it -/
/-! a formula's negation -/
noncomputable def neg (e : Ex) : Ex := .mk 15 0 0 [e]
theorem Gp : ji = some true := by kernel_rfl
end Ls
end Go.Proofs.YtpnogcmollnjeaaGreatDoor
namespace Go.Proofs.YtpnogcmollnjeaaGreatDoor
namespace Sp
theorem xN (l : List (List Int)) (v : List Int) (hl : l.length < 1000000000) (hs : ∀ w ∈ l, w.length < 1000000000) : ∀ (r pre : List (List Int)), l = pre ++ r → ∀ M, r.length < M → an (dM l v) M (pre.length : Int) = some (plc v pre.length r)
 | [], pre, h, M, hM => by
  obtain ⟨k, rfl⟩ : ∃ k, M = k + 1 := ⟨M - 1, by simp at hM; omega⟩
  rw [ao]
  simp only [dM, Sy.gM h, cond_false, plc]
 | x :: r, pre, h, M, hM => by
  obtain ⟨k, rfl⟩ : ∃ k, M = k + 1 := ⟨M - 1, by omega⟩
  rw [ao]
  have hlen : pre.length + r.length + 1 = l.length := by rw [h]; simp; omega
  have ih := xN l v hl hs r (pre ++ [x]) (by rw [h]; simp) k (by simp at hM; omega)
  rw [show ((pre ++ [x]).length : Int) = ((pre.length + 1 : Nat) : Int) by simp, show (pre ++ [x]).length = pre.length + 1 by simp] at ih
  simp only [dM, Sy.fk h, cond_true, Sy.mid h, aj, Pa.bM (show pre.length < 4611686018427387904 by omega)]
  rw [Hx x v (hs x (by rw [h]; simp)), aj, plc]
  by_cases e : x = v
  ·rw [if_pos e, show (x == v) = true by simpa using e, cond_true]
  ·rw [if_neg e, show (x == v) = false by simpa using e, cond_false]; exact ih
theorem wU (l : List (List Int)) (v : List Int) (hl : l.length < 1000000000) (hs : ∀ w ∈ l, w.length < 1000000000) : dx l v = some (plc v 0 l) :=
 xN l v hl hs l [] rfl au (by show _ < 2 ^ 64; omega)
theorem Gk (l : List (List Int)) (v : List Int) : jg l v = dx l v := rfl
end Sp
end Go.Proofs.YtpnogcmollnjeaaGreatDoor
namespace Go.Proofs.YtpnogcmollnjeaaGreatDoor
theorem JF (op n a' : Int) (l : List Ex) (v : List Int) (a b : Int) (hab : 15 ≤ op → (a = 0 ∨ a = 1) ∧ (b = 0 ∨ b = 1)) : fq (.mk op n a' l) v a b = some (evF op n v a b) := by
 have hc : (op = 1 ∨ op = 2 ∨ op = 3 ∨ op = 4 ∨ op = 5 ∨ op = 6 ∨ op = 7 ∨ op = 8 ∨ op = 9 ∨ op = 10 ∨ op = 11 ∨ op = 12 ∨ op = 13 ∨ op = 15 ∨ op = 16 ∨ op = 17 ∨ op = 18 ∨ op = 19) ∨ (op < 1 ∨ op = 14 ∨ 19 < op) := by omega
 rcases hc with hc | hc
 ·rcases hc with rfl | rfl | rfl | rfl | rfl | rfl | rfl | rfl | rfl | rfl | rfl | rfl | rfl | rfl | rfl | rfl | rfl | rfl
  ·rfl
  ·show (bif (decide (0 ≤ n) && decide (n < (List.length v : Int))) then (idx v n).bind (fun z => some z) else some 0) = some (bif decide (n < 0) || decide ((List.length v : Int) ≤ n) then 0 else v.getD n.toNat 0)
   by_cases h0 : 0 ≤ n
   ·by_cases h1 : n < (List.length v : Int)
    ·rw [decide_eq_true h0, decide_eq_true h1, decide_eq_false (by omega), decide_eq_false (by omega)]
     have : idx v n = some (v.getD n.toNat 0) := by
      unfold idx
      rw [if_pos h0, List.getElem?_eq_getElem (by omega)]
      simp [List.getD, List.getElem?_eq_getElem (show n.toNat < v.length by omega)]
     rw [this]; rfl
    ·rw [decide_eq_true h0, decide_eq_false h1, decide_eq_false (by omega), decide_eq_true (by omega)]; rfl
   ·rw [decide_eq_false h0, decide_eq_true (show n < 0 by omega)]; rfl
  ·rfl
  ·rfl
  ·rfl
  ·rfl
  ·show (aA (a == b)).bind (fun z => some z) = some (tr ((a == b) != false))
   cases (a == b) <;> rfl
  ·show (aA (!(a == b))).bind (fun z => some z) = some (tr ((a == b) != true))
   cases (a == b) <;> rfl
  ·show (aA (decide (a < b))).bind (fun z => some z) = some (tr (decide (a < b) != false))
   cases decide (a < b) <;> rfl
  ·show (aA (decide (a ≤ b))).bind (fun z => some z) = some (tr (decide (a ≤ b) != false))
   cases decide (a ≤ b) <;> rfl
  ·show (aA (decide (b < a))).bind (fun z => some z) = some (tr (decide (a ≤ b) != true))
   by_cases h : a ≤ b
   ·rw [decide_eq_true h, decide_eq_false (by omega)]; rfl
   ·rw [decide_eq_false h, decide_eq_true (by omega)]; rfl
  ·show (aA (decide (b ≤ a))).bind (fun z => some z) = some (tr (decide (a < b) != true))
   by_cases h : a < b
   ·rw [decide_eq_true h, decide_eq_false (by omega)]; rfl
   ·rw [decide_eq_false h, decide_eq_true (by omega)]; rfl
  ·rfl
  ·obtain ⟨ha, hb⟩ := hab (by omega)
   rcases ha with rfl | rfl <;> rfl
  ·obtain ⟨ha, hb⟩ := hab (by omega)
   rcases ha with rfl | rfl <;> rcases hb with rfl | rfl <;> rfl
  ·obtain ⟨ha, hb⟩ := hab (by omega)
   rcases ha with rfl | rfl <;> rcases hb with rfl | rfl <;> rfl
  ·obtain ⟨ha, hb⟩ := hab (by omega)
   rcases ha with rfl | rfl <;> rcases hb with rfl | rfl <;> rfl
  ·show (aA (a == b)).bind (fun z => some z) = some (tr ((a == b) != false))
   cases (a == b) <;> rfl
 ·have b1 : (op == 1) = false := beq_eq_false_iff_ne.2 (by omega)
  have b2 : (op == 2) = false := beq_eq_false_iff_ne.2 (by omega)
  have b3 : (op == 3) = false := beq_eq_false_iff_ne.2 (by omega)
  have b4 : (op == 4) = false := beq_eq_false_iff_ne.2 (by omega)
  have b5 : (op == 5) = false := beq_eq_false_iff_ne.2 (by omega)
  have b6 : (op == 6) = false := beq_eq_false_iff_ne.2 (by omega)
  have b7 : (op == 7) = false := beq_eq_false_iff_ne.2 (by omega)
  have b8 : (op == 8) = false := beq_eq_false_iff_ne.2 (by omega)
  have b9 : (op == 9) = false := beq_eq_false_iff_ne.2 (by omega)
  have b10 : (op == 10) = false := beq_eq_false_iff_ne.2 (by omega)
  have b11 : (op == 11) = false := beq_eq_false_iff_ne.2 (by omega)
  have b12 : (op == 12) = false := beq_eq_false_iff_ne.2 (by omega)
  have b13 : (op == 13) = false := beq_eq_false_iff_ne.2 (by omega)
  have b15 : (op == 15) = false := beq_eq_false_iff_ne.2 (by omega)
  have b16 : (op == 16) = false := beq_eq_false_iff_ne.2 (by omega)
  have b17 : (op == 17) = false := beq_eq_false_iff_ne.2 (by omega)
  have b18 : (op == 18) = false := beq_eq_false_iff_ne.2 (by omega)
  have b19 : (op == 19) = false := beq_eq_false_iff_ne.2 (by omega)
  simp only [fq, Ex.op, evF, b1, b2, b3, b4, b5, b6, b7, b8, b9, b10, b11, b12, b13, b15, b16, b17, b18, b19, cond_false]
theorem M7 (k : Ex × List Int → Option Int) (e : Ex) (v : List Int) (hk : ∀ x ∈ e.l, k (x, v) = some (ev v x)) (hab : 15 ≤ e.op → (ev0 v e.l = 0 ∨ ev0 v e.l = 1) ∧ (ev1 v e.l = 0 ∨ ev1 v e.l = 1)) :
  fM k e v = some (ev v e) := by
 obtain ⟨op, n, a', l⟩ := e
 rw [GS]
 have key := JF op n a' l v (ev0 v l) (ev1 v l) hab
 rw [show evF (Ex.mk op n a' l).op (Ex.mk op n a' l).n v (ev0 v (Ex.mk op n a' l).l) (ev1 v (Ex.mk op n a' l).l) = evF op n v (ev0 v l) (ev1 v l) from rfl, ← key]
 match l, hk with
 | [], _ => simp only [ev0, ev1]; rfl
 | [x], hk =>
  have hx := hk x (by simp [Ex.l])
  simp only [ev0, ev1]
  show (k (x, v)).bind _ = _
  rw [hx]; rfl
 | x :: y :: r, hk =>
  have hx := hk x (by simp [Ex.l])
  have hy := hk y (by simp [Ex.l])
  simp only [ev0, ev1]
  have d0 : decide ((0 : Int) < (List.length (x :: y :: r) : Int)) = true := decide_eq_true (by simp only [List.length_cons]; omega)
  have d1 : decide ((1 : Int) < (List.length (x :: y :: r) : Int)) = true := decide_eq_true (by simp only [List.length_cons]; omega)
  show (bif decide ((0 : Int) < (List.length (x :: y :: r) : Int)) then _ else _) = _
  rw [d0]
  show (k (x, v)).bind _ = _
  rw [hx]
  show (bif decide ((1 : Int) < (List.length (x :: y :: r) : Int)) then _ else _) = _
  rw [d1]
  show (k (y, v)).bind _ = _
  rw [hy]; rfl
theorem FP {vars : Int} (v : List Int) : ∀ (N : Nat) (e : Ex), e.sz ≤ N → eo vars e = true → ((rt e).1 = 1 ∨ (rt e).1 = 2) → an (fun k (s : Ex × List Int) => fM k s.1 s.2) N (e, v) = some (ev v e) := by
 intro N
 induction N with
 | zero => intro e h; have := q6 e; omega
 | succ N ih =>
  intro e h hm ht
  rw [ao]
  refine M7 _ e v (fun x hx => ih x (by have := pS hx; omega) ((pU hm).2.2.2.2 x hx) (Ec hm ht x hx)) (fun h15 => NA v (fun x hx => ?_))
  rw [rt_eq] at ht
  have h2 : (rtA e.op e.at_ (e.l.length : Int) e.l 0 0 0).1 = 2 := by
   rcases ht with h | h
   ·have := zD _ _ _ _ _ _ _ h; omega
   ·exact h
  exact N9 v x.sz x (Nat.le_refl _) (uJ _ _ _ h15 (uL _ _ _ _ _ _ _ h2).2 _ _ _ _ (by omega) h2 x hx).1
theorem Bt {vars : Int} (v : List Int) (e : Ex) (h : e.sz < 1152921504606846) (hm : eo vars e = true) (ht : (rt e).1 = 1 ∨ (rt e).1 = 2) : dI e v = some (ev v e) := FP v au e (by show e.sz ≤ 2 ^ 64; omega) hm ht
end Go.Proofs.YtpnogcmollnjeaaGreatDoor
namespace Go.Proofs.YtpnogcmollnjeaaGreatDoor
namespace Sp
/-! a fired command, as the document says it -/
theorem Aa (m : Sy.Mdl) (w : List Int) (hn : w.length = m.2.1.length) (hw : w.length < 1000) : ∀ (r pre : List Int) (rs ps : List (Int × Int)), w = pre ++ r → m.2.1 = ps ++ rs → ps.length = pre.length → rs.length = r.length →
  ∀ M, r.length < M → an (dE m w) M (pre.length : Int) = some (bif fits rs r then (w, 0) else ([], 6))
 | [], pre, rs, ps, h, hS, hl, hr, M, hM => by
  obtain ⟨m, rfl⟩ : ∃ m, M = m + 1 := ⟨M - 1, by simp at hM; omega⟩
  rw [ao]
  simp only [dE, Sy.gM h, cond_false]
  have : rs = [] := List.eq_nil_of_length_eq_zero hr
  subst this; rfl
 | x :: r, pre, [], ps, h, hS, hl, hr, M, hM => by simp at hr
 | x :: r, pre, s :: rs, ps, h, hS, hl, hr, M, hM => by
  obtain ⟨k, rfl⟩ : ∃ k, M = k + 1 := ⟨M - 1, by omega⟩
  rw [ao]
  have e1 : idx m.2.1 (pre.length : Int) = some s := by rw [← hl]; exact Sy.mid hS
  have hlen : pre.length + r.length + 1 = w.length := by rw [h]; simp; omega
  have ih := Aa m w hn hw r (pre ++ [x]) rs (ps ++ [s]) (by rw [h]; simp) (by rw [hS]; simp) (by simp; omega) (by simpa using hr) k (by simp at hM; omega)
  rw [show ((pre ++ [x]).length : Int) = ((pre.length + 1 : Nat) : Int) by simp] at ih
  simp only [dE, Sy.fk h, cond_true, Sy.mid h, aj, e1, Pa.bM (show pre.length < 4611686018427387904 by omega), ih, fits, bu, Fl]
  by_cases h1 : x < s.1
  ·rw [decide_eq_true h1, Bool.true_or, cond_true, decide_eq_false (show ¬ s.1 ≤ x by omega)]
   rfl
  ·rw [decide_eq_false h1, decide_eq_true (show s.1 ≤ x by omega)]
   simp only [Bool.not_false, cond_true, Bool.false_or, Bool.true_and]
   by_cases h2 : s.2 < x
   ·rw [decide_eq_true h2, decide_eq_false (show ¬ x ≤ s.2 by omega)]; rfl
   ·rw [decide_eq_false h2, decide_eq_true (show x ≤ s.2 by omega)]; rfl
theorem ye (m : Sy.Mdl) (v : List Int) (hm : pZ m.2.1 m.2.2.2.2) (hn : v.length = m.2.1.length) (k : Int) (e : Sy.Cmd) (hk : idx m.2.2.2.2 k = some e) (he : e ∈ m.2.2.2.2) :
  ∀ (r pre : List (Int × Ex)), e.2.2 = pre ++ r → ∀ (w : List Int) (M : Nat), w.length = v.length → r.length < M →
   an (fl m v k) M (w, (pre.length : Int)) = some (fin m.2.1 (r.foldl (sL v) w))
 | [], pre, h, w, M, hw, hM => by
  obtain ⟨n, rfl⟩ : ∃ n, M = n + 1 := ⟨M - 1, by simp at hM; omega⟩
  rw [ao]
  have hv : v.length < 1000 := by have := hm.few; omega
  simp only [fl, hk, aj, Sy.gM h, cond_false, List.foldl_nil, fin]
  exact Aa m w (by omega) (by omega) w [] m.2.1 [] rfl rfl rfl (by omega) au (by show _ < 2 ^ 64; omega)
 | s :: r, pre, h, w, M, hw, hM => by
  obtain ⟨n, rfl⟩ : ∃ n, M = n + 1 := ⟨M - 1, by omega⟩
  rw [ao]
  have hs : s ∈ e.2.2 := by rw [h]; simp
  obtain ⟨h0, h1, h2⟩ := (hm.sets e he).2 s hs
  obtain ⟨h4, h5⟩ := hm.rsets e he s hs
  have h6 := (hm.sets e he).1
  have hlen : pre.length + r.length + 1 = e.2.2.length := by rw [h]; simp; omega
  obtain ⟨x, hx, _⟩ := qF w s.1 h0 (by omega)
  have ih := ye m v hm hn k e hk he r (pre ++ [s]) (by rw [h]; simp) (sL v w s) n (by rw [wo, hw]) (by simp at hM; omega)
  rw [show ((pre ++ [s]).length : Int) = ((pre.length + 1 : Nat) : Int) by simp] at ih
  simp only [fl, hk, aj, Sy.fk h, cond_true, Sy.mid h]
  rw [Bt v s.2 (by omega) h4 (.inl h5)]
  simp only [aj, hx, Pa.bM (show pre.length < 4611686018427387904 by omega)]
  exact ih
theorem Jp {m : Sy.Mdl} {v : List Int} (hm : pZ m.2.1 m.2.2.2.2) (hn : v.length = m.2.1.length) (k : Int) : gQ m v k = some (uM m.2.1 m.2.2.2.2 v k) := by
 have hv : v.length < 1000 := by have := hm.few; omega
 unfold gQ
 simp only [bu]
 unfold uM
 by_cases hk : k < 0 ∨ (m.2.2.2.2.length : Int) ≤ k
 ·rw [if_pos hk]
  rw [show (decide (k < 0) || decide ((List.length m.2.2.2.2 : Int) ≤ k)) = true by rw [Bool.or_eq_true, decide_eq_true_eq, decide_eq_true_eq]; exact hk, cond_true]
 ·rw [if_neg hk]
  rw [show (decide (k < 0) || decide ((List.length m.2.2.2.2 : Int) ≤ k)) = false by rw [Bool.eq_false_iff]; intro h; rw [Bool.or_eq_true, decide_eq_true_eq, decide_eq_true_eq] at h; exact hk h, cond_false]
  obtain ⟨c, hc, hc2⟩ := qF m.2.2.2.2 k (by omega) (by omega)
  rw [Sy.c7 (Sy.cN (by simp; omega) (by simp; omega)), List.nil_append]
  have hmem : c ∈ m.2.2.2.2 := List.mem_of_getElem? hc2
  have := ye m v hm hn k c hc hmem c.2.2 [] rfl v au rfl (by have := (hm.sets c hmem).1; show _ < 2 ^ 64; omega)
  rw [show (0 : Int) = ((([] : List (Int × Ex)).length : Nat) : Int) from rfl, this]
  unfold cq
  rw [hc2]
  rfl
theorem Dy (m : Sy.Mdl) (v : List Int) (hm : pZ m.2.1 m.2.2.2.2) : ∀ (r pre : List Sy.Cmd), m.2.2.2.2 = pre ++ r → ∀ (out : List Int) (M : Nat), out.length ≤ pre.length → r.length < M →
  an (dX m v) M (out, (pre.length : Int)) = some (out ++ enI v pre.length r)
 | [], pre, h, out, M, ho, hM => by
  obtain ⟨k, rfl⟩ : ∃ k, M = k + 1 := ⟨M - 1, by simp at hM; omega⟩
  rw [ao]
  simp only [dX, Sy.gM h, cond_false, enI, List.append_nil]
 | c :: r, pre, h, out, M, ho, hM => by
  obtain ⟨k, rfl⟩ : ∃ k, M = k + 1 := ⟨M - 1, by omega⟩
  rw [ao]
  have hlen : pre.length + r.length + 1 = m.2.2.2.2.length := by rw [h]; simp; omega
  have h3 := hm.cmds
  have hg := hm.guard c (by rw [h]; simp)
  obtain ⟨h4, h5⟩ := hm.rguard c (by rw [h]; simp)
  simp only [dX, Sy.fk h, cond_true, Sy.mid h, aj]
  rw [Bt v c.2.1 (by omega) h4 (.inr h5), aj]
  have ih := fun out ho => Dy m v hm r (pre ++ [c]) (by rw [h]; simp) out k ho (by simp at hM; omega)
  rw [show ((pre ++ [c]).length : Int) = ((pre.length + 1 : Nat) : Int) by simp, show (pre ++ [c]).length = pre.length + 1 by simp] at ih
  simp only [Pa.bM (show pre.length < 4611686018427387904 by omega), enI]
  by_cases he : ev v c.2.1 = 1
  ·rw [if_pos he, show (ev v c.2.1 == 1) = true by simpa using he, cond_true, Sy.c7 (Sy.cN (by simp; omega) (by simp; omega)), ih _ (by simp; omega), List.append_assoc]
   rfl
  ·rw [if_neg he, show (ev v c.2.1 == 1) = false by simpa using he, cond_false, ih _ (by omega)]
theorem Nw {m : Sy.Mdl} {v : List Int} (hm : pZ m.2.1 m.2.2.2.2) : il m v = some (enI v 0 m.2.2.2.2) :=
 Dy m v hm m.2.2.2.2 [] rfl [] au (Nat.le_refl _) (by have := hm.cmds; show _ < 2 ^ 64; omega)
theorem EL {l : List (List Int)} {v : List Int} : (plc v 0 l < 0 → jK l v = l ++ [v]) ∧ (¬ plc v 0 l < 0 → jK l v = l) := by
 unfold jK
 constructor
 ·intro h
  rw [qO] at h
  rw [if_neg (by simpa using h)]
 ·intro h
  rw [qO] at h
  rw [if_pos (by simpa using h)]
theorem xj (m : Sy.Mdl) (v : List Int) (hm : pZ m.2.1 m.2.2.2.2) (hn : v.length = m.2.1.length) (L : List Int) (hL : ∀ i ∈ L, 0 ≤ i ∧ i < m.2.2.2.2.length) (hLl : L.length ≤ 300) :
  ∀ (r pre : List Int), L = pre ++ r → ∀ (l : List (List Int)) (M : Nat), (∀ w ∈ l, InS m.2.1 w) → l.length ≤ pre.length → r.length < M →
   an (fv m v L) M (l, (pre.length : Int)) = some (bif (r.map (cq m.2.2.2.2 v)).all (fits m.2.1) then (lC l (r.map (cq m.2.2.2.2 v)), 0) else ([], 6))
 | [], pre, h, l, M, hs, hl, hM => by
  obtain ⟨k, rfl⟩ : ∃ k, M = k + 1 := ⟨M - 1, by simp at hM; omega⟩
  rw [ao]
  simp only [fv, Sy.gM h, cond_false]
  rfl
 | i :: r, pre, h, l, M, hs, hl, hM => by
  obtain ⟨k, rfl⟩ : ∃ k, M = k + 1 := ⟨M - 1, by omega⟩
  rw [ao]
  have hlen : pre.length + r.length + 1 = L.length := by rw [h]; simp; omega
  obtain ⟨hi0, hi1⟩ := hL i (by rw [h]; simp)
  simp only [fv, Sy.fk h, cond_true, Sy.mid h, aj]
  rw [Jp hm hn i]
  unfold uM
  rw [if_neg (by omega), aj]
  unfold fin
  rw [List.map_cons, List.all_cons]
  obtain ⟨c, _, hc⟩ := qF m.2.2.2.2 i hi0 hi1
  have hfl : (cq m.2.2.2.2 v i).length = m.2.1.length := by unfold cq; rw [hc, ← hn]; exact sV v c
  cases hf : fits m.2.1 (cq m.2.2.2.2 v i)
  ·rfl
  ·have hin : InS m.2.1 (cq m.2.2.2.2 v i) := ⟨hfl, hf⟩
   simp only [cond_true, Bool.true_and]
   rw [show ((0 : Int) != 0) = false from rfl, cond_false, wU l _ (by omega) (fun w hw => (hs w hw).short hm.toSafeS), aj]
   have hl2 := wP l (cq m.2.2.2.2 v i)
   have ih := xj m v hm hn L hL hLl r (pre ++ [i]) (by rw [h]; simp) (jK l (cq m.2.2.2.2 v i)) k (fun w hw => by
    rcases BN.1 hw with h | h
    ·exact hs w h
    ·rw [h]; exact hin) (by simp; omega) (by simp at hM; omega)
   rw [show ((pre ++ [i]).length : Int) = ((pre.length + 1 : Nat) : Int) by simp] at ih
   simp only [Pa.bM (show pre.length < 4611686018427387904 by omega), List.foldl_cons, lC] at ih ⊢
   by_cases hp : plc (cq m.2.2.2.2 v i) 0 l < 0
   ·rw [decide_eq_true hp, cond_true, Sy.c7 (Sy.cN (by simp; omega) (by simp; omega)), ← EL.1 hp]
    exact ih
   ·rw [decide_eq_false hp, cond_false]
    rw [EL.2 hp] at ih ⊢
    exact ih
theorem DA {m : Sy.Mdl} {v : List Int} (hm : pZ m.2.1 m.2.2.2.2) (hv : InS m.2.1 v) : fj m v = some (eW m.2.1 m.2.2.2.2 v) := by
 have hll := qW v m.2.2.2.2 0
 have hlen : (enI v 0 m.2.2.2.2).length ≤ 300 := by
  rw [qW]
  have := List.length_filter_le (fun c : Sy.Cmd => decide (ev v c.2.1 = 1)) m.2.2.2.2
  have := hm.cmds
  unfold enC; omega
 have hmap : (enI v 0 m.2.2.2.2).map (cq m.2.2.2.2 v) = goes v m.2.2.2.2 := yR v m.2.2.2.2 m.2.2.2.2 [] rfl
 have hq := xj m v hm hv.len (enI v 0 m.2.2.2.2) (fun i hi => Hq hi) hlen (enI v 0 m.2.2.2.2) [] rfl [] au (fun w hw => by cases hw) (Nat.le_refl _) (by show _ < 2 ^ 64; omega)
 rw [hmap, show ((([] : List Int).length : Nat) : Int) = 0 from rfl] at hq
 unfold fj
 rw [Nw hm, aj, hq, List.nil_append, Sy.c7 (Sy.cN (by have := hv.short hm.toSafeS; simp; omega) (by have := hv.short hm.toSafeS; simp; omega))]
 unfold eW uC
 by_cases hg : goes v m.2.2.2.2 = []
 ·have h0 : (enI v 0 m.2.2.2.2).length = 0 := by rw [hll]; unfold goes at hg; have := congrArg List.length hg; simpa using this
  rw [if_pos hg, show ((List.length (enI v 0 m.2.2.2.2) : Int) == 0) = true by rw [h0]; rfl, cond_true]
 ·have h0 : (enI v 0 m.2.2.2.2).length ≠ 0 := by
   rw [hll]
   intro e
   apply hg
   unfold goes
   rw [List.eq_nil_of_length_eq_zero e]; rfl
  rw [if_neg hg, show ((List.length (enI v 0 m.2.2.2.2) : Int) == 0) = false by simp; simpa using h0, cond_false]
/-! what is reached, as the document says it -/
end Sp
end Go.Proofs.YtpnogcmollnjeaaGreatDoor
namespace Go.Proofs.YtpnogcmollnjeaaGreatDoor
namespace Ls
open Sp
theorem BD {a : Int} (h0 : 0 ≤ a) (h1 : a ≤ 255) {n : Nat} (hn : 0 < n) : ∃ k : Nat, Int.tmod (IntKind.i64.wrap a) (n : Int) = (k : Int) ∧ k < n := by
 obtain ⟨b, rfl⟩ : ∃ b : Nat, a = b := ⟨a.toNat, by omega⟩
 refine ⟨b % n, ?_, Nat.mod_lt _ hn⟩
 rw [w64 (by omega), Int.tmod_eq_emod_of_nonneg h0]
 exact (Int.natCast_emod b n).symm
theorem E9 {α : Type} (l : List α) (p : Nat) : bO l 0 (p : Int) = l.take p := by
 unfold bO
 simp
theorem ES {α : Type} (l : List α) (p : Nat) : bO l (p : Int) (l.length : Int) = l.drop p := by
 unfold bO
 rw [show ((p : Int)).toNat = p from rfl, show ((l.length : Int)).toNat = l.length from rfl, List.take_of_length_le (by simp)]
theorem Fp {p n : Nat} (h : p ≤ n) : eK 0 (p : Int) n = true := by
 unfold eK; simp; omega
theorem Eu {p n : Nat} (h : p ≤ n) : eK (p : Int) (n : Int) n = true := by
 unfold eK; simp; omega
theorem K2 {S : List (Int × Int)} {C : List Sy.Cmd} {v : List Int} (h : (eW S C v).2 = 0) : (eW S C v).1 ≠ [] := by
 unfold eW uC at h ⊢
 by_cases hg : goes v C = []
 ·rw [if_pos hg]; simp
 ·rw [if_neg hg] at h ⊢
  cases ha : (goes v C).all (fits S) <;> rw [ha] at h
  ·cases h
  ·rw [cond_true]
   intro e
   cases hgo : goes v C with
   | nil => exact hg hgo
   | cons x r =>
    have : x ∈ lC [] (x :: r) := rS.2 (.inr (by simp))
    rw [hgo] at e
    change lC [] (x :: r) = [] at e
    rw [e] at this
    cases this
theorem CS {m : Sy.Mdl} : ∀ {r : List (List Int)} {x : List Int}, chain m x r = true → ∀ (j : Nat) (a b : List Int), (x :: r)[j]? = some a → (x :: r)[j + 1]? = some b → mP m a b = true
 | [], x, _, j, a, b, _, h2 => by simp at h2
 | y :: r, x, h, 0, a, b, h1, h2 => by
  simp only [chain, Bool.and_eq_true] at h
  simp only [List.getElem?_cons_zero, Option.some.injEq, List.getElem?_cons_succ] at h1 h2
  subst h1; subst h2
  exact h.1
 | y :: r, x, h, j + 1, a, b, h1, h2 => by
  simp only [chain, Bool.and_eq_true] at h
  exact CS h.2 j a b (by simpa using h1) (by simpa using h2)
theorem rG {m : Sy.Mdl} : ∀ {r : List (List Int)} {x : List Int} {c y : List Int}, chain m x r = true → (x :: r).getLast? = some c → mP m c y = true → chain m x (r ++ [y]) = true
 | [], x, c, y, _, h2, h3 => by
  simp at h2; subst h2
  simp [chain, h3]
 | z :: r, x, c, y, h, h2, h3 => by
  simp only [chain, Bool.and_eq_true] at h
  rw [List.cons_append]
  simp only [chain, Bool.and_eq_true]
  exact ⟨h.1, rG h.2 (by rw [← h2]; simp) h3⟩
theorem wZ {m : Sy.Mdl} {l : Las} (h : sd m l = true) : (∀ v ∈ l.1 ++ l.2, InS m.2.1 v) ∧ (l.1 ++ l.2)[0]? = some m.2.2.1 ∧ ∀ (j : Nat) (a b : List Int), (l.1 ++ l.2)[j]? = some a → (l.1 ++ l.2)[j + 1]? = some b → mP m a b = true := by
 obtain ⟨st, cy⟩ := l
 cases cy with
 | nil => cases h
 | cons c r =>
  rw [show sd m (st, c :: r) = ((st ++ (c :: r)).all (inB m.2.1) && zE m (st ++ (c :: r) ++ [c])) from rfl, Bool.and_eq_true] at h
  obtain ⟨h1, h2⟩ := h
  refine ⟨fun v hv => gC.1 (List.all_eq_true.1 h1 v hv), ?_⟩
  simp only
  obtain ⟨x, q, hxq⟩ : ∃ x q, st ++ (c :: r) = x :: q := by
   cases st with
   | nil => exact ⟨_, _, rfl⟩
   | cons a b => exact ⟨_, _, rfl⟩
  rw [hxq] at h2 ⊢
  rw [List.cons_append, zE, Bool.and_eq_true] at h2
  obtain ⟨h3, h4⟩ := h2
  refine ⟨by simpa using h3, fun j a b ha hb => CS h4 j a b ?_ ?_⟩
  ·rw [← List.cons_append, List.getElem?_append_left (List.getElem?_eq_some_iff.1 ha).1]; exact ha
  ·rw [← List.cons_append, List.getElem?_append_left (List.getElem?_eq_some_iff.1 hb).1]; exact hb
theorem MY {m : Sy.Mdl} {l : List (List Int)} {p : Nat} {c : List Int} (hi : ∀ v ∈ l, InS m.2.1 v) {x : List Int} {r : List (List Int)} (hl : l = x :: r) (hx : x = m.2.2.1) (hc : chain m x (r ++ [c]) = true) (hp : l[p]? = some c) : sd m (l.take p, l.drop p) = true := by
 obtain ⟨hpl, hpc⟩ := List.getElem?_eq_some_iff.1 hp
 have hd : l.drop p = c :: l.drop (p + 1) := by rw [List.drop_eq_getElem_cons hpl, hpc]
 unfold sd
 simp only
 rw [hd]
 have e : l.take p ++ (c :: l.drop (p + 1)) = l := by rw [← hd, List.take_append_drop]
 simp only
 rw [e, Bool.and_eq_true]
 refine ⟨List.all_eq_true.2 (fun v hv => gC.2 (hi v hv)), ?_⟩
 rw [hl, List.cons_append, zE, Bool.and_eq_true]
 exact ⟨by simpa using hx, hc⟩
abbrev WIn := Str × List Int × List Int × Int
theorem Ln {w : WIn} {q : Sy.Mdl × Bool} (hm : SafeS q.1.2.1 q.1.2.2.2.2) {l : List (List Int)} {k p : Nat} {led : Bool} (hk : Int.tmod (IntKind.i64.wrap w.2.2.2) (l.length : Int) = (k : Int)) (hpl : p < l.length) (hll : l.length < 1000)
  (hs : ∀ v ∈ l, v.length < 1000000000) (ho : w.2.2.1.length ≤ 40) (h : sd q.1 ((l.set k w.2.2.1).take p, (l.set k w.2.2.1).drop p) = true → led = true) : fe w true q l (p : Int) led = some true := by
 unfold fe
 simp only [List.nil_append, hk, Int.toNat_natCast, List.length_set, bu]
 rw [Fp (by omega), Eu (by omega), E9]
 have e2 : bO (l.set k w.2.2.1) (p : Int) (l.length : Int) = (l.set k w.2.2.1).drop p := by
  have := ES (l.set k w.2.2.1) p
  rwa [List.length_set] at this
 rw [e2]
 cases led
 ·have hw : sd q.1 ((l.set k w.2.2.1).take p, (l.set k w.2.2.1).drop p) = false := by
   cases hw : sd q.1 ((l.set k w.2.2.1).take p, (l.set k w.2.2.1).drop p)
   ·rfl
   ·exact absurd (h hw) (by decide)
  have hway := HH hm (l := ((l.set k w.2.2.1).take p, (l.set k w.2.2.1).drop p)) (n := 1000) (by simp; omega) (by omega) (fun v hv => by
   rw [List.take_append_drop] at hv
   rcases List.mem_or_eq_of_mem_set hv with hv | rfl
   ·exact hs v hv
   ·omega)
  rw [hw] at hway
  simp only [Bool.not_false, Bool.and_self, dT]
  rw [Lx.fa, Lx.fa, hway]
  rfl
 ·simp only [Bool.not_true, Bool.and_false, kC]
  rw [Lx.fa, Lx.fa]
  rfl
theorem Ar {w : WIn} {q : Sy.Mdl × Bool} (hm : pZ q.1.2.1 q.1.2.2.2.2) (hpk : ∀ x ∈ w.2.1, 0 ≤ x ∧ x ≤ 255) (hat : 0 ≤ w.2.2.2 ∧ w.2.2.2 ≤ 255) (hpl : w.2.1.length ≤ 40) (ho : w.2.2.1.length ≤ 40) :
  ∀ (r pre : List Int), w.2.1 = pre ++ r → ∀ (l : List (List Int)) (x : List Int) (t : List (List Int)) (M : Nat), l = x :: t → x = q.1.2.2.1 → chain q.1 x t = true → (∀ v ∈ l, InS q.1.2.1 v) → l.length ≤ pre.length + 1 → r.length < M →
   an (dp w true q) M (l, (pre.length : Int)) = some true
 | [], pre, h, l, x, t, M, hlx, hx, hc, hi, hl, hM => by
  obtain ⟨n, rfl⟩ : ∃ n, M = n + 1 := ⟨M - 1, by simp at hM; omega⟩
  rw [ao]
  simp only [dp, Sy.gM h, cond_false]
 | a :: r, pre, h, l, x, t, M, hlx, hx, hc, hi, hl, hM => by
  obtain ⟨n, rfl⟩ : ∃ n, M = n + 1 := ⟨M - 1, by omega⟩
  rw [ao]
  have hlen : pre.length + r.length + 1 = w.2.1.length := by rw [h]; simp; omega
  have hl0 : 0 < l.length := by rw [hlx]; simp
  have hsl : ∀ v ∈ l, v.length < 1000000000 := fun v hv => (hi v hv).short hm.toSafeS
  simp only [dp, Sy.fk h, cond_true, Sy.mid h, aj]
  obtain ⟨c, hcl⟩ : ∃ c, l[l.length - 1]? = some c := ⟨l[l.length - 1]'(by omega), List.getElem?_eq_getElem _⟩
  have hcur : idx l (IntKind.i64.wrap ((l.length : Int) - 1)) = some c := by
   rw [w64 (by omega)]
   unfold idx
   rw [if_pos (by omega), show ((l.length : Int) - 1).toNat = l.length - 1 by omega, hcl]
  have hci := hi c (List.mem_of_getElem? hcl)
  rw [hcur, aj, DA hm hci, aj]
  by_cases hz : (eW q.1.2.1 q.1.2.2.2.2 c).2 = 0
  ·have hfew := tu (S := q.1.2.1) (cmds := q.1.2.2.2.2) c
   have hcm := hm.cmds
   have hne := K2 hz
   have hp : 0 < (eW q.1.2.1 q.1.2.2.2.2 c).1.length := List.length_pos_iff.2 hne
   have ha := hpk a (by rw [h]; simp)
   obtain ⟨k, hk, hkl⟩ := BD ha.1 ha.2 hp
   rw [show ((eW q.1.2.1 q.1.2.2.2.2 c).2 != 0) = false by simpa using hz, cond_false, Sy.c7 (by simp; exact hne), hk]
   have hnx : idx (eW q.1.2.1 q.1.2.2.2.2 c).1 (k : Int) = some (eW q.1.2.1 q.1.2.2.2.2 c).1[k] := by
    unfold idx
    rw [if_pos (by omega), show ((k : Int)).toNat = k from rfl, List.getElem?_eq_getElem hkl]
   rw [hnx, aj]
   have hym := List.getElem_mem hkl
   generalize (eW q.1.2.1 q.1.2.2.2.2 c).1[k] = y at hym
   have hyi := Ct hci y hym
   have hst : mP q.1 c y = true := by
    unfold mP
    simp only [Bool.and_eq_true, beq_iff_eq, List.contains_iff_mem]
    exact ⟨hz, hym⟩
   have hlast : (x :: t).getLast? = some c := by
    rw [← hlx, List.getLast?_eq_getElem?, hcl]
   rw [wU l y (by omega) hsl, aj]
   by_cases hpn : plc y 0 l < 0
   ·rw [decide_eq_true hpn, cond_true, Sy.c7 (Sy.cN (by simp; omega) (by simp; omega)), Pa.bM (show pre.length < 4611686018427387904 by omega)]
    have ih := Ar hm hpk hat hpl ho r (pre ++ [a]) (by rw [h]; simp) (l ++ [y]) x (t ++ [y]) n (by rw [hlx]; rfl) hx (rG hc hlast hst) (fun v hv => by
     rcases List.mem_append.1 hv with hv | hv
     ·exact hi v hv
     ·rw [List.mem_singleton.1 hv]; exact hyi) (by simp; omega) (by simp at hM; omega)
    rw [show ((pre ++ [a]).length : Int) = ((pre.length + 1 : Nat) : Int) by simp] at ih
    exact ih
   ·rw [decide_eq_false hpn, cond_false]
    have hmem : y ∈ l := by
     apply Classical.byContradiction
     intro hn
     exact hpn (qO.2 hn)
    obtain ⟨p, hp1, hp2⟩ := Ic (k := 0) hmem
    rw [Nat.zero_add] at hp1
    rw [hp1]
    have hpl2 : p < l.length := (List.getElem?_eq_some_iff.1 hp2).1
    rw [Sy.c7 (Fp (by omega)), Sy.c7 (Eu (by omega)), E9, ES]
    have hway := HH hm.toSafeS (l := (l.take p, l.drop p)) (n := 1000) (by simp; omega) (by omega) (fun v hv => by
     rw [List.take_append_drop] at hv
     exact hsl v hv)
    rw [MY hi hlx hx (rG hc hlast hst) hp2] at hway
    rw [hway, aj]
    obtain ⟨k2, hk2, hkl2⟩ := BD hat.1 hat.2 hl0
    simp only [Bool.not_true, cond_false, List.nil_append, bu]
    rw [Sy.c7 (by simp; intro e; rw [e] at hl0; simp at hl0), Sy.c7 (Sy.cN (by simp; omega) (by simp; omega)), hk2]
    have hix : idx l (k2 : Int) = some l[k2] := by
     unfold idx
     rw [if_pos (by omega), show ((k2 : Int)).toNat = k2 from rfl, List.getElem?_eq_getElem hkl2]
    rw [hix, aj]
    cases k2 with
    | zero =>
     rw [show (((0 : Nat) : Int) == 0) = true from rfl, dT, Hx _ _ (by omega), aj, decide_eq_false (by simp), cond_false]
     refine Ln hm.toSafeS hk2 hpl2 (by omega) hsl ho (fun hw => ?_)
     obtain ⟨_, h2, _⟩ := wZ hw
     simp only [List.take_append_drop] at h2
     rw [List.getElem?_set_self (by omega)] at h2
     have e : w.2.2.1 = q.1.2.2.1 := Option.some.inj h2
     rw [e]; simp
    | succ k3 =>
     rw [show (((k3 + 1 : Nat) : Int) == 0) = false by simp; omega, kC, decide_eq_true (by omega), cond_true]
     have hix2 : idx l (IntKind.i64.wrap (((k3 + 1 : Nat) : Int) - 1)) = some (l[k3]'(by omega)) := by
      rw [w64 (by omega)]
      unfold idx
      rw [if_pos (by omega), show (((k3 + 1 : Nat) : Int) - 1).toNat = k3 by omega, List.getElem?_eq_getElem]
     rw [hix2, aj]
     have hg : l[k3]? = some (l[k3]'(by omega)) := List.getElem?_eq_getElem _
     generalize l[k3]'(by omega) = u at hg
     have hui := hi u (List.mem_of_getElem? hg)
     have hfu := tu (S := q.1.2.1) (cmds := q.1.2.2.2.2) u
     rw [DA hm hui, aj, Gk, wU _ _ (by omega) (fun v hv => (Ct hui v hv).short hm.toSafeS), aj]
     refine Ln hm.toSafeS hk2 hpl2 (by omega) hsl ho (fun hw => ?_)
     obtain ⟨_, _, h3⟩ := wZ hw
     simp only [List.take_append_drop] at h3
     have := h3 k3 u w.2.2.1 (by rw [List.getElem?_set_ne (by omega)]; exact hg) (by rw [List.getElem?_set_self (by omega)])
     unfold mP at this
     simp only [Bool.and_eq_true, List.contains_iff_mem] at this
     rw [decide_eq_true_eq]
     apply Classical.byContradiction
     intro hn
     exact qO.1 (Int.not_le.1 hn) this.2
  ·rw [show ((eW q.1.2.1 q.1.2.2.2.2 c).2 != 0) = true by simpa using hz, cond_true]
theorem GQ (w : WIn) (hpk : ∀ x ∈ w.2.1, 0 ≤ x ∧ x ≤ 255) (hat : 0 ≤ w.2.2.2 ∧ w.2.2.2 ≤ 255) : dU w = some true := by
 unfold dU
 obtain ⟨q, hq, hw⟩ := IN w.1
 rw [Gp, aj, hq, aj]
 simp only [bu]
 cases h2 : q.2
 ·rfl
 ·by_cases hp : w.2.1.length ≤ 40
  ·by_cases ho : w.2.2.1.length ≤ 40
   ·rw [decide_eq_false (by omega), decide_eq_false (by omega)]
    simp only [Bool.not_true, Bool.or_self, cond_false]
    have hwf := hw h2
    have := Ar (w := w) (q := q) (MK hwf) hpk hat hp ho w.2.1 [] rfl [q.1.2.2.1] q.1.2.2.1 [] au rfl rfl rfl (fun v hv => by rw [List.mem_singleton.1 hv]; exact M1 hwf) (by simp) (by show _ < 2 ^ 64; omega)
    exact this
   ·rw [decide_eq_true (p := (40 : Int) < (w.2.2.1.length : Int)) (by omega), Bool.or_true]
    rfl
  ·rw [decide_eq_true (p := (40 : Int) < (w.2.1.length : Int)) (by omega), Bool.or_true]
   rfl
end Ls
end Go.Proofs.YtpnogcmollnjeaaGreatDoor
namespace Go.Proofs.YtpnogcmollnjeaaGreatDoor
open Go.Lib Go.ChangeAt Go.ChangeShapes Go.WideShapes Go.RowKit
theorem yC {P : Program} {w : World} : ∀ (l : List (String × DataW Unit)) (ps : List MemPlace), DataW.LaidVars P w l ps → ∀ (i : Nat) (n : String) (d : DataW Unit), l[i]? = some (n, d) →
  ∃ g t cs fuel p, P.globalNamed n = some g ∧ (P.globals[g]?).map (·.type) = some t ∧ w.var? P n = some cs ∧ DataW.trod (fun _ => ()) P w 0 (fun _ => true) false fuel t cs.toList = some (d, p)
 | [], _, _, i, n, d, h => by simp at h
 | (n0, d0) :: l, ps, h, i, n, d, hi => by
  obtain ⟨g, t, cs, fuel, p, q, h1, h2, h3, h4, h5, _⟩ := h
  cases i with
  | zero =>
   simp only [List.getElem?_cons_zero, Option.some.injEq, Prod.mk.injEq] at hi
   obtain ⟨rfl, rfl⟩ := hi
   exact ⟨g, t, cs, fuel, p, h1, h2, h3, h4⟩
  | succ i => exact yC l q h5 i n d (by simpa using hi)
theorem AU {H : Type} {enc : TypeId × Value → H} {P : Program} {w : World} {base : Nat} {sp : Nat → Bool} {held : Bool} {fuel : Nat} {t e : TypeId} {n : Nat} {cs : List Value} {zs : List Str} {p : List MemPlace}
  (ht : P.underlying t = some (.array n e)) (he : P.underlying e = some .string) (hce : P.cellsOf e = 1) (hct : P.cellsOf t = n)
  (h : DataW.trod enc P w base sp held fuel t cs = some (.agg (zs.map fun z => .lit (.string z)), p)) : cs = zs.map S := by
 cases fuel with
 | zero => simp [DataW.trod] at h
 | succ fuel =>
  simp only [DataW.trod, ht, hce, hct, Nat.mul_one] at h
  split at h
  ·rename_i hl
   obtain ⟨xs, hm, hx⟩ := Option.map_eq_some_iff.1 h
   have hxs : xs.map (·.1) = zs.map fun z => (DataW.lit (.string z) : DataW H) := by
    have := congrArg Prod.fst hx
    simpa using this
   have hxl : xs.length = n := by simpa using mapM_length hm
   have hzl : zs.length = n := by
    have := congrArg List.length hxs
    simp at this
    omega
   apply List.ext_getElem?
   intro i
   by_cases hi : i < n
   ·obtain ⟨b, hb, hf⟩ := mapM_at hm i i (by simp [hi])
    obtain ⟨z, hc, rfl, _⟩ := DataW.trod_string he hf
    have h1 : cs[i]? = some (.string z) := by
     have := congrArg (·[0]?) hc
     simpa [List.getElem?_take, List.getElem?_drop] using this
    have h2 : (xs.map (·.1))[i]? = some (DataW.lit (.string z.data.toList) : DataW H) := by simp [hb]
    rw [hxs] at h2
    simp only [List.getElem?_map, Option.map_eq_some_iff, DataW.lit.injEq, Lit.string.injEq] at h2
    obtain ⟨z', hz', hz2⟩ := h2
    subst hz2
    simp [h1, hz', S]
   ·rw [List.getElem?_eq_none (by omega), List.getElem?_eq_none (by simp; omega)]
  ·cases h
theorem Ge {P : Program} {laid : List (String × DataW Unit)} {w : World} (hf : (laid.filter fun x => x.2.handleName?.isSome) = []) (h : laidMetH P laid w) : laidMet P laid w := by
 unfold laidMetH at h
 rw [hf] at h
 exact h
theorem gl_strs {P : Program} {laid : List (String × DataW Unit)} {w : World} {Γ : Ctx} (h : laidMet P laid w) (i : Nat) {n : String} {zs : List Str} {g : Nat} {t e : TypeId} {k : Nat}
  (hi : laid[i]? = some (n, .agg (zs.map fun z => .lit (.string z)))) (hg : P.globalNamed n = some g) (hty : (P.globals[g]?).map (·.type) = some t)
  (ht : P.underlying t = some (.array k e)) (he : P.underlying e = some .string) (hce : P.cellsOf e = 1) (hct : P.cellsOf t = k) (hM : ¬ Γ.M g) : (gl g (zs.map S)).P Γ.M w := by
 obtain ⟨ps, hl, _⟩ := h
 obtain ⟨g', t', cs, fuel, p, hg', ht', hv, hd⟩ := yC _ _ hl i n _ hi
 obtain rfl := Option.some.inj (hg.symm.trans hg')
 obtain rfl := Option.some.inj (hty.symm.trans ht')
 have e1 := AU ht he hce hct hd
 refine ⟨hM, ?_⟩
 unfold World.var? at hv
 rw [hg] at hv
 simp only [Option.bind_some] at hv
 split at hv
 ·rename_i c ty fr hb
  obtain rfl := Option.some.inj hv
  exact ⟨ty, fr, by rw [hb, ← e1]⟩
 ·cases hv
theorem Mb {P : Program} {laid : List (String × DataW Unit)} {w : World} {Γ : Ctx} (h : laidMet P laid w) (i : Nat) {n : String} {kd : IntKind} {zs : List Int} {g : Nat} {t e : TypeId} {k : Nat}
  (hi : laid[i]? = some (n, tabData kd zs)) (hg : P.globalNamed n = some g) (hty : (P.globals[g]?).map (·.type) = some t)
  (ht : P.underlying t = some (.array k e)) (he : P.underlying e = some (.int kd)) (hce : P.cellsOf e = 1) (hct : P.cellsOf t = k) (hM : ¬ Γ.M g) : (gl g (zs.map (Value.int kd))).P Γ.M w := by
 obtain ⟨ps, hl, _⟩ := h
 obtain ⟨g', t', cs, fuel, p, hg', ht', hv, hd⟩ := yC _ _ hl i n _ hi
 obtain rfl := Option.some.inj (hg.symm.trans hg')
 obtain rfl := Option.some.inj (hty.symm.trans ht')
 have e1 := cells_of_tab ht he hce hct hd
 refine ⟨hM, ?_⟩
 unfold World.var? at hv
 rw [hg] at hv
 simp only [Option.bind_some] at hv
 split at hv
 ·rename_i c ty fr hb
  obtain rfl := Option.some.inj hv
  exact ⟨ty, fr, by rw [hb, ← e1]⟩
 ·cases hv
/-! the row at the start: nothing is owned -/
def NoM (Γ : Ctx) : Prop := ∀ b, ¬ Γ.M b
theorem EB : NoM [] := fun b h => by obtain ⟨it, h, _⟩ := h; cases h
theorem BR {it : Item} {Γ : Ctx} (hp : it.own = []) (h : NoM Γ) : NoM (it :: Γ) := fun b hb => by
 rcases Ctx.oE.1 hb with h1 | h1
 ·rw [hp] at h1; cases h1
 ·exact h b h1
theorem HC (w : World) : Sat [kept w (fun _ => False)] w := Sat.nil.add rfl ⟨da.refl w, Nat.le_refl _, fun b _ _ => ⟨EB b, rfl⟩⟩
theorem Hc (w : World) : NoM [kept w (fun _ => False)] := BR rfl EB
theorem Kf {w : World} {Γ : Ctx} (h : NoM Γ) : Mv (fun _ => False) w Γ.M w := ⟨Nat.le_refl _, fun b _ _ => ⟨h b, rfl⟩⟩
theorem HG {w w' : World} {Γ : Ctx} {i : Nat} (h : Sat Γ w') (hi : Γ[i]? = some (kept w (fun _ => False))) : Below w.heap.size w w' := by
 obtain ⟨h1, h2, h3⟩ := h.kept hi
 exact ⟨h1.os, h1.tape, h1.output, h2, fun k hk => (h3 k hk (fun h => h)).2⟩
end Go.Proofs.YtpnogcmollnjeaaGreatDoor
namespace Go.Proofs.YtpnogcmollnjeaaGreatDoor
open Go.Lib Go.ChangeAt Go.ChangeShapes Go.WideShapes Go.RowKit
theorem yk {Y : Type} (R : Nat → Y → Ex → Prop) : ∀ (ys : List Y), (∀ i y, ys[i]? = some y → ∃ e, R i y e) → ∃ l : List Ex, l.length = ys.length ∧ ∀ i y e, ys[i]? = some y → l[i]? = some e → R i y e
 | [], _ => ⟨[], rfl, fun i y e h => by simp at h⟩
 | y :: ys, h => by
  obtain ⟨e, he⟩ := h 0 y rfl
  obtain ⟨l, hl, hr⟩ := yk (fun i => R (i + 1)) ys (fun i y hy => h (i + 1) y (by simpa using hy))
  refine ⟨e :: l, by simp [hl], fun i y' e' hy hx => ?_⟩
  cases i with
  | zero =>
   simp only [List.getElem?_cons_zero, Option.some.injEq] at hy hx
   subst hy; subst hx; exact he
  | succ i => exact hr i y' e' (by simpa using hy) (by simpa using hx)
theorem Hl {H : Type} : ∀ (l : List Ex) (ds : List (DataW H)), l.length = ds.length → (∀ (i : Nat) (e : Ex) (d : DataW H), l[i]? = some e → ds[i]? = some d → e.sz ≤ Rows.uptoBulk d) → szL l ≤ Rows.uptoBulkAll ds
 | [], [], _, _ => Nat.le_refl _
 | e :: l, d :: ds, hl, h => by
  have h1 := h 0 e d rfl rfl
  have h2 := Hl l ds (by simpa using hl) (fun i e d he hd => h (i + 1) e d (by simpa using he) (by simpa using hd))
  simp only [szL, Rows.uptoBulkAll]
  omega
 | [], _ :: _, h, _ => by simp at h
 | _ :: _, [], h, _ => by simp at h
theorem wS {H : Type} (d : DataW H) : 1 ≤ Rows.uptoBulk d := by
 cases d with
 | lit l => cases l <;> simp [Rows.uptoBulk]
 | nil => simp [Rows.uptoBulk]
 | ptr d => simp [Rows.uptoBulk]
 | slice elems spare => simp [Rows.uptoBulk]
 | agg parts => simp [Rows.uptoBulk]
 | iface t d => simp [Rows.uptoBulk]
 | map entries => simp [Rows.uptoBulk]
 | held h => simp [Rows.uptoBulk]
theorem pR {H : Type} {d : DataW H} : ∀ {l : List (DataW H)}, d ∈ l → Rows.uptoBulk d ≤ Rows.uptoBulkAll l
 | x :: r, h => by
  simp only [Rows.uptoBulkAll]
  rcases List.mem_cons.1 h with rfl | h
  ·omega
  ·have := pR h; omega
structure Hw (P : Program) (t : TypeId) : Prop where
 fields : ∃ (fs : Array Field) (f0 f1 f2 f3 : Field), P.underlying t = some (.struct fs) ∧ fs.size = 4 ∧ fs[0]? = some f0 ∧ fs[1]? = some f1 ∧ fs[2]? = some f2 ∧ fs[3]? = some f3 ∧
  (f0.offset = 0 ∧ P.underlying f0.type = some (.int .i64) ∧ P.cellsOf f0.type = 1) ∧ (f1.offset = 1 ∧ P.underlying f1.type = some (.int .i64) ∧ P.cellsOf f1.type = 1) ∧
  (f2.offset = 2 ∧ P.underlying f2.type = some (.int .i64) ∧ P.cellsOf f2.type = 1) ∧ (f3.offset = 3 ∧ P.underlying f3.type = some (.slice t) ∧ P.cellsOf f3.type = 1)
 cells : P.cellsOf t = 4
theorem N0 {P : Program} {w : World} {base : Nat} {t : TypeId} {v : Value} {fs : Array Field} (ht : P.underlying t = some (.struct fs)) (h : Value.okWide P w .any base t v) :
  ∃ cs, v = .agg cs ∧ cs.size = P.cellsOf t ∧ Row.okWide P w .any base t cs := by
 unfold Value.okWide at h
 rw [ht] at h
 exact h
theorem GB {w : World} {a : Addr} {v : Value} (h : w.cell? a = some v) : a.spot = none ∧ ∃ cs e fr, w.heap[a.block]? = some (.cells cs e fr) ∧ cs[a.off]? = some v := by
 unfold World.cell? at h
 split at h
 ·rename_i cs e fr hb
  split at h
  ·cases h
  ·rename_i hs
   exact ⟨by simpa using hs, cs, e, fr, hb, h⟩
 ·cases h
theorem Gs {H : Type} {enc : TypeId × Value → H} {P : Program} {W : World} {t : TypeId} (L : Hw P t) : ∀ (fuel : Nat) (cs : List Value) (x : DataW H × List MemPlace),
  DataW.trod enc P W 0 (fun _ => true) true fuel t cs = some x → ∃ e, lA (fun _ => False) W cs e ∧ e.sz ≤ Rows.uptoBulk x.1 := by
 intro fuel
 induction fuel using Nat.strongRecOn with
 | ind fuel ih =>
 intro cs x h
 obtain ⟨⟨fs, f0, f1, f2, f3, hT, hsz, g0, g1, g2, g3, ⟨o0, u0, c0⟩, ⟨o1, u1, c1⟩, ⟨o2, u2, c2⟩, ⟨o3, u3, c3⟩⟩, hc⟩ := L
 obtain ⟨xs, n, rfl, rfl, hl, hxs, hf⟩ := DataW.trod_struct hT h
 rw [hc] at hl
 rw [hsz] at hxs
 obtain ⟨a0, a1, a2, a3, rfl⟩ : ∃ a0 a1 a2 a3, cs = [a0, a1, a2, a3] := by
  match cs, hl with
  | [a, b, c, d], _ => exact ⟨a, b, c, d, rfl⟩
 obtain ⟨x0, x1, x2, x3, rfl⟩ : ∃ a0 a1 a2 a3, xs = [a0, a1, a2, a3] := by
  match xs, hxs with
  | [a, b, c, d], _ => exact ⟨a, b, c, d, rfl⟩
 have t0 := hf 0 f0 g0
 have t1 := hf 1 f1 g1
 have t2 := hf 2 f2 g2
 have t3 := hf 3 f3 g3
 rw [o0, c0] at t0; rw [o1, c1] at t1; rw [o2, c2] at t2; rw [o3, c3] at t3
 simp only [List.drop_zero, List.take_succ_cons, List.take_zero, List.drop_succ_cons, List.getElem?_cons_zero, List.getElem?_cons_succ] at t0 t1 t2 t3
 obtain ⟨z0, e0, _, _⟩ := DataW.trod_int u0 t0
 obtain ⟨z1, e1, _, _⟩ := DataW.trod_int u1 t1
 obtain ⟨z2, e2, _, _⟩ := DataW.trod_int u2 t2
 obtain rfl : a0 = .int .i64 z0 := by simpa using e0
 obtain rfl : a1 = .int .i64 z1 := by simpa using e1
 obtain rfl : a2 = .int .i64 z2 := by simpa using e2
 have hb : ∀ d, x3.1 = d → Rows.uptoBulk d + 1 ≤ Rows.uptoBulk (DataW.agg ([x0, x1, x2, x3].map (·.1))) := fun d hd => by
  subst hd
  have := pR (d := x3.1) (l := [x0, x1, x2, x3].map (·.1)) (by simp)
  simp only [Rows.uptoBulk]
  omega
 rcases DataW.trod_slice u3 t3 with ⟨h3, hx3⟩ | ⟨a, len, cap, elems, rest, m, rfl, h3, hx3, _, hlc, _, hlen, hel, hsp, _⟩
 ·obtain rfl : a3 = .slice none 0 0 := by simpa using h3
  refine ⟨.mk z0 z1 z2 [], .nil z0 z1 z2 none, ?_⟩
  have := hb _ rfl
  have := wS x3.1
  simp only [Ex.sz, szL]
  omega
 ·obtain rfl : a3 = .slice (some a) len cap := by simpa using h3
  obtain ⟨hrl, hre⟩ := hsp rfl
  rw [hc] at hel hre
  -- all of it is there
  have cell : ∀ i, i < cap → ∃ us y, W.cells? 0 (a.add (i * 4)) 4 = some us ∧ us.length = 4 ∧ (∀ j, j < 4 → W.cell? ((a.add (i * 4)).add j) = us[j]?) ∧ DataW.trod enc P W 0 (fun _ => true) true m t us = some y ∧ (i < len → elems[i]? = some y) := fun i hi => by
   by_cases hil : i < len
   ·obtain ⟨y, hy⟩ : ∃ y, elems[i]? = some y := ⟨elems[i]'(by omega), List.getElem?_eq_getElem _⟩
    have := hel i hil
    rw [hy, Option.bind_eq_some_iff] at this
    obtain ⟨us, h1, h2⟩ := this
    obtain ⟨_, h3, h4⟩ := World.cells?_some h1
    exact ⟨us, y, h1, h3, h4, h2, fun _ => hy⟩
   ·obtain ⟨y, hy⟩ : ∃ y, rest[i - len]? = some y := ⟨rest[i - len]'(by omega), List.getElem?_eq_getElem _⟩
    have := hre (i - len) (by omega)
    rw [hy, Option.bind_eq_some_iff] at this
    obtain ⟨us, h1, h2⟩ := this
    have e : len + (i - len) = i := by omega
    rw [e] at h1
    obtain ⟨_, h3, h4⟩ := World.cells?_some h1
    exact ⟨us, y, h1, h3, h4, h2, fun h => absurd h hil⟩
  by_cases hcap : cap = 0
  ·subst hcap
   obtain rfl : len = 0 := by omega
   refine ⟨.mk z0 z1 z2 [], .nil z0 z1 z2 (some a), ?_⟩
   have := hb _ rfl
   have := wS x3.1
   simp only [Ex.sz, szL]
   omega
  ·obtain ⟨us0, _, _, hl0, hc0, _⟩ := cell 0 (by omega)
   have h00 := hc0 0 (by omega)
   rw [List.getElem?_eq_getElem (by omega)] at h00
   obtain ⟨hs, cs', e', fr, hblk, _⟩ := GB h00
   have hs' : a.spot = none := by simpa [Addr.add] using hs
   have hblk' : W.heap[a.block]? = some (.cells cs' e' fr) := by simpa [Addr.add] using hblk
   obtain ⟨b, off, sp⟩ := a
   simp only at hs' hblk'
   subst hs'
   have at_ : ∀ i j, ((⟨b, off, none⟩ : Addr).add (i * 4)).add j = ⟨b, off + i * 4 + j, none⟩ := fun i j => by
    unfold Addr.add
    split <;> split <;> simp_all
   have cellx : ∀ i, i < cap → ∃ us y, us.length = 4 ∧ (∀ j, j < 4 → cs'[off + i * 4 + j]? = us[j]?) ∧ DataW.trod enc P W 0 (fun _ => true) true m t us = some y ∧ (i < len → elems[i]? = some y) := fun i hi => by
    obtain ⟨us, y, _, h3, h4, h5, h6⟩ := cell i hi
    refine ⟨us, y, h3, fun j hj => ?_, h5, h6⟩
    have := h4 j hj
    rw [at_] at this
    simpa [World.cell?, hblk'] using this
   have hsize : off + cap * 4 ≤ cs'.size := by
    obtain ⟨us, _, h3, h4, _⟩ := cellx (cap - 1) (by omega)
    have := h4 3 (by omega)
    rw [List.getElem?_eq_getElem (by omega)] at this
    have := (Array.getElem?_eq_some_iff.1 this).1
    omega
   have hel' : ∀ i y, elems[i]? = some y → ∃ e, (lA (fun _ => False) W (((cs'.toList.drop off).drop (i * 4)).take 4) e ∧ e.sz ≤ Rows.uptoBulk y.1) := fun i y hy => by
    have hi : i < len := by rw [← hlen]; exact (List.getElem?_eq_some_iff.1 hy).1
    obtain ⟨us, y', h3, h4, h5, h6⟩ := cellx i (by omega)
    obtain rfl : y' = y := by have := h6 hi; rw [hy] at this; exact (Option.some.inj this).symm
    have hus : ((cs'.toList.drop off).drop (i * 4)).take 4 = us := by
     apply List.ext_getElem?
     intro j
     by_cases hj : j < 4
     ·rw [List.getElem?_take, if_pos hj, List.getElem?_drop, List.getElem?_drop, ← h4 j hj]
      simp [Nat.add_assoc]
     ·rw [List.getElem?_take, if_neg hj, List.getElem?_eq_none (by omega)]
    rw [hus]
    exact ih m (by omega) us y' h5
   obtain ⟨l, hll, hR⟩ := yk (fun i y e => lA (fun _ => False) W (((cs'.toList.drop off).drop (i * 4)).take 4) e ∧ e.sz ≤ Rows.uptoBulk y.1) elems hel'
   have hll' : l.length = len := by omega
   refine ⟨.mk z0 z1 z2 l, ?_, ?_⟩
   ·rw [← hll']
    refine .some z0 z1 z2 l b off cap cs' e' fr (fun h => h) hblk' (by omega) (by omega) ?_ (fun i hi => ?_)
    ·simp only [List.length_take, List.length_drop, Array.length_toList]
     omega
    ·obtain ⟨y, hy⟩ : ∃ y, elems[i]? = some y := ⟨elems[i]'(by omega), List.getElem?_eq_getElem _⟩
     have := (hR i y l[i] hy (List.getElem?_eq_getElem _)).1
     rw [List.drop_take, List.take_take]
     have e4 : min 4 (l.length * 4 - i * 4) = 4 := by omega
     rw [e4]
     exact this
   ·have h1 := Hl l (elems.map (·.1)) (by simp [hll]) (fun i e d he hd => by
     rw [List.getElem?_map, Option.map_eq_some_iff] at hd
     obtain ⟨y, hy, rfl⟩ := hd
     exact (hR i y e hy he).2)
    have h2 : x3.1 = .slice (elems.map (·.1)) (rest.map (·.1)) := by rw [hx3]
    have h3 := hb _ h2
    simp only [Ex.sz]
    have h4 : Rows.uptoBulk (DataW.slice (elems.map (·.1)) (rest.map (·.1))) = Rows.uptoBulkAll (elems.map (·.1)) + Rows.uptoBulkAll (rest.map (·.1)) + 1 := by simp only [Rows.uptoBulk]
    omega
end Go.Proofs.YtpnogcmollnjeaaGreatDoor
namespace Go.Proofs.YtpnogcmollnjeaaGreatDoor
open Go.Lib Go.ChangeAt Go.ChangeShapes Go.WideShapes Go.RowKit
open Go.ChangeMaps (open_string)
def j3 : Ty → List (Option TypeId)
 | .p a b => j3 a ++ j3 b
 | .l _ | .ex => [none]
 | _ => []
def Nv : Ty → Pt
 | .i k => .int k
 | .bo => .bool
 | .s => .str
 | .l t => .sli t
 | t => .dat t (j3 t)
def Dom (Q : Nat → Prop) : (t : Ty) → t.T → Prop
 | .i k, x => (Lit.int k x).wf = true
 | .s, x => x.length ≤ 9223372036854775807
 | .p a b, x => Dom Q a x.1 ∧ Dom Q b x.2
 | .l t, x => (List.length (α := t.T) x ≤ 9223372036854775807 ∧ Q (List.length (α := t.T) x)) ∧ ∀ y : t.T, List.Mem y x → Dom Q t y
 | .ex, x => Q x.sz
 | _, _ => True
/-! the program's types and codes -/
def uu (P : Program) (t : TypeId) : Bool := (match P.underlying t with
 | some (.int .i64) => true
 | _ => false) && P.cellsOf t == 1
def exB (P : Program) (t : TypeId) : Bool := (match P.underlying t with
 | some (.struct fs) => (match fs.toList with
  | [f0, f1, f2, f3] => f0.offset == 0 && uu P f0.type && (f1.offset == 1 && uu P f1.type) && (f2.offset == 2 && uu P f2.type) && (f3.offset == 3 && P.cellsOf f3.type == 1 && (match P.underlying f3.type with
   | some (.slice e) => e == t
   | _ => false))
  | _ => false)
 | _ => false) && P.cellsOf t == 4
def uE (P : Program) (fit : TypeId → Ty → Bool) (tot : Nat) : List Field → Nat → Ty → Bool
 | [], _, _ => false
 | [f], off, t => f.offset == off && off + P.cellsOf f.type == tot && P.cellsOf f.type == t.rep.n && fit f.type t
 | f :: g :: fs, off, t => match t with
  | .p a b => f.offset == off && P.cellsOf f.type == a.rep.n && fit f.type a && uE P fit tot (g :: fs) (off + P.cellsOf f.type) b
  | _ => false
def fits (P : Program) : Nat → TypeId → Ty → Bool
 | 0, _, _ => false
 | n + 1, i, t => match P.underlying i with
  | some (.int k) => (match t with
   | .i k' => decide (k = k')
   | _ => false)
  | some .bool => (match t with
   | .bo => true
   | _ => false)
  | some .string => (match t with
   | .s => true
   | _ => false)
  | some (.slice e) => (match t with
   | .l u => P.cellsOf e == u.rep.n && Nat.blt 0 u.rep.n && fits P n e u
   | _ => false)
  | some (.struct fs) => (match t with
   | .ex => exB P i
   | .p a b => uE P (fits P n) (P.cellsOf i) fs.toList 0 (.p a b)
   | _ => false)
  | _ => false
theorem kG {P : Program} {t : TypeId} (h : uu P t = true) : P.underlying t = some (.int .i64) ∧ P.cellsOf t = 1 := by
 unfold uu at h
 simp only [Bool.and_eq_true, beq_iff_eq] at h
 refine ⟨?_, h.2⟩
 revert h
 split
 ·rename_i h; intro _; exact h
 ·intro h; cases h.1
theorem NW {P : Program} {t : TypeId} (h : exB P t = true) : Hw P t := by
 unfold exB at h
 simp only [Bool.and_eq_true, beq_iff_eq] at h
 obtain ⟨h1, h2⟩ := h
 split at h1
 ·rename_i fs hfs
  split at h1
  ·rename_i f0 f1 f2 f3 hl
   simp only [Bool.and_eq_true, beq_iff_eq] at h1
   obtain ⟨⟨⟨⟨a0, b0⟩, a1, b1⟩, a2, b2⟩, ⟨a3, c3⟩, b3⟩ := h1
   have g : ∀ i : Nat, fs[i]? = [f0, f1, f2, f3][i]? := fun i => by rw [← hl, Array.getElem?_toList]
   have u3 : P.underlying f3.type = some (.slice t) := by
    revert b3
    split
    ·rename_i e he
     intro hb
     rw [he, (by simpa using hb : e = t)]
    ·intro hb; cases hb
   refine ⟨⟨fs, f0, f1, f2, f3, hfs, ?_, g 0, g 1, g 2, g 3, ⟨a0, (kG b0).1, (kG b0).2⟩, ⟨a1, (kG b1).1, (kG b1).2⟩, ⟨a2, (kG b2).1, (kG b2).2⟩, ⟨a3, u3, c3⟩⟩, h2⟩
   rw [← Array.length_toList, hl]; rfl
  ·cases h1
 ·cases h1
theorem KN {w : World} {a : Addr} {v : Value} (h : w.cell? a = some v) : a.spot = none ∧ ∃ cs e fr, w.heap[a.block]? = some (.cells cs e fr) ∧ cs[a.off]? = some v := by
 unfold World.cell? at h
 split at h
 ·rename_i cs e fr hb
  split at h
  ·cases h
  ·rename_i hs
   exact ⟨by simpa using hs, cs, e, fr, hb, h⟩
 ·cases h
theorem vh {Y α : Type} (R : Nat → Y → α → Prop) : ∀ (ys : List Y), (∀ i y, ys[i]? = some y → ∃ e, R i y e) → ∃ l : List α, l.length = ys.length ∧ ∀ i y e, ys[i]? = some y → l[i]? = some e → R i y e
 | [], _ => ⟨[], rfl, fun i y e h => by simp at h⟩
 | y :: ys, h => by
  obtain ⟨e, he⟩ := h 0 y rfl
  obtain ⟨l, hl, hr⟩ := vh (fun i => R (i + 1)) ys (fun i y hy => h (i + 1) y (by simpa using hy))
  refine ⟨e :: l, by simp [hl], fun i y' e' hy hx => ?_⟩
  cases i with
  | zero =>
   simp only [List.getElem?_cons_zero, Option.some.injEq] at hy hx
   subst hy; subst hx; exact he
  | succ i => exact hr i y' e' (by simpa using hy) (by simpa using hx)
theorem vF {H : Type} : ∀ (l : List (DataW H)), l.length ≤ Rows.uptoBulkAll l
 | [] => Nat.zero_le _
 | d :: l => by
  have := vF l
  have := wS d
  simp only [List.length_cons, Rows.uptoBulkAll]
  omega
theorem Il {H α : Type} {enc : TypeId × Value → H} {P : Program} {W : World} {t e : TypeId} {A : Rep α} {Q : Nat → Prop} {D : α → Prop} (ht : P.underlying t = some (.slice e)) (hA : P.cellsOf e = A.n) (hn : 0 < A.n)
  (fuel : Nat) (cs : List Value) (x : DataW H × List MemPlace) (hQ : ∀ n, n ≤ Rows.uptoBulk x.1 → Q n)
  (he : ∀ (fuel : Nat) (us : List Value) (y : DataW H × List MemPlace), (∀ n, n ≤ Rows.uptoBulk y.1 → Q n) → DataW.trod enc P W 0 (fun _ => true) true fuel e us = some y → ∃ z, A.rd (fun _ => False) W us z ∧ D z)
  (h : DataW.trod enc P W 0 (fun _ => true) true fuel t cs = some x) :
  ∃ (u : SLV) (zs : List α), cs = [sl u] ∧ SRd A (fun _ => False) W (sl u) zs ∧ (zs.length ≤ 9223372036854775807 ∧ Q zs.length) ∧ ∀ z ∈ zs, D z := by
 rcases DataW.trod_slice ht h with ⟨h3, _⟩ | ⟨a, len, cap, elems, rest, m, rfl, h3, hx, _, hlc, hmx, hlen, hel, hsp, _⟩
 ·exact ⟨(none, 0, 0), [], h3, SRd.nil, ⟨by simp, hQ _ (Nat.zero_le _)⟩, by simp⟩
 ·obtain ⟨hrl, hre⟩ := hsp rfl
  rw [hA] at hel hre
  have hmx : cap ≤ 9223372036854775807 := hmx
  have hb : Rows.uptoBulk x.1 = Rows.uptoBulkAll (elems.map (·.1)) + Rows.uptoBulkAll (rest.map (·.1)) + 1 := by rw [hx]; simp only [Rows.uptoBulk]
  have hlb : len ≤ Rows.uptoBulk x.1 := by
   have := vF (elems.map (·.1))
   simp only [List.length_map] at this
   omega
  have hQe : ∀ y ∈ elems, ∀ n, n ≤ Rows.uptoBulk y.1 → Q n := fun y hy n hn => hQ n (by
   have := pR (d := y.1) (l := elems.map (·.1)) (List.mem_map.2 ⟨y, hy, rfl⟩)
   omega)
  have cell : ∀ i, i < cap → ∃ us y, us.length = A.n ∧ (∀ j, j < A.n → W.cell? ((a.add (i * A.n)).add j) = us[j]?) ∧ DataW.trod enc P W 0 (fun _ => true) true m e us = some y ∧ (i < len → elems[i]? = some y) := fun i hi => by
   by_cases hil : i < len
   ·obtain ⟨y, hy⟩ : ∃ y, elems[i]? = some y := ⟨elems[i]'(by omega), List.getElem?_eq_getElem _⟩
    have := hel i hil
    rw [hy, Option.bind_eq_some_iff] at this
    obtain ⟨us, h1, h2⟩ := this
    obtain ⟨_, h3, h4⟩ := World.cells?_some h1
    exact ⟨us, y, h3, h4, h2, fun _ => hy⟩
   ·obtain ⟨y, hy⟩ : ∃ y, rest[i - len]? = some y := ⟨rest[i - len]'(by omega), List.getElem?_eq_getElem _⟩
    have := hre (i - len) (by omega)
    rw [hy, Option.bind_eq_some_iff, show len + (i - len) = i by omega] at this
    obtain ⟨us, h1, h2⟩ := this
    obtain ⟨_, h3, h4⟩ := World.cells?_some h1
    exact ⟨us, y, h3, h4, h2, fun h => absurd h hil⟩
  by_cases hcap : cap = 0
  ·subst hcap
   obtain rfl : len = 0 := by omega
   exact ⟨(some a, 0, 0), [], h3, SRd.emp, ⟨by simp, hQ _ (Nat.zero_le _)⟩, by simp⟩
  ·obtain ⟨us0, _, hl0, hc0, _⟩ := cell 0 (by omega)
   have h00 := hc0 0 hn
   rw [List.getElem?_eq_getElem (by omega)] at h00
   obtain ⟨hs, cs', e', fr, hblk, _⟩ := KN h00
   have hs' : a.spot = none := by simpa [Addr.add] using hs
   have hblk' : W.heap[a.block]? = some (.cells cs' e' fr) := by simpa [Addr.add] using hblk
   obtain ⟨b, off, sp⟩ := a
   simp only at hs' hblk'
   subst hs'
   have at_ : ∀ i j, ((⟨b, off, none⟩ : Addr).add (i * A.n)).add j = ⟨b, off + i * A.n + j, none⟩ := fun i j => by
    unfold Addr.add
    split <;> split <;> simp_all
   have cellx : ∀ i, i < cap → ∃ us y, us.length = A.n ∧ (∀ j, j < A.n → cs'[off + i * A.n + j]? = us[j]?) ∧ DataW.trod enc P W 0 (fun _ => true) true m e us = some y ∧ (i < len → elems[i]? = some y) := fun i hi => by
    obtain ⟨us, y, h3, h4, h5, h6⟩ := cell i hi
    refine ⟨us, y, h3, fun j hj => ?_, h5, h6⟩
    have := h4 j hj
    rw [at_] at this
    simpa [World.cell?, hblk'] using this
   have hsize : off + cap * A.n ≤ cs'.size := by
    obtain ⟨us, _, h3, h4, _⟩ := cellx (cap - 1) (by omega)
    have := h4 (A.n - 1) (by omega)
    rw [List.getElem?_eq_getElem (by omega)] at this
    have := (Array.getElem?_eq_some_iff.1 this).1
    have e1 : cap * A.n = (cap - 1) * A.n + A.n := by
     have : cap = (cap - 1) + 1 := by omega
     conv => lhs; rw [this]
     rw [Nat.add_mul, Nat.one_mul]
    omega
   have hel' : ∀ i y, elems[i]? = some y → ∃ z, (A.rd (fun _ => False) W (((cs'.toList.drop off).drop (i * A.n)).take A.n) z ∧ D z) := fun i y hy => by
    have hi : i < len := by rw [← hlen]; exact (List.getElem?_eq_some_iff.1 hy).1
    obtain ⟨us, y', h3, h4, h5, h6⟩ := cellx i (by omega)
    obtain rfl : y' = y := by have := h6 hi; rw [hy] at this; exact (Option.some.inj this).symm
    have hus : ((cs'.toList.drop off).drop (i * A.n)).take A.n = us := by
     apply List.ext_getElem?
     intro j
     by_cases hj : j < A.n
     ·rw [List.getElem?_take, if_pos hj, List.getElem?_drop, List.getElem?_drop, ← h4 j hj]
      simp [Nat.add_assoc]
     ·rw [List.getElem?_take, if_neg hj, List.getElem?_eq_none (by omega)]
    rw [hus]
    exact he m us y' (hQe y' (List.mem_of_getElem? hy)) h5
   obtain ⟨l, hll, hR⟩ := vh (fun i y z => A.rd (fun _ => False) W (((cs'.toList.drop off).drop (i * A.n)).take A.n) z ∧ D z) elems hel'
   have hll' : l.length = len := by omega
   have get : ∀ i (hi : i < l.length), A.rd (fun _ => False) W (((cs'.toList.drop off).drop (i * A.n)).take A.n) l[i] ∧ D l[i] := fun i hi => by
    obtain ⟨y, hy⟩ : ∃ y, elems[i]? = some y := ⟨elems[i]'(by omega), List.getElem?_eq_getElem _⟩
    exact hR i y l[i] hy (List.getElem?_eq_getElem _)
   refine ⟨(some ⟨b, off, none⟩, len, cap), l, h3, .inr ⟨b, off, cap, cs', e', fr, by rw [hll']; rfl, (fun h => h), hblk', by omega, hsize, ?_⟩, ⟨by omega, hQ _ (by omega)⟩, fun z hz => ?_⟩
   ·have hle : l.length * A.n ≤ cap * A.n := Nat.mul_le_mul_right _ (by omega)
    refine ⟨?_, fun i hi => ?_⟩
    ·simp only [List.length_take, List.length_drop, Array.length_toList]
     omega
    ·have h1 : i * A.n + A.n ≤ l.length * A.n := by rw [← Nat.succ_mul]; exact Nat.mul_le_mul_right _ hi
     rw [List.drop_take, List.take_take, Nat.min_eq_left (by omega)]
     exact (get i hi).1
   ·obtain ⟨i, hi, rfl⟩ := List.getElem_of_mem hz
    exact (get i hi).2
theorem DQ {H : Type} {enc : TypeId × Value → H} {P : Program} {W : World} {Q : Nat → Prop} : ∀ (n : Nat) (i : TypeId) (t : Ty), fits P n i t = true → ∀ (fuel : Nat) (cs : List Value) (x : DataW H × List MemPlace),
  (∀ n, n ≤ Rows.uptoBulk x.1 → Q n) → DataW.trod enc P W 0 (fun _ => true) true fuel i cs = some x → ∃ z : t.T, t.rep.rd (fun _ => False) W cs z ∧ Dom Q t z := by
 intro n
 induction n with
 | zero => intro i t h; cases h
 | succ n ih =>
 intro i t hf fuel cs x hQ h
 unfold fits at hf
 split at hf
 ·rename_i k hu
  split at hf
  ·obtain ⟨z, h1, _, h3⟩ := DataW.trod_int hu h
   have e := of_decide_eq_true hf
   subst e
   exact ⟨z, h1, h3⟩
  ·cases hf
 ·rename_i hu
  split at hf
  ·obtain ⟨z, h1, _⟩ := DataW.trod_bool hu h
   exact ⟨z, h1, trivial⟩
  ·cases hf
 ·rename_i hu
  split at hf
  ·obtain ⟨⟨⟨z⟩⟩, h1, _, h3⟩ := DataW.trod_string hu h
   exact ⟨z, h1, h3⟩
  ·cases hf
 ·rename_i e hu
  split at hf
  ·rename_i u
   simp only [Bool.and_eq_true, beq_iff_eq, Nat.blt_eq] at hf
   obtain ⟨⟨h1, h2⟩, h3⟩ := hf
   obtain ⟨p, zs, a1, a2, a3, a4⟩ := Il (A := u.rep) (Q := Q) (D := Dom Q u) hu h1 h2 fuel cs x hQ (fun fuel us y hy h => ih e u h3 fuel us y hy h) h
   exact ⟨zs, ⟨p, a1, a2⟩, a3, a4⟩
  ·cases hf
 ·rename_i fs hu
  have key : ∀ t : Ty, uE P (fits P n) (P.cellsOf i) fs.toList 0 t = true → ∃ z : t.T, t.rep.rd (fun _ => False) W cs z ∧ Dom Q t z := fun t hf => by
   obtain ⟨xs, m, _, hx, hl, hxs, hfl⟩ := DataW.trod_struct hu h
   have hb : Rows.uptoBulk x.1 = Rows.uptoBulkAll (xs.map (·.1)) + 1 := by rw [hx]; simp only [Rows.uptoBulk]
   have hQe : ∀ y ∈ xs, ∀ n, n ≤ Rows.uptoBulk y.1 → Q n := fun y hy n hn => hQ n (by
    have := pR (d := y.1) (l := xs.map (·.1)) (List.mem_map.2 ⟨y, hy, rfl⟩)
    omega)
   have one : ∀ (j : Nat) (f : Field) (t : Ty), fs.toList[j]? = some f → fits P n f.type t = true → ∃ z : t.T, t.rep.rd (fun _ => False) W ((cs.drop f.offset).take (P.cellsOf f.type)) z ∧ Dom Q t z := fun j f t hj ht => by
    have hj' : fs[j]? = some f := by simpa using hj
    have h1 := hfl j f hj'
    have hjl : j < xs.length := by rw [hxs]; exact (Array.getElem?_eq_some_iff.1 hj').1
    rw [List.getElem?_eq_getElem hjl] at h1
    exact ih f.type t ht m _ _ (hQe _ (List.getElem_mem _)) h1
   have go : ∀ (r : List Field) (j off : Nat) (t : Ty), fs.toList.drop j = r → uE P (fits P n) (P.cellsOf i) r off t = true → ∃ z : t.T, t.rep.rd (fun _ => False) W (cs.drop off) z ∧ Dom Q t z := fun r => by
    induction r with
    | nil => intro j off t _ h; cases h
    | cons f r ihr =>
     intro j off t hr hf
     have hj : fs.toList[j]? = some f := by
      have := congrArg (·[0]?) hr
      simpa [List.getElem?_drop] using this
     have hr' : fs.toList.drop (j + 1) = r := by
      rw [← List.drop_drop, hr]; rfl
     cases r with
     | nil =>
      simp only [uE, Bool.and_eq_true, beq_iff_eq] at hf
      obtain ⟨⟨⟨h1, h2⟩, h3⟩, h4⟩ := hf
      obtain ⟨z, z1, z2⟩ := one j f t hj h4
      rw [h1, List.take_of_length_le (by simp; omega)] at z1
      exact ⟨z, z1, z2⟩
     | cons g r =>
      unfold uE at hf
      split at hf
      ·rename_i a b
       simp only [Bool.and_eq_true, beq_iff_eq] at hf
       obtain ⟨⟨⟨h1, h2⟩, h3⟩, h4⟩ := hf
       obtain ⟨z, z1, z2⟩ := one j f a hj h3
       obtain ⟨y, y1, y2⟩ := ihr (j + 1) _ b hr' h4
       rw [h1] at z1
       refine ⟨(z, y), ⟨_, _, ?_, z1, y1⟩, z2, y2⟩
       rw [← List.drop_drop]; exact (List.take_append_drop ..).symm
      ·cases hf
   obtain ⟨z, z1, z2⟩ := go fs.toList 0 0 t rfl hf
   exact ⟨z, by simpa using z1, z2⟩
  split at hf
  ·obtain ⟨e, h1, h2⟩ := Gs (NW hf) fuel cs x h
   exact ⟨e, h1, hQ _ h2⟩
  ·exact key _ hf
  ·cases hf
 ·cases hf
def gD (W : World) (I : Its) : Prop := ∀ it ∈ I, it.1 = false ∧ it.2.bU = true ∧ ∀ M, Mv (fun _ => False) W M W → it.2.P M W
theorem gD.nil {W : World} : gD W [] := fun it h => by cases h
theorem gD.app {W : World} {I J : Its} (h : gD W I) (k : gD W J) : gD W (I ++ J) := fun it hit => by
 rcases List.mem_append.1 hit with h1 | h1
 ·exact h it h1
 ·exact k it h1
theorem gD.one {W : World} {α : Type} {A : Rep α} {p : SLV} {l : List α} (h : SRd A (fun _ => False) W (sl p) l) : gD W [(false, tW true A p l false)] := fun it hit => by
 rcases List.mem_singleton.1 hit with rfl
 exact ⟨rfl, rfl, fun M hm _ => ⟨h.mv hm, fun h => by cases h⟩⟩
theorem rT {W : World} : ∀ (t : Ty) (cs : List Value) (x : t.T), t.rep.rd (fun _ => False) W cs x → ∀ (o : List (Option TypeId)) (N : List Nm), ∃ I N', vO t x cs (j3 t ++ o) N I N' o ∧ gD W I
 | .i k, cs, x, h, o, N => ⟨[], N, ⟨h, rfl, rfl, rfl⟩, .nil⟩
 | .bo, cs, x, h, o, N => ⟨[], N, ⟨h, rfl, rfl, rfl⟩, .nil⟩
 | .s, cs, x, h, o, N => ⟨[], N, ⟨h, rfl, rfl, rfl⟩, .nil⟩
 | .un, cs, x, h, o, N => ⟨[], N, ⟨h, rfl, rfl, rfl⟩, .nil⟩
 | .n, cs, x, h, o, N => absurd h id
 | .mp _ _, cs, x, h, o, N => absurd h id
 | .p a b, cs, x, h, o, N => by
  obtain ⟨c1, c2, h1, h2, h3⟩ := h
  obtain ⟨I1, N1, s1, g1⟩ := rT a c1 x.1 h2 (j3 b ++ o) N
  obtain ⟨I2, N2, s2, g2⟩ := rT b c2 x.2 h3 o N1
  refine ⟨I1 ++ I2, N2, ⟨c1, c2, N1, I1, I2, j3 b ++ o, ?_, s2, h1, rfl⟩, g1.app g2⟩
  rw [show j3 (.p a b) ++ o = j3 a ++ (j3 b ++ o) by simp [j3]]
  exact s1
 | .l t, cs, x, h, o, N => by
  obtain ⟨p, h1, h2⟩ := h
  exact ⟨_, _, ⟨⟨0, p, ⟨0, 0, none⟩, none, .bool false, ⟨.un, ()⟩⟩, h1, rfl, .inl ⟨rfl, rfl⟩⟩, .one h2⟩
 | .ex, cs, x, h, o, N => by
  obtain ⟨p, h1, h2⟩ := rq h
  exact ⟨_, _, ⟨⟨0, p, ⟨0, 0, none⟩, none, .bool false, ⟨.un, ()⟩⟩, h1, rfl, .inl ⟨rfl, rfl⟩⟩, .one h2⟩
def Arg (W : World) (t : Ty) (v : Value) (z : t.T) : Prop := ∀ N : List Nm, ∃ I N', Sem (Nv t) v none none N [⟨t, z⟩] I [] N' ∧ gD W I
theorem DI {H : Type} {enc : TypeId × Value → H} {P : Program} {W : World} {Q : Nat → Prop} {base : Nat} {n : Nat} {i : TypeId} (t : Ty) (hf : fits P n i t = true) {v : Value} {d : DataW H} {ps : List MemPlace}
  (hw : Value.okWide P W .any base i v) (hQ : ∀ n, n ≤ Rows.uptoBulk d → Q n) (h : DataW.Trod enc P W 0 (fun _ => true) true i v d ps) : ∃ z : t.T, Arg W t v z ∧ Dom Q t z := by
 have hk := h
 obtain ⟨fuel, hx⟩ := h
 obtain ⟨z, h1, h2⟩ := DQ n i t hf fuel _ _ hQ hx
 refine ⟨z, ?_, h2⟩
 cases n with
 | zero => cases hf
 | succ n =>
 unfold fits at hf
 split at hf
 ·rename_i k hu
  split at hf
  ·have e := of_decide_eq_true hf
   subst e
   obtain ⟨y, rfl, _⟩ := open_int hu hw hk
   have : y = z := by
    have h1 : ([.int k y] : List Value) = [.int k z] := h1
    injection h1 with h1 _
    injection h1
   subst this
   exact fun N => ⟨[], N, ⟨y, rfl, rfl, rfl, rfl, rfl⟩, .nil⟩
  ·cases hf
 ·rename_i hu
  split at hf
  ·obtain ⟨y, rfl, _⟩ := open_bool hu hw hk
   have : y = z := by
    have h1 : ([.bool y] : List Value) = [.bool z] := h1
    injection h1 with h1 _
    injection h1
   subst this
   exact fun N => ⟨[], N, ⟨y, rfl, rfl, rfl, rfl, rfl⟩, .nil⟩
  ·cases hf
 ·rename_i hu
  split at hf
  ·obtain ⟨⟨⟨y⟩⟩, rfl, _⟩ := open_string hu hw hk
   have : y = z := by
    have h1 : ([S y] : List Value) = [S z] := h1
    injection h1 with h1 _
    injection h1 with h1
    injection h1 with h1
    injection h1
   subst this
   exact fun N => ⟨[], N, ⟨y, rfl, rfl, rfl, rfl, rfl⟩, .nil⟩
  ·cases hf
 ·rename_i e hu
  split at hf
  ·rename_i u
   obtain ⟨a, len, cap, rfl⟩ := okWide_slice hu hw
   obtain ⟨p, e1, h3⟩ := h1
   have e2 : Value.slice a len cap = sl p := by simpa [Value.cells] using e1
   rw [e2]
   exact fun N => ⟨_, _, ⟨⟨0, p, ⟨0, 0, none⟩, none, .bool false, ⟨.un, ()⟩⟩, z, rfl, rfl, rfl, rfl, rfl⟩, .one h3⟩
  ·cases hf
 ·rename_i fs hu
  obtain ⟨cs, rfl, _, _⟩ := N0 hu hw
  split at hf
  ·obtain ⟨p, e1, h3⟩ := rq h1
   exact fun N => ⟨_, _, ⟨cs.toList, z, [], by simp, rfl, ⟨⟨0, p, ⟨0, 0, none⟩, none, .bool false, ⟨.un, ()⟩⟩, e1, rfl, .inl ⟨rfl, rfl⟩⟩, rfl⟩, .one h3⟩
  ·rename_i a b
   exact fun N => by
    obtain ⟨I, N', s, g⟩ := rT (.p a b) _ z h1 [] N
    exact ⟨I, N', ⟨cs.toList, z, [], by simp, rfl, by simpa [Value.cells] using s, rfl⟩, g⟩
  ·cases hf
 ·cases hf
def KM (W : World) (ps : List Pt) (vs : List Value) (D : List Dyn) : Prop := ∀ N : List Nm, ∃ I N', lP ps vs [] N D I [] N' ∧ gD W I
theorem I0 {W : World} : KM W [] [] [] := fun N => ⟨[], N, ⟨rfl, rfl, rfl, rfl, rfl⟩, .nil⟩
theorem IC {W : World} {t : Ty} {v : Value} {z : t.T} {ps : List Pt} {vs : List Value} {D : List Dyn} (h : Arg W t v z) (k : KM W ps vs D) : KM W (Nv t :: ps) (v :: vs) (⟨t, z⟩ :: D) := fun N => by
 obtain ⟨I1, N1, s1, g1⟩ := h N
 obtain ⟨I2, N2, s2, g2⟩ := k N1
 exact ⟨I1 ++ I2, N2, ⟨v, vs, [⟨t, z⟩], D, I1, I2, [], [], N1, rfl, s1, s2, rfl, rfl, rfl⟩, g1.app g2⟩
theorem J1 {W : World} {I : Its} {Γ : Ctx} (g : gD W I) (hn : NoM Γ) (h : Sat Γ W) : Sat (ca I ++ Γ) W := oS h _ (fun it hit => by
 obtain ⟨x, hx, rfl⟩ := List.mem_map.1 hit
 exact ⟨(g x hx).2.1, (g x hx).2.2 _ (Kf hn)⟩)
end Go.Proofs.YtpnogcmollnjeaaGreatDoor
namespace Go.Proofs.YtpnogcmollnjeaaGreatDoor
namespace Ls
theorem Lg {x : Int} (h : (Lit.int .u8 x).wf = true) : 0 ≤ x ∧ x ≤ 255 := by
 simp only [Lit.wf, Bool.and_eq_true, decide_eq_true_eq] at h
 exact h
theorem Ml {Q : Nat → Prop} (w : WIn) (h : Dom Q (.p .s (.p (.l (.i .u8)) (.p (.l (.i .i64)) (.i .u8)))) w) : dU w = some true :=
 GQ w (fun x hx => Lg (h.2.1.2 x hx)) (Lg h.2.2.2)
end Ls
end Go.Proofs.YtpnogcmollnjeaaGreatDoor
