/-
  Own texts for the statement StepReach, cut down to what it needs: StC, StD1, StD2, StD4, StE, KFr. (cut and joined by a program)
-/
import Derived.Test.YtjdabjpjafkogaaDoorStepReachA
import Derived.Test.YtjdabjpjafkogaaDoorStepReachB
import Derived.Test.YtjdabjpjafkogaaDoorStepReachC
import Derived.Test.YtjdabjpjafkogaaDoorStepReachD
import Derived.Test.YtjdabjpjafkogaaDoorStepReachE
import Derived.Test.YtjdabjpjafkogaaDoorStepReachF
import Derived.Lib.LaidTab
import Derived.Below
import Derived.WalkKit
import Derived.ProofKit
namespace Go.Proofs.YtjdabjpjafkogaaDoor
namespace Sp
/-! rows alike -/
theorem vec_loop (a b : List Int) (hl : a.length = b.length) (ha : a.length < 1000000000) : ∀ (r pre s : List Int), a = pre ++ r → b = pre ++ s → ∀ M, r.length < M → fixN (scrutinyref02_Vec_L1 a b) M (pre.length : Int) = some (r == s)
 | [], pre, s, h, h2, M, hM => by
  obtain ⟨k, rfl⟩ : ∃ k, M = k + 1 := ⟨M - 1, by simp at hM; omega⟩
  rw [fixN_succ]
  simp only [scrutinyref02_Vec_L1, Sy.len_f h, cond_false]
  have : s = [] := List.eq_nil_of_length_eq_zero (by rw [h, h2] at hl; simpa using hl.symm)
  subst this; rfl
 | x :: r, pre, [], h, h2, M, hM => by rw [h, h2] at hl; simp at hl
 | x :: r, pre, y :: s, h, h2, M, hM => by
  obtain ⟨k, rfl⟩ : ∃ k, M = k + 1 := ⟨M - 1, by omega⟩
  rw [fixN_succ]
  have hlen : pre.length + r.length + 1 = a.length := by rw [h]; simp; omega
  simp only [scrutinyref02_Vec_L1, Sy.len_t h, cond_true, Sy.mid h, Sy.mid h2, bind_s, Pa.wrap1 (show pre.length < 4611686018427387904 by omega)]
  by_cases e : x = y
  ·subst e
   have ih := vec_loop a b hl ha r (pre ++ [x]) s (by rw [h]; simp) (by rw [h2]; simp) k (by simp at hM; omega)
   rw [show ((pre ++ [x]).length : Int) = ((pre.length + 1 : Nat) : Int) by simp] at ih
   rw [show (x != x) = false by simp, cond_false, ih]
   simp
  ·rw [show (x != y) = true by simpa using e, cond_true]
   simp [e]
theorem Vec_eq (a b : List Int) (ha : a.length < 1000000000) : scrutinyref02_Vec a b = some (a == b) := by
 unfold scrutinyref02_Vec
 by_cases hl : a.length = b.length
 ·rw [show ((List.length a : Int) != (List.length b : Int)) = false by rw [hl]; simp, cond_false]
  exact vec_loop a b hl ha a [] b rfl rfl FUEL (by show _ < 2 ^ 64; omega)
 ·rw [show ((List.length a : Int) != (List.length b : Int)) = true by simp; omega, cond_true, beq_eq_false_iff_ne.2 (fun e => hl (by rw [e]))]
theorem vecs_loop (a b : List (List Int)) (hl : a.length = b.length) (ha : a.length < 1000000000) (hs : ∀ w ∈ a, w.length < 1000000000) : ∀ (r pre s ps : List (List Int)), a = pre ++ r → b = ps ++ s → ps.length = pre.length → ∀ M, r.length < M → fixN (scrutinyref02_Vecs_L1 a b) M (pre.length : Int) = some (r == s)
 | [], pre, s, ps, h, h2, hp, M, hM => by
  obtain ⟨k, rfl⟩ : ∃ k, M = k + 1 := ⟨M - 1, by simp at hM; omega⟩
  rw [fixN_succ]
  simp only [scrutinyref02_Vecs_L1, Sy.len_f h, cond_false]
  have : s = [] := List.eq_nil_of_length_eq_zero (by rw [h, h2] at hl; simp at hl; omega)
  subst this; rfl
 | x :: r, pre, [], ps, h, h2, hp, M, hM => by rw [h, h2] at hl; simp at hl; omega
 | x :: r, pre, y :: s, ps, h, h2, hp, M, hM => by
  obtain ⟨k, rfl⟩ : ∃ k, M = k + 1 := ⟨M - 1, by omega⟩
  rw [fixN_succ]
  have hlen : pre.length + r.length + 1 = a.length := by rw [h]; simp; omega
  have e1 : idx b (pre.length : Int) = some y := by rw [← hp]; exact Sy.mid h2
  simp only [scrutinyref02_Vecs_L1, Sy.len_t h, cond_true, Sy.mid h, e1, bind_s, Pa.wrap1 (show pre.length < 4611686018427387904 by omega)]
  rw [Vec_eq x y (hs x (by rw [h]; simp)), bind_s]
  by_cases e : x = y
  ·subst e
   have ih := vecs_loop a b hl ha hs r (pre ++ [x]) s (ps ++ [x]) (by rw [h]; simp) (by rw [h2]; simp) (by simp; omega) k (by simp at hM; omega)
   rw [show ((pre ++ [x]).length : Int) = ((pre.length + 1 : Nat) : Int) by simp] at ih
   rw [show (!(x == x)) = false by simp, cond_false, ih]
   simp
  ·rw [show (!(x == y)) = true by simpa using e, cond_true]
   simp [e]
theorem Vecs_eq (a b : List (List Int)) (ha : a.length < 1000000000) (hs : ∀ w ∈ a, w.length < 1000000000) : scrutinyref02_Vecs a b = some (a == b) := by
 unfold scrutinyref02_Vecs
 by_cases hl : a.length = b.length
 ·rw [show ((List.length a : Int) != (List.length b : Int)) = false by rw [hl]; simp, cond_false]
  exact vecs_loop a b hl ha hs a [] b [] rfl rfl rfl FUEL (by show _ < 2 ^ 64; omega)
 ·rw [show ((List.length a : Int) != (List.length b : Int)) = true by simp; omega, cond_true, beq_eq_false_iff_ne.2 (fun e => hl (by rw [e]))]
/-! the place of a state in a row -/
def plc (v : List Int) : Nat → List (List Int) → Int
 | _, [] => -1
 | k, x :: r => if x = v then (k : Int) else plc v (k + 1) r
theorem plc_neg {v : List Int} : ∀ {l : List (List Int)} {k : Nat}, plc v k l < 0 ↔ v ∉ l
 | [], k => by simp [plc]
 | x :: r, k => by
  unfold plc
  by_cases e : x = v
  ·rw [if_pos e]
   constructor
   ·intro h; omega
   ·intro h; exact absurd (by rw [e]; simp) h
  ·rw [if_neg e, plc_neg (l := r)]
   simp only [List.mem_cons, not_or]
   exact ⟨fun h => ⟨fun e2 => e e2.symm, h⟩, fun h => h.2⟩
theorem place_loop (l : List (List Int)) (v : List Int) (hl : l.length < 1000000000) (hs : ∀ w ∈ l, w.length < 1000000000) : ∀ (r pre : List (List Int)), l = pre ++ r → ∀ M, r.length < M → fixN (scrutinyref15_Place_s2_L1 l v) M (pre.length : Int) = some (plc v pre.length r)
 | [], pre, h, M, hM => by
  obtain ⟨k, rfl⟩ : ∃ k, M = k + 1 := ⟨M - 1, by simp at hM; omega⟩
  rw [fixN_succ]
  simp only [scrutinyref15_Place_s2_L1, Sy.len_f h, cond_false, plc]
 | x :: r, pre, h, M, hM => by
  obtain ⟨k, rfl⟩ : ∃ k, M = k + 1 := ⟨M - 1, by omega⟩
  rw [fixN_succ]
  have hlen : pre.length + r.length + 1 = l.length := by rw [h]; simp; omega
  have ih := place_loop l v hl hs r (pre ++ [x]) (by rw [h]; simp) k (by simp at hM; omega)
  rw [show ((pre ++ [x]).length : Int) = ((pre.length + 1 : Nat) : Int) by simp, show (pre ++ [x]).length = pre.length + 1 by simp] at ih
  simp only [scrutinyref15_Place_s2_L1, Sy.len_t h, cond_true, Sy.mid h, bind_s, Pa.wrap1 (show pre.length < 4611686018427387904 by omega)]
  rw [Vec_eq x v (hs x (by rw [h]; simp)), bind_s, plc]
  by_cases e : x = v
  ·rw [if_pos e, show (x == v) = true by simpa using e, cond_true]
  ·rw [if_neg e, show (x == v) = false by simpa using e, cond_false]; exact ih
theorem Place_eq (l : List (List Int)) (v : List Int) (hl : l.length < 1000000000) (hs : ∀ w ∈ l, w.length < 1000000000) : scrutinyref15_Place_s2 l v = some (plc v 0 l) :=
 place_loop l v hl hs l [] rfl FUEL (by show _ < 2 ^ 64; omega)
/-! within the ranges, as the document says it -/
def inB (S : List (Int × Int)) (v : List Int) : Bool := decide (v.length = S.length) && fits S v
theorem inB_iff {S : List (Int × Int)} {v : List Int} : inB S v = true ↔ InS S v := by
 unfold inB
 rw [Bool.and_eq_true, decide_eq_true_eq]
 exact ⟨fun h => ⟨h.1, h.2⟩, fun h => ⟨h.len, h.fit⟩⟩
/-! what the document's walk needs -/
structure SafeR (S : List (Int × Int)) (C : List Sy.Cmd) : Prop extends SafeS S C where
 rguard : ∀ c ∈ C, mayE (S.length : Int) c.2.1 = true ∧ (rt c.2.1).1 = 2
 rsets : ∀ c ∈ C, ∀ s ∈ c.2.2, mayE (S.length : Int) s.2 = true ∧ (rt s.2).1 = 1
theorem Wf_safe {m : Sy.Mdl} (h : Sy.Wf m) : SafeR m.2.1 m.2.2.2.2 := by
 have hs := h.schema
 have h1 := h.some_
 have h2 := h.names
 have h3 := h.cmds
 refine { pos := by omega, few := by omega, field := h.fields, cmds := by omega, guard := fun c hc => ?_, sets := fun c hc => ⟨(h.cmd c hc).len, fun s hs2 => ?_⟩, rguard := fun c hc => ?_, rsets := fun c hc s hs2 => ?_ }
 ·have := (h.cmd c hc).sz; omega
 ·have k := (h.cmd c hc).sets s hs2
  have := k.var; have := k.sz
  refine ⟨by omega, by omega, by omega⟩
 ·have k := h.cmd c hc
  rw [hs]
  exact ⟨k.may, k.typ.2⟩
 ·have k := (h.cmd c hc).sets s hs2
  rw [hs]
  exact ⟨k.may, k.typ.2⟩
theorem fits_of : ∀ {S : List (Int × Int)} {v : List Int}, (∀ (i : Nat) (f : Int × Int) (n : Int), S[i]? = some f → v[i]? = some n → f.1 ≤ n ∧ n ≤ f.2) → fits S v = true
 | [], [], _ => rfl
 | [], _ :: _, _ => rfl
 | _ :: _, [], _ => rfl
 | s :: S, x :: v, h => by
  have h0 := h 0 s x rfl rfl
  simp only [fits, Bool.and_eq_true, decide_eq_true_eq]
  exact ⟨h0, fits_of fun i f n h1 h2 => h (i + 1) f n (by simpa using h1) (by simpa using h2)⟩
theorem Wf_init {m : Sy.Mdl} (h : Sy.Wf m) : InS m.2.1 m.2.2.1 := ⟨by rw [h.init, h.schema], fits_of h.first⟩
/-! a fired command, as the document says it -/
theorem rfit_loop (m : Sy.Mdl) (w : List Int) (hn : w.length = m.2.1.length) (hw : w.length < 1000) : ∀ (r pre : List Int) (rs ps : List (Int × Int)), w = pre ++ r → m.2.1 = ps ++ rs → ps.length = pre.length → rs.length = r.length →
  ∀ M, r.length < M → fixN (scrutinyref15_Fire_L2 m w) M (pre.length : Int) = some (bif fits rs r then (w, 0) else ([], 6))
 | [], pre, rs, ps, h, hS, hl, hr, M, hM => by
  obtain ⟨m, rfl⟩ : ∃ m, M = m + 1 := ⟨M - 1, by simp at hM; omega⟩
  rw [fixN_succ]
  simp only [scrutinyref15_Fire_L2, Sy.len_f h, cond_false]
  have : rs = [] := List.eq_nil_of_length_eq_zero hr
  subst this; rfl
 | x :: r, pre, [], ps, h, hS, hl, hr, M, hM => by simp at hr
 | x :: r, pre, s :: rs, ps, h, hS, hl, hr, M, hM => by
  obtain ⟨k, rfl⟩ : ∃ k, M = k + 1 := ⟨M - 1, by omega⟩
  rw [fixN_succ]
  have e1 : idx m.2.1 (pre.length : Int) = some s := by rw [← hl]; exact Sy.mid hS
  have hlen : pre.length + r.length + 1 = w.length := by rw [h]; simp; omega
  have ih := rfit_loop m w hn hw r (pre ++ [x]) rs (ps ++ [s]) (by rw [h]; simp) (by rw [hS]; simp) (by simp; omega) (by simpa using hr) k (by simp at hM; omega)
  rw [show ((pre ++ [x]).length : Int) = ((pre.length + 1 : Nat) : Int) by simp] at ih
  simp only [scrutinyref15_Fire_L2, Sy.len_t h, cond_true, Sy.mid h, bind_s, e1, Pa.wrap1 (show pre.length < 4611686018427387904 by omega), ih, fits, letv_e, callG_v]
  by_cases h1 : x < s.1
  ·rw [decide_eq_true h1, Bool.true_or, cond_true, decide_eq_false (show ¬ s.1 ≤ x by omega)]
   rfl
  ·rw [decide_eq_false h1, decide_eq_true (show s.1 ≤ x by omega)]
   simp only [Bool.not_false, cond_true, Bool.false_or, Bool.true_and]
   by_cases h2 : s.2 < x
   ·rw [decide_eq_true h2, decide_eq_false (show ¬ x ≤ s.2 by omega)]; rfl
   ·rw [decide_eq_false h2, decide_eq_true (show x ≤ s.2 by omega)]; rfl
theorem rfire_loop (m : Sy.Mdl) (v : List Int) (hm : SafeR m.2.1 m.2.2.2.2) (hn : v.length = m.2.1.length) (k : Int) (e : Sy.Cmd) (hk : idx m.2.2.2.2 k = some e) (he : e ∈ m.2.2.2.2) :
  ∀ (r pre : List (Int × Ex)), e.2.2 = pre ++ r → ∀ (w : List Int) (M : Nat), w.length = v.length → r.length < M →
   fixN (scrutinyref15_Fire_L1 m v k) M (w, (pre.length : Int)) = some (fin m.2.1 (r.foldl (setV v) w))
 | [], pre, h, w, M, hw, hM => by
  obtain ⟨n, rfl⟩ : ∃ n, M = n + 1 := ⟨M - 1, by simp at hM; omega⟩
  rw [fixN_succ]
  have hv : v.length < 1000 := by have := hm.few; omega
  simp only [scrutinyref15_Fire_L1, hk, bind_s, Sy.len_f h, cond_false, List.foldl_nil, fin]
  exact rfit_loop m w (by omega) (by omega) w [] m.2.1 [] rfl rfl rfl (by omega) FUEL (by show _ < 2 ^ 64; omega)
 | s :: r, pre, h, w, M, hw, hM => by
  obtain ⟨n, rfl⟩ : ∃ n, M = n + 1 := ⟨M - 1, by omega⟩
  rw [fixN_succ]
  have hs : s ∈ e.2.2 := by rw [h]; simp
  obtain ⟨h0, h1, h2⟩ := (hm.sets e he).2 s hs
  obtain ⟨h4, h5⟩ := hm.rsets e he s hs
  have h6 := (hm.sets e he).1
  have hlen : pre.length + r.length + 1 = e.2.2.length := by rw [h]; simp; omega
  obtain ⟨x, hx, _⟩ := idx_in w s.1 h0 (by omega)
  have ih := rfire_loop m v hm hn k e hk he r (pre ++ [s]) (by rw [h]; simp) (setV v w s) n (by rw [setV_len, hw]) (by simp at hM; omega)
  rw [show ((pre ++ [s]).length : Int) = ((pre.length + 1 : Nat) : Int) by simp] at ih
  simp only [scrutinyref15_Fire_L1, hk, bind_s, Sy.len_t h, cond_true, Sy.mid h]
  rw [REval_eq v s.2 (by omega) h4 (.inl h5)]
  simp only [bind_s, hx, Pa.wrap1 (show pre.length < 4611686018427387904 by omega)]
  exact ih
theorem RFire_eq {m : Sy.Mdl} {v : List Int} (hm : SafeR m.2.1 m.2.2.2.2) (hn : v.length = m.2.1.length) (k : Int) : scrutinyref15_Fire m v k = some (fireK m.2.1 m.2.2.2.2 v k) := by
 have hv : v.length < 1000 := by have := hm.few; omega
 unfold scrutinyref15_Fire
 simp only [letv_e]
 unfold fireK
 by_cases hk : k < 0 ∨ (m.2.2.2.2.length : Int) ≤ k
 ·rw [if_pos hk]
  rw [show (decide (k < 0) || decide ((List.length m.2.2.2.2 : Int) ≤ k)) = true by rw [Bool.or_eq_true, decide_eq_true_eq, decide_eq_true_eq]; exact hk, cond_true]
 ·rw [if_neg hk]
  rw [show (decide (k < 0) || decide ((List.length m.2.2.2.2 : Int) ≤ k)) = false by rw [Bool.eq_false_iff]; intro h; rw [Bool.or_eq_true, decide_eq_true_eq, decide_eq_true_eq] at h; exact hk h, cond_false]
  obtain ⟨c, hc, hc2⟩ := idx_in m.2.2.2.2 k (by omega) (by omega)
  rw [Sy.chk_t (Sy.room_ok (by simp; omega) (by simp; omega)), List.nil_append]
  have hmem : c ∈ m.2.2.2.2 := List.mem_of_getElem? hc2
  have := rfire_loop m v hm hn k c hc hmem c.2.2 [] rfl v FUEL rfl (by have := (hm.sets c hmem).1; show _ < 2 ^ 64; omega)
  rw [show (0 : Int) = ((([] : List (Int × Ex)).length : Nat) : Int) from rfl, this]
  unfold fireAt
  rw [hc2]
  rfl
theorem ren_loop (m : Sy.Mdl) (v : List Int) (hm : SafeR m.2.1 m.2.2.2.2) : ∀ (r pre : List Sy.Cmd), m.2.2.2.2 = pre ++ r → ∀ (out : List Int) (M : Nat), out.length ≤ pre.length → r.length < M →
  fixN (scrutinyref15_Enabled_L1 m v) M (out, (pre.length : Int)) = some (out ++ enI v pre.length r)
 | [], pre, h, out, M, ho, hM => by
  obtain ⟨k, rfl⟩ : ∃ k, M = k + 1 := ⟨M - 1, by simp at hM; omega⟩
  rw [fixN_succ]
  simp only [scrutinyref15_Enabled_L1, Sy.len_f h, cond_false, enI, List.append_nil]
 | c :: r, pre, h, out, M, ho, hM => by
  obtain ⟨k, rfl⟩ : ∃ k, M = k + 1 := ⟨M - 1, by omega⟩
  rw [fixN_succ]
  have hlen : pre.length + r.length + 1 = m.2.2.2.2.length := by rw [h]; simp; omega
  have h3 := hm.cmds
  have hg := hm.guard c (by rw [h]; simp)
  obtain ⟨h4, h5⟩ := hm.rguard c (by rw [h]; simp)
  simp only [scrutinyref15_Enabled_L1, Sy.len_t h, cond_true, Sy.mid h, bind_s]
  rw [REval_eq v c.2.1 (by omega) h4 (.inr h5), bind_s]
  have ih := fun out ho => ren_loop m v hm r (pre ++ [c]) (by rw [h]; simp) out k ho (by simp at hM; omega)
  rw [show ((pre ++ [c]).length : Int) = ((pre.length + 1 : Nat) : Int) by simp, show (pre ++ [c]).length = pre.length + 1 by simp] at ih
  simp only [Pa.wrap1 (show pre.length < 4611686018427387904 by omega), enI]
  by_cases he : ev v c.2.1 = 1
  ·rw [if_pos he, show (ev v c.2.1 == 1) = true by simpa using he, cond_true, Sy.chk_t (Sy.room_ok (by simp; omega) (by simp; omega)), ih _ (by simp; omega), List.append_assoc]
   rfl
  ·rw [if_neg he, show (ev v c.2.1 == 1) = false by simpa using he, cond_false, ih _ (by omega)]
theorem REn_eq {m : Sy.Mdl} {v : List Int} (hm : SafeR m.2.1 m.2.2.2.2) : scrutinyref15_Enabled m v = some (enI v 0 m.2.2.2.2) :=
 ren_loop m v hm m.2.2.2.2 [] rfl [] FUEL (Nat.le_refl _) (by have := hm.cmds; show _ < 2 ^ 64; omega)
theorem add_plc {l : List (List Int)} {v : List Int} : (plc v 0 l < 0 → addU l v = l ++ [v]) ∧ (¬ plc v 0 l < 0 → addU l v = l) := by
 unfold addU
 constructor
 ·intro h
  rw [plc_neg] at h
  rw [if_neg (by simpa using h)]
 ·intro h
  rw [plc_neg] at h
  rw [if_pos (by simpa using h)]
theorem rnext_loop (m : Sy.Mdl) (v : List Int) (hm : SafeR m.2.1 m.2.2.2.2) (hn : v.length = m.2.1.length) (L : List Int) (hL : ∀ i ∈ L, 0 ≤ i ∧ i < m.2.2.2.2.length) (hLl : L.length ≤ 300) :
  ∀ (r pre : List Int), L = pre ++ r → ∀ (l : List (List Int)) (M : Nat), (∀ w ∈ l, InS m.2.1 w) → l.length ≤ pre.length → r.length < M →
   fixN (scrutinyref15_Next_L1 m v L) M (l, (pre.length : Int)) = some (bif (r.map (fireAt m.2.2.2.2 v)).all (fits m.2.1) then (dedU l (r.map (fireAt m.2.2.2.2 v)), 0) else ([], 6))
 | [], pre, h, l, M, hs, hl, hM => by
  obtain ⟨k, rfl⟩ : ∃ k, M = k + 1 := ⟨M - 1, by simp at hM; omega⟩
  rw [fixN_succ]
  simp only [scrutinyref15_Next_L1, Sy.len_f h, cond_false]
  rfl
 | i :: r, pre, h, l, M, hs, hl, hM => by
  obtain ⟨k, rfl⟩ : ∃ k, M = k + 1 := ⟨M - 1, by omega⟩
  rw [fixN_succ]
  have hlen : pre.length + r.length + 1 = L.length := by rw [h]; simp; omega
  obtain ⟨hi0, hi1⟩ := hL i (by rw [h]; simp)
  simp only [scrutinyref15_Next_L1, Sy.len_t h, cond_true, Sy.mid h, bind_s]
  rw [RFire_eq hm hn i]
  unfold fireK
  rw [if_neg (by omega), bind_s]
  unfold fin
  rw [List.map_cons, List.all_cons]
  obtain ⟨c, _, hc⟩ := idx_in m.2.2.2.2 i hi0 hi1
  have hfl : (fireAt m.2.2.2.2 v i).length = m.2.1.length := by unfold fireAt; rw [hc, ← hn]; exact fireW_len v c
  cases hf : fits m.2.1 (fireAt m.2.2.2.2 v i)
  ·rfl
  ·have hin : InS m.2.1 (fireAt m.2.2.2.2 v i) := ⟨hfl, hf⟩
   simp only [cond_true, Bool.true_and]
   rw [show ((0 : Int) != 0) = false from rfl, cond_false, Place_eq l _ (by omega) (fun w hw => (hs w hw).short hm.toSafeS), bind_s]
   have hl2 := addU_len l (fireAt m.2.2.2.2 v i)
   have ih := rnext_loop m v hm hn L hL hLl r (pre ++ [i]) (by rw [h]; simp) (addU l (fireAt m.2.2.2.2 v i)) k (fun w hw => by
    rcases addU_mem.1 hw with h | h
    ·exact hs w h
    ·rw [h]; exact hin) (by simp; omega) (by simp at hM; omega)
   rw [show ((pre ++ [i]).length : Int) = ((pre.length + 1 : Nat) : Int) by simp] at ih
   simp only [Pa.wrap1 (show pre.length < 4611686018427387904 by omega), List.foldl_cons, dedU] at ih ⊢
   by_cases hp : plc (fireAt m.2.2.2.2 v i) 0 l < 0
   ·rw [decide_eq_true hp, cond_true, Sy.chk_t (Sy.room_ok (by simp; omega) (by simp; omega)), ← add_plc.1 hp]
    exact ih
   ·rw [decide_eq_false hp, cond_false]
    rw [add_plc.2 hp] at ih ⊢
    exact ih
theorem RNext_eq {m : Sy.Mdl} {v : List Int} (hm : SafeR m.2.1 m.2.2.2.2) (hv : InS m.2.1 v) : scrutinyref15_Next m v = some (nextP m.2.1 m.2.2.2.2 v) := by
 have hll := enI_len v m.2.2.2.2 0
 have hlen : (enI v 0 m.2.2.2.2).length ≤ 300 := by
  rw [enI_len]
  have := List.length_filter_le (fun c : Sy.Cmd => decide (ev v c.2.1 = 1)) m.2.2.2.2
  have := hm.cmds
  unfold enC; omega
 have hmap : (enI v 0 m.2.2.2.2).map (fireAt m.2.2.2.2 v) = goes v m.2.2.2.2 := enI_map v m.2.2.2.2 m.2.2.2.2 [] rfl
 have hq := rnext_loop m v hm hv.len (enI v 0 m.2.2.2.2) (fun i hi => enI_in hi) hlen (enI v 0 m.2.2.2.2) [] rfl [] FUEL (fun w hw => by cases hw) (Nat.le_refl _) (by show _ < 2 ^ 64; omega)
 rw [hmap, show ((([] : List Int).length : Nat) : Int) = 0 from rfl] at hq
 unfold scrutinyref15_Next
 rw [REn_eq hm, bind_s, hq, List.nil_append, Sy.chk_t (Sy.room_ok (by have := hv.short hm.toSafeS; simp; omega) (by have := hv.short hm.toSafeS; simp; omega))]
 unfold nextP nextW
 by_cases hg : goes v m.2.2.2.2 = []
 ·have h0 : (enI v 0 m.2.2.2.2).length = 0 := by rw [hll]; unfold goes at hg; have := congrArg List.length hg; simpa using this
  rw [if_pos hg, show ((List.length (enI v 0 m.2.2.2.2) : Int) == 0) = true by rw [h0]; rfl, cond_true]
 ·have h0 : (enI v 0 m.2.2.2.2).length ≠ 0 := by
   rw [hll]
   intro e
   apply hg
   unfold goes
   rw [List.eq_nil_of_length_eq_zero e]; rfl
  rw [if_neg hg, show ((List.length (enI v 0 m.2.2.2.2) : Int) == 0) = false by simp; simpa using h0, cond_false]
/-! what is reached, as the document says it -/
theorem rreach_L2 {S : List (Int × Int)} {cmds : List Sy.Cmd} (hS : SafeS S cmds) (i : Int) (again : (List (List Int)) × Int → Option ((List (List Int)) × Int × (List Int))) (q : List (List Int) × Int) (hq : ∀ w ∈ q.1, InS S w) (hql : q.1.length < 1000) :
  ∀ (r pre : List (List Int)), q.1 = pre ++ r → ∀ (l : List (List Int)) (M : Nat), (∀ w ∈ l, InS S w) → l.length ≤ 100000 + pre.length → r.length < M →
   fixN (scrutinyref15_Reach_L2 i again q) M (l, (pre.length : Int)) = again (dedU l r, IntKind.i64.wrap (i + 1))
 | [], pre, h, l, M, hs, hl, hM => by
  obtain ⟨k, rfl⟩ : ∃ k, M = k + 1 := ⟨M - 1, by simp at hM; omega⟩
  rw [fixN_succ]
  simp only [scrutinyref15_Reach_L2, Sy.len_f h, cond_false]
  rfl
 | w :: r, pre, h, l, M, hs, hl, hM => by
  obtain ⟨k, rfl⟩ : ∃ k, M = k + 1 := ⟨M - 1, by omega⟩
  rw [fixN_succ]
  have hlen : pre.length + r.length + 1 = q.1.length := by rw [h]; simp; omega
  have hw := hq w (by rw [h]; simp)
  have hl2 := addU_len l w
  have ih := rreach_L2 hS i again q hq hql r (pre ++ [w]) (by rw [h]; simp) (addU l w) k (fun u hu => by
    rcases addU_mem.1 hu with h | h
    ·exact hs u h
    ·rw [h]; exact hw) (by simp; omega) (by simp at hM; omega)
  rw [show ((pre ++ [w]).length : Int) = ((pre.length + 1 : Nat) : Int) by simp] at ih
  simp only [scrutinyref15_Reach_L2, Sy.len_t h, cond_true, Sy.mid h, bind_s, Pa.wrap1 (show pre.length < 4611686018427387904 by omega)]
  rw [Place_eq l _ (by omega) (fun w hw => (hs w hw).short hS), bind_s]
  simp only [List.foldl_cons, dedU] at ih ⊢
  by_cases hp : plc w 0 l < 0
  ·rw [decide_eq_true hp, cond_true, Sy.chk_t (Sy.room_ok (by simp; omega) (by simp; omega)), ← add_plc.1 hp]
   exact ih
  ·rw [decide_eq_false hp, cond_false]
   rw [add_plc.2 hp] at ih ⊢
   exact ih
theorem rreach_loop (m : Sy.Mdl) (hm : SafeR m.2.1 m.2.2.2.2) (most : Int) (hmost : most ≤ 1000) : ∀ (k : Nat) (i : Nat) (l : List (List Int)) (F M : Nat),
  (∀ w ∈ l, InS m.2.1 w) → most.toNat + 1 - i ≤ k → i ≤ 1001 → l.length < 100000 → (i < l.length ∨ (l.length : Int) ≤ most) → k < F → k < M →
   fixN (scrutinyref15_Reach_L1 m most) M (l, (i : Int)) = some (reachP m.2.1 m.2.2.2.2 most F l i)
 | 0, i, l, F, M, hl, hk, hi, hll, hor, hF, hM => by
  obtain ⟨n, rfl⟩ : ∃ n, M = n + 1 := ⟨M - 1, by omega⟩
  obtain ⟨f, rfl⟩ : ∃ f, F = f + 1 := ⟨F - 1, by omega⟩
  rw [fixN_succ, reachP]
  simp only [scrutinyref15_Reach_L1]
  by_cases hle : (l.length : Int) ≤ most
  ·have hn : ¬ ((i : Int) < (l.length : Int)) := by omega
   rw [if_pos hle, decide_eq_false hn, cond_false]
   rw [List.getElem?_eq_none (by omega)]
  ·rw [if_neg hle, decide_eq_true (show (i : Int) < (l.length : Int) by omega), cond_true, decide_eq_true (by omega), cond_true]
 | k + 1, i, l, F, M, hl, hk, hi, hll, hor, hF, hM => by
  obtain ⟨n, rfl⟩ : ∃ n, M = n + 1 := ⟨M - 1, by omega⟩
  obtain ⟨f, rfl⟩ : ∃ f, F = f + 1 := ⟨F - 1, by omega⟩
  rw [fixN_succ, reachP]
  simp only [scrutinyref15_Reach_L1]
  by_cases hle : (l.length : Int) ≤ most
  ·rw [if_pos hle]
   by_cases hlt : (i : Int) < (l.length : Int)
   ·obtain ⟨v, hv1, hv2⟩ := idx_in l (i : Int) (by omega) hlt
    rw [show ((i : Int)).toNat = i from rfl] at hv2
    have hin := hl v (List.mem_of_getElem? hv2)
    rw [decide_eq_true hlt, cond_true, decide_eq_false (show ¬ most < (l.length : Int) by omega), cond_false, hv1, bind_s, RNext_eq hm hin, bind_s, hv2]
    simp only
    by_cases hz : (nextP m.2.1 m.2.2.2.2 v).2 = 0
    ·rw [show ((nextP m.2.1 m.2.2.2.2 v).2 != 0) = false by simpa using hz, cond_false, if_pos hz]
     have hfew := nextP_few (S := m.2.1) (cmds := m.2.2.2.2) v
     have hc := hm.cmds
     have h1 := rreach_L2 hm.toSafeS (i : Int) (fixN (scrutinyref15_Reach_L1 m most) n) (nextP m.2.1 m.2.2.2.2 v) (nextP_in hin) (by omega) (nextP m.2.1 m.2.2.2.2 v).1 [] rfl l FUEL hl (by simp; omega) (by show _ < 2 ^ 64; omega)
     rw [show ((([] : List (List Int)).length : Nat) : Int) = 0 from rfl] at h1
     rw [h1, Pa.wrap1 (show i < 4611686018427387904 by omega)]
     have hdl := dedU_len (nextP m.2.1 m.2.2.2.2 v).1 l
     exact rreach_loop m hm most hmost k (i + 1) _ f n (fun w hw => by
      rcases dedU_mem.1 hw with h | h
      ·exact hl w h
      ·exact nextP_in hin w h) (by omega) (by omega) (by omega) (by omega) (by omega) (by omega)
    ·rw [show ((nextP m.2.1 m.2.2.2.2 v).2 != 0) = true by simpa using hz, cond_true, if_neg hz, bind_s]
   ·rw [decide_eq_false hlt, cond_false]
    rw [List.getElem?_eq_none (by omega)]
  ·rw [if_neg hle, decide_eq_true (show (i : Int) < (l.length : Int) by omega), cond_true, decide_eq_true (by omega), cond_true]
theorem RReach_eq {m : Sy.Mdl} (hm : SafeR m.2.1 m.2.2.2.2) (hi : InS m.2.1 m.2.2.1) (most : Int) (hmost : most ≤ 1000) : scrutinyref15_Reach m most = some (reachP m.2.1 m.2.2.2.2 most 2000 [m.2.2.1] 0) := by
 unfold scrutinyref15_Reach
 have hsh := hi.short hm.toSafeS
 rw [Sy.chk_t (Sy.room_ok (by simp; omega) (by simp; omega)), List.nil_append]
 exact rreach_loop m hm most hmost 1001 0 [m.2.2.1] 2000 FUEL (fun w hw => by rw [List.mem_singleton.1 hw]; exact hi) (by omega) (by omega) (by simp) (.inl (by simp)) (by omega) (by show _ < 2 ^ 64; omega)
/-! the system of a text -/
theorem Of_cases (text : Str) : ∃ q, scrutinyref15_Of text = some q ∧ (q.2 = true → Sy.Wf q.1) := by
 unfold scrutinyref15_Of
 by_cases h : (600 : Int) < (text.length : Int)
 ·rw [decide_eq_true h, cond_true]
  exact ⟨_, rfl, fun h => by cases h⟩
 ·rw [decide_eq_false h, cond_false, Sy.Parse_eq, bind_s]
  refine ⟨_, rfl, fun h => ?_⟩
  cases hs : Sy.sysT text with
  | ok m =>
   exact Sy.sysT_good hs
  | error e =>
   rw [hs] at h
   exact absurd (by simpa [Sy.outS] using h) (Sy.sysT_err hs)
end Sp
end Go.Proofs.YtjdabjpjafkogaaDoor
namespace Go.Proofs.YtjdabjpjafkogaaDoor
namespace Sp
def textA : Str := [118, 97, 114, 32, 120, 32, 48, 32, 50, 32, 48, 59, 32, 112, 114, 111, 99, 32, 80, 32, 123, 32, 120, 32, 60, 32, 50, 32, 58, 32, 120, 32, 61, 32, 120, 32, 43, 32, 49, 59, 32, 125]
def textB : Str := [118, 97, 114, 32, 120, 32, 48, 32, 50, 32, 48, 59, 32, 112, 114, 111, 99, 32, 80, 32, 123, 32, 116, 114, 117, 101, 32, 58, 32, 120, 32, 61, 32, 120, 32, 43, 32, 49, 59, 32, 125]
def SA : List (Int × Int) := [(0, 2)]
def gA : Ex := .mk 9 0 24 [.mk 2 0 22 [], .mk 1 2 26 []]
def gB : Ex := .mk 13 0 22 []
def xA (a : Int) : Ex := .mk 3 0 a [.mk 2 0 (a - 2) [], .mk 1 1 (a + 2) []]
def mA : Sy.Mdl := ([[120]], SA, [0], [[80]], [(0, gA, [(0, xA 36)])])
def mB : Sy.Mdl := ([[120]], SA, [0], [[80]], [(0, gB, [(0, xA 35)])])
theorem of_A : scrutinyref15_Of textA = some (mA, true) := by kernel_rfl
theorem of_B : scrutinyref15_Of textB = some (mB, true) := by kernel_rfl
theorem wf_A : Sy.Wf mA := by
 obtain ⟨q, h1, h2⟩ := Of_cases textA
 rw [of_A] at h1
 cases h1
 exact h2 rfl
theorem wf_B : Sy.Wf mB := by
 obtain ⟨q, h1, h2⟩ := Of_cases textB
 rw [of_B] at h1
 cases h1
 exact h2 rfl
theorem in_2 : InS SA [2] := ⟨rfl, rfl⟩
theorem shown_true : scrutinylaw15_shown = some true := by
 have sA := Wf_safe wf_A
 have sB := Wf_safe wf_B
 have eA : scrutinyref15_Of [118, 97, 114, 32, 120, 32, 48, 32, 50, 32, 48, 59, 32, 112, 114, 111, 99, 32, 80, 32, 123, 32, 120, 32, 60, 32, 50, 32, 58, 32, 120, 32, 61, 32, 120, 32, 43, 32, 49, 59, 32, 125] = some (mA, true) := of_A
 have eB : scrutinyref15_Of [118, 97, 114, 32, 120, 32, 48, 32, 50, 32, 48, 59, 32, 112, 114, 111, 99, 32, 80, 32, 123, 32, 116, 114, 117, 101, 32, 58, 32, 120, 32, 61, 32, 120, 32, 43, 32, 49, 59, 32, 125] = some (mB, true) := of_B
 have r1 : step_Reach mA 9 = some ([[0], [1], [2]], 0, []) := by
  rw [Reach_eq sA.toSafeS (Wf_init wf_A) 9 (by decide)]; kernel_rfl
 have r2 : step_Reach mA 2 = some ([], 7, []) := by
  rw [Reach_eq sA.toSafeS (Wf_init wf_A) 2 (by decide)]; kernel_rfl
 have r3 : step_Reach mB 9 = some ([], 6, [2]) := by
  rw [Reach_eq sB.toSafeS (Wf_init wf_B) 9 (by decide)]; kernel_rfl
 have n1 : step_Next mA [2] = some ([[2]], 0) := by
  rw [Next_eq (m := mA) (v := [2]) sA.toSafeS in_2]; kernel_rfl
 have f1 : step_Fire mA [2] 0 = some ([], 6) := by
  rw [Fire_eq (m := mA) (v := [2]) sA.toSafeS rfl 0]; kernel_rfl
 have f2 : step_Fire mA [2] 1 = some ([], 10) := by
  rw [Fire_eq (m := mA) (v := [2]) sA.toSafeS rfl 1]; kernel_rfl
 have en1 : step_Enabled mA [1] = some [0] := by
  rw [En_eq (m := mA) (v := [1]) sA.toSafeS]; kernel_rfl
 have en2 : step_Enabled mA [2] = some [] := by
  rw [En_eq (m := mA) (v := [2]) sA.toSafeS]; kernel_rfl
 unfold scrutinylaw15_shown
 rw [eA, bind_s, r1, bind_s, n1, bind_s, f1, bind_s, f2, bind_s, r2, bind_s, eB, bind_s, r3, bind_s, en1, en2]
 show _ = _
 kernel_rfl
theorem Of_in {text : Str} : ∃ q, scrutinyref15_Of text = some q ∧ (q.2 = true → Sy.Wf q.1) := Of_cases text
/-! what is reached, and how -/
theorem reachP_ok (S : List (Int × Int)) (C : List Sy.Cmd) (most : Int) (hmost : most ≤ 1000) : ∀ (k i : Nat) (l : List (List Int)) (f : Nat), l.Nodup → (∀ w ∈ l, InS S w) → most.toNat + 1 - i ≤ k → i ≤ 1001 → k < f →
  ((reachP S C most f l i).2.1 = 0 ∧ l <+: (reachP S C most f l i).1 ∧ (reachP S C most f l i).1.Nodup ∧ (∀ w ∈ (reachP S C most f l i).1, InS S w) ∧ ((reachP S C most f l i).1.length : Int) ≤ most ∧ (reachP S C most f l i).2.2 = [] ∧
   (∀ j v, i ≤ j → (reachP S C most f l i).1[j]? = some v → (nextP S C v).2 = 0 ∧ ∀ w ∈ (nextP S C v).1, w ∈ (reachP S C most f l i).1) ∧
   (∀ j w, l.length ≤ j → (reachP S C most f l i).1[j]? = some w → ∃ i' v, i' < j ∧ (reachP S C most f l i).1[i']? = some v ∧ w ∈ (nextP S C v).1)) ∨
  ((reachP S C most f l i).2.1 ≠ 0 ∧ (reachP S C most f l i).1 = [] ∧ ((reachP S C most f l i).2.2 = [] ∨ InS S (reachP S C most f l i).2.2))
 | k, i, l, 0, hn, hs, hk, hi, hf => by omega
 | k, i, l, f + 1, hn, hs, hk, hi, hf => by
  rw [reachP]
  by_cases hle : (l.length : Int) ≤ most
  ·rw [if_pos hle]
   cases hv : l[i]? with
   | none =>
    have hil : l.length ≤ i := List.getElem?_eq_none_iff.1 hv
    refine .inl ⟨rfl, List.prefix_refl _, hn, hs, hle, rfl, fun j v hj h => ?_, fun j w hj h => ?_⟩
    ·have := (List.getElem?_eq_some_iff.1 h).1
     simp only at this; omega
    ·have := (List.getElem?_eq_some_iff.1 h).1
     simp only at this; omega
   | some v =>
    have hil := (List.getElem?_eq_some_iff.1 hv).1
    have hin := hs v (List.mem_of_getElem? hv)
    simp only
    by_cases hz : (nextP S C v).2 = 0
    ·rw [if_pos hz]
     obtain ⟨k, rfl⟩ : ∃ k', k = k' + 1 := ⟨k - 1, by omega⟩
     have hn2 := dedU_nodup (m := (nextP S C v).1) hn
     have hp2 := dedU_pre (nextP S C v).1 l
     rcases reachP_ok S C most hmost k (i + 1) (dedU l (nextP S C v).1) f hn2 (fun w hw => by
      rcases dedU_mem.1 hw with h | h
      ·exact hs w h
      ·exact nextP_in hin w h) (by omega) (by omega) (by omega) with ⟨h1, h2, h3, h4, h5, h6, h7, h8⟩ | h
     ·refine .inl ⟨h1, hp2.trans h2, h3, h4, h5, h6, fun j u hj hu => ?_, fun j w hj hw => ?_⟩
      ·by_cases hij : j = i
       ·subst hij
        have : (reachP S C most f (dedU l (nextP S C v).1) (j + 1)).1[j]? = some v := by
         rw [List.prefix_iff_getElem?.1 (hp2.trans h2) j hil, ← hv, List.getElem?_eq_getElem hil]
        rw [hu] at this
        cases this
        exact ⟨hz, fun w hw => h2.mem (dedU_mem.2 (.inr hw))⟩
       ·exact h7 j u (by omega) hu
      ·by_cases hjl : (dedU l (nextP S C v).1).length ≤ j
       ·exact h8 j w hjl hw
       ·have hjd : j < (dedU l (nextP S C v).1).length := by omega
        have hwj : (dedU l (nextP S C v).1)[j]? = some w := by
         rw [← hw, List.prefix_iff_getElem?.1 h2 j hjd, List.getElem?_eq_getElem hjd]
        refine ⟨i, v, by omega, ?_, ?_⟩
        ·rw [List.prefix_iff_getElem?.1 (hp2.trans h2) i hil, ← hv, List.getElem?_eq_getElem hil]
        ·rcases dedU_mem.1 (List.mem_of_getElem? hwj) with hwl | h
         ·exfalso
          obtain ⟨j', hj', hj2⟩ := List.getElem_of_mem hwl
          have e1 : (dedU l (nextP S C v).1)[j']? = some w := by rw [List.prefix_iff_getElem?.1 hp2 j' hj', hj2]
          obtain ⟨_, e2⟩ := List.getElem?_eq_some_iff.1 e1
          obtain ⟨_, e3⟩ := List.getElem?_eq_some_iff.1 hwj
          have := (List.getElem_inj hn2).1 (e2.trans e3.symm)
          omega
         ·exact h
     ·exact .inr h
    ·rw [if_neg hz]
     exact .inr ⟨hz, rfl, .inr hin⟩
  ·rw [if_neg hle]
   exact .inr ⟨by simp, rfl, .inl rfl⟩
theorem reachP_short {S : List (Int × Int)} {C : List Sy.Cmd} (hS : SafeS S C) {v : List Int} (hv : InS S v) (most : Int) (hmost : most ≤ 1000) :
  (reachP S C most 2000 [v] 0).1.length < 1000000000 ∧ (∀ w ∈ (reachP S C most 2000 [v] 0).1, w.length < 1000000000) ∧ (reachP S C most 2000 [v] 0).2.2.length < 1000000000 := by
 rcases reachP_ok S C most hmost 1001 0 [v] 2000 (by simp) (fun w hw => by rw [List.mem_singleton.1 hw]; exact hv) (by omega) (by omega) (by omega) with ⟨_, _, _, h4, h5, h6, _⟩ | ⟨_, h1, h2⟩
 ·refine ⟨by omega, fun w hw => (h4 w hw).short hS, by rw [h6]; simp⟩
 ·rw [h1]
  refine ⟨by simp, (fun w hw => by cases hw), ?_⟩
  rcases h2 with h2 | h2
  ·rw [h2]; simp
  ·exact h2.short hS
theorem reach_K1 {q : Sy.Mdl × Bool} (hw : Sy.Wf q.1) (n : Int) (hn : n ≤ 150) : scrutinylaw15_StepReach_K1 true q n = some true := by
 have hm := Wf_safe hw
 unfold scrutinylaw15_StepReach_K1
 rw [Reach_eq hm.toSafeS (Wf_init hw) n (by omega), bind_s, RReach_eq hm (Wf_init hw) n (by omega), bind_s]
 obtain ⟨h1, h2, h3⟩ := reachP_short hm.toSafeS (Wf_init hw) n (by omega)
 simp only [callG_v, letv_e, Vecs_eq _ _ h1 h2, Vec_eq _ _ h3, beq_self_eq_true, Bool.and_self, cond_true]
theorem stepReach_true (text : Str) (most : Int) : scrutinylaw15_StepReach text most = some true := by
 unfold scrutinylaw15_StepReach
 obtain ⟨q, hq, hw⟩ := Of_in (text := text)
 rw [shown_true, bind_s, hq, bind_s]
 cases h2 : q.2
 ·rfl
 ·rw [Bool.not_true, cond_false]
  by_cases h : 150 < most
  ·rw [decide_eq_true h, cond_true]
   exact reach_K1 (hw h2) 150 (by omega)
  ·rw [decide_eq_false h, cond_false]
   exact reach_K1 (hw h2) most (by omega)
end Sp
end Go.Proofs.YtjdabjpjafkogaaDoor
namespace Go.Proofs.YtjdabjpjafkogaaDoor
namespace Sp
structure Mk (S : List (Int × Int)) (C : List Sy.Cmd) (L : List (List Int)) (marks : List Bool) (i : Nat) : Prop where
 len : marks.length = L.length
 mark : ∀ (j : Nat) (w : List Int) (i' : Nat) (v : List Int), i' < i → i' < j → L[i']? = some v → L[j]? = some w → w ∈ (nextP S C v).1 → marks[j]? = some true
end Sp
end Go.Proofs.YtjdabjpjafkogaaDoor
namespace Go.Proofs.YtjdabjpjafkogaaDoor
namespace Sp
theorem SafeS.sub {S : List (Int × Int)} {C D : List Sy.Cmd} (h : SafeS S C) (hl : D.length ≤ 300) (hs : ∀ c ∈ D, c ∈ C) : SafeS S D :=
 ⟨h.pos, h.few, h.field, hl, fun c hc => h.guard c (hs c hc), fun c hc => h.sets c (hs c hc)⟩
/-! stays -/
def off (c : Sy.Cmd) : Sy.Cmd := (c.1, .mk 16 0 0 [c.2.1, .mk 14 0 0 []], c.2.2)
/-! joins -/
end Sp
end Go.Proofs.YtjdabjpjafkogaaDoor
namespace Go.Proofs.YtjdabjpjafkogaaDoor
namespace Sp
theorem stepReach_t (text : Str) (most : Int) (_ : text.length ≤ 9223372036854775807) (_ : -9223372036854775808 ≤ most ∧ most ≤ 9223372036854775807) : scrutinylaw15_StepReach text most = some true := stepReach_true text most
end Sp
end Go.Proofs.YtjdabjpjafkogaaDoor
namespace Go.Proofs.YtjdabjpjafkogaaDoor
open Go.Lib Go.ChangeAt Go.ChangeShapes Go.WideShapes Go.RowKit
theorem laid_at {P : Program} {w : World} : ∀ (l : List (String × DataW Unit)) (ps : List MemPlace), DataW.LaidVars P w l ps → ∀ (i : Nat) (n : String) (d : DataW Unit), l[i]? = some (n, d) →
  ∃ g t cs fuel p, P.globalNamed n = some g ∧ (P.globals[g]?).map (·.type) = some t ∧ w.var? P n = some cs ∧ DataW.trod (fun _ => ()) P w 0 (fun _ => true) false fuel t cs.toList = some (d, p)
 | [], _, _, i, n, d, h => by simp at h
 | (n0, d0) :: l, ps, h, i, n, d, hi => by
  obtain ⟨g, t, cs, fuel, p, q, h1, h2, h3, h4, h5, _⟩ := h
  cases i with
  | zero =>
   simp only [List.getElem?_cons_zero, Option.some.injEq, Prod.mk.injEq] at hi
   obtain ⟨rfl, rfl⟩ := hi
   exact ⟨g, t, cs, fuel, p, h1, h2, h3, h4⟩
  | succ i => exact laid_at l q h5 i n d (by simpa using hi)
theorem cells_of_strs {H : Type} {enc : TypeId × Value → H} {P : Program} {w : World} {base : Nat} {sp : Nat → Bool} {held : Bool} {fuel : Nat} {t e : TypeId} {n : Nat} {cs : List Value} {zs : List Str} {p : List MemPlace}
  (ht : P.underlying t = some (.array n e)) (he : P.underlying e = some .string) (hce : P.cellsOf e = 1) (hct : P.cellsOf t = n)
  (h : DataW.trod enc P w base sp held fuel t cs = some (.agg (zs.map fun z => .lit (.string z)), p)) : cs = zs.map S := by
 cases fuel with
 | zero => simp [DataW.trod] at h
 | succ fuel =>
  simp only [DataW.trod, ht, hce, hct, Nat.mul_one] at h
  split at h
  ·rename_i hl
   obtain ⟨xs, hm, hx⟩ := Option.map_eq_some_iff.1 h
   have hxs : xs.map (·.1) = zs.map fun z => (DataW.lit (.string z) : DataW H) := by
    have := congrArg Prod.fst hx
    simpa using this
   have hxl : xs.length = n := by simpa using mapM_length hm
   have hzl : zs.length = n := by
    have := congrArg List.length hxs
    simp at this
    omega
   apply List.ext_getElem?
   intro i
   by_cases hi : i < n
   ·obtain ⟨b, hb, hf⟩ := mapM_at hm i i (by simp [hi])
    obtain ⟨z, hc, rfl, _⟩ := DataW.trod_string he hf
    have h1 : cs[i]? = some (.string z) := by
     have := congrArg (·[0]?) hc
     simpa [List.getElem?_take, List.getElem?_drop] using this
    have h2 : (xs.map (·.1))[i]? = some (DataW.lit (.string z.data.toList) : DataW H) := by simp [hb]
    rw [hxs] at h2
    simp only [List.getElem?_map, Option.map_eq_some_iff, DataW.lit.injEq, Lit.string.injEq] at h2
    obtain ⟨z', hz', hz2⟩ := h2
    subst hz2
    simp [h1, hz', S]
   ·rw [List.getElem?_eq_none (by omega), List.getElem?_eq_none (by simp; omega)]
  ·cases h
theorem laidMet_of {P : Program} {laid : List (String × DataW Unit)} {w : World} (hf : (laid.filter fun x => x.2.handleName?.isSome) = []) (h : laidMetH P laid w) : laidMet P laid w := by
 unfold laidMetH at h
 rw [hf] at h
 exact h
theorem gl_strs {P : Program} {laid : List (String × DataW Unit)} {w : World} {Γ : Ctx} (h : laidMet P laid w) (i : Nat) {n : String} {zs : List Str} {g : Nat} {t e : TypeId} {k : Nat}
  (hi : laid[i]? = some (n, .agg (zs.map fun z => .lit (.string z)))) (hg : P.globalNamed n = some g) (hty : (P.globals[g]?).map (·.type) = some t)
  (ht : P.underlying t = some (.array k e)) (he : P.underlying e = some .string) (hce : P.cellsOf e = 1) (hct : P.cellsOf t = k) (hM : ¬ Γ.M g) : (gl g (zs.map S)).P Γ.M w := by
 obtain ⟨ps, hl, _⟩ := h
 obtain ⟨g', t', cs, fuel, p, hg', ht', hv, hd⟩ := laid_at _ _ hl i n _ hi
 obtain rfl := Option.some.inj (hg.symm.trans hg')
 obtain rfl := Option.some.inj (hty.symm.trans ht')
 have e1 := cells_of_strs ht he hce hct hd
 refine ⟨hM, ?_⟩
 unfold World.var? at hv
 rw [hg] at hv
 simp only [Option.bind_some] at hv
 split at hv
 ·rename_i c ty fr hb
  obtain rfl := Option.some.inj hv
  exact ⟨ty, fr, by rw [hb, ← e1]⟩
 ·cases hv
theorem gl_ints {P : Program} {laid : List (String × DataW Unit)} {w : World} {Γ : Ctx} (h : laidMet P laid w) (i : Nat) {n : String} {kd : IntKind} {zs : List Int} {g : Nat} {t e : TypeId} {k : Nat}
  (hi : laid[i]? = some (n, tabData kd zs)) (hg : P.globalNamed n = some g) (hty : (P.globals[g]?).map (·.type) = some t)
  (ht : P.underlying t = some (.array k e)) (he : P.underlying e = some (.int kd)) (hce : P.cellsOf e = 1) (hct : P.cellsOf t = k) (hM : ¬ Γ.M g) : (gl g (zs.map (Value.int kd))).P Γ.M w := by
 obtain ⟨ps, hl, _⟩ := h
 obtain ⟨g', t', cs, fuel, p, hg', ht', hv, hd⟩ := laid_at _ _ hl i n _ hi
 obtain rfl := Option.some.inj (hg.symm.trans hg')
 obtain rfl := Option.some.inj (hty.symm.trans ht')
 have e1 := cells_of_tab ht he hce hct hd
 refine ⟨hM, ?_⟩
 unfold World.var? at hv
 rw [hg] at hv
 simp only [Option.bind_some] at hv
 split at hv
 ·rename_i c ty fr hb
  obtain rfl := Option.some.inj hv
  exact ⟨ty, fr, by rw [hb, ← e1]⟩
 ·cases hv
/-! the row at the start: nothing is owned -/
def NoM (Γ : Ctx) : Prop := ∀ b, ¬ Γ.M b
theorem noM_nil : NoM [] := fun b h => by obtain ⟨it, h, _⟩ := h; cases h
theorem noM_cons {it : Item} {Γ : Ctx} (hp : it.own = []) (h : NoM Γ) : NoM (it :: Γ) := fun b hb => by
 rcases Ctx.M_cons.1 hb with h1 | h1
 ·rw [hp] at h1; cases h1
 ·exact h b h1
theorem sat_start (w : World) : Sat [kept w (fun _ => False)] w := Sat.nil.add rfl ⟨SameEnv.refl w, Nat.le_refl _, fun b _ _ => ⟨noM_nil b, rfl⟩⟩
theorem noM_start (w : World) : NoM [kept w (fun _ => False)] := noM_cons rfl noM_nil
theorem below_end {w w' : World} {Γ : Ctx} {i : Nat} (h : Sat Γ w') (hi : Γ[i]? = some (kept w (fun _ => False))) : Below w.heap.size w w' := by
 obtain ⟨h1, h2, h3⟩ := h.kept hi
 exact ⟨h1.os, h1.tape, h1.output, h2, fun k hk => (h3 k hk (fun h => h)).2⟩
end Go.Proofs.YtjdabjpjafkogaaDoor
