/-
  Own texts for the statement StepFires, cut down to what it needs: StC, StD1, StD2, StD3, StD4, StE, KFr, KSl. (cut and joined by a program)
-/
import Derived.Test.YtjdabjpjafkogaaDoorStepFiresA
import Derived.Test.YtjdabjpjafkogaaDoorStepFiresB
import Derived.Test.YtjdabjpjafkogaaDoorStepFiresC
import Derived.Test.YtjdabjpjafkogaaDoorStepFiresD
import Derived.Test.YtjdabjpjafkogaaDoorStepFiresE
import Derived.Test.YtjdabjpjafkogaaDoorStepFiresF
import Derived.Lib.LaidTab
import Derived.Below
import Derived.WalkKit
import Derived.ProofKit
import Derived.Carry
import Derived.ChangeSlices
namespace Go.Proofs.YtjdabjpjafkogaaDoor
namespace Sp
/-! rows alike -/
theorem vec_loop (a b : List Int) (hl : a.length = b.length) (ha : a.length < 1000000000) : ∀ (r pre s : List Int), a = pre ++ r → b = pre ++ s → ∀ M, r.length < M → fixN (scrutinyref02_Vec_L1 a b) M (pre.length : Int) = some (r == s)
 | [], pre, s, h, h2, M, hM => by
  obtain ⟨k, rfl⟩ : ∃ k, M = k + 1 := ⟨M - 1, by simp at hM; omega⟩
  rw [fixN_succ]
  simp only [scrutinyref02_Vec_L1, Sy.len_f h, cond_false]
  have : s = [] := List.eq_nil_of_length_eq_zero (by rw [h, h2] at hl; simpa using hl.symm)
  subst this; rfl
 | x :: r, pre, [], h, h2, M, hM => by rw [h, h2] at hl; simp at hl
 | x :: r, pre, y :: s, h, h2, M, hM => by
  obtain ⟨k, rfl⟩ : ∃ k, M = k + 1 := ⟨M - 1, by omega⟩
  rw [fixN_succ]
  have hlen : pre.length + r.length + 1 = a.length := by rw [h]; simp; omega
  simp only [scrutinyref02_Vec_L1, Sy.len_t h, cond_true, Sy.mid h, Sy.mid h2, bind_s, Pa.wrap1 (show pre.length < 4611686018427387904 by omega)]
  by_cases e : x = y
  ·subst e
   have ih := vec_loop a b hl ha r (pre ++ [x]) s (by rw [h]; simp) (by rw [h2]; simp) k (by simp at hM; omega)
   rw [show ((pre ++ [x]).length : Int) = ((pre.length + 1 : Nat) : Int) by simp] at ih
   rw [show (x != x) = false by simp, cond_false, ih]
   simp
  ·rw [show (x != y) = true by simpa using e, cond_true]
   simp [e]
theorem Vec_eq (a b : List Int) (ha : a.length < 1000000000) : scrutinyref02_Vec a b = some (a == b) := by
 unfold scrutinyref02_Vec
 by_cases hl : a.length = b.length
 ·rw [show ((List.length a : Int) != (List.length b : Int)) = false by rw [hl]; simp, cond_false]
  exact vec_loop a b hl ha a [] b rfl rfl FUEL (by show _ < 2 ^ 64; omega)
 ·rw [show ((List.length a : Int) != (List.length b : Int)) = true by simp; omega, cond_true, beq_eq_false_iff_ne.2 (fun e => hl (by rw [e]))]
theorem vecs_loop (a b : List (List Int)) (hl : a.length = b.length) (ha : a.length < 1000000000) (hs : ∀ w ∈ a, w.length < 1000000000) : ∀ (r pre s ps : List (List Int)), a = pre ++ r → b = ps ++ s → ps.length = pre.length → ∀ M, r.length < M → fixN (scrutinyref02_Vecs_L1 a b) M (pre.length : Int) = some (r == s)
 | [], pre, s, ps, h, h2, hp, M, hM => by
  obtain ⟨k, rfl⟩ : ∃ k, M = k + 1 := ⟨M - 1, by simp at hM; omega⟩
  rw [fixN_succ]
  simp only [scrutinyref02_Vecs_L1, Sy.len_f h, cond_false]
  have : s = [] := List.eq_nil_of_length_eq_zero (by rw [h, h2] at hl; simp at hl; omega)
  subst this; rfl
 | x :: r, pre, [], ps, h, h2, hp, M, hM => by rw [h, h2] at hl; simp at hl; omega
 | x :: r, pre, y :: s, ps, h, h2, hp, M, hM => by
  obtain ⟨k, rfl⟩ : ∃ k, M = k + 1 := ⟨M - 1, by omega⟩
  rw [fixN_succ]
  have hlen : pre.length + r.length + 1 = a.length := by rw [h]; simp; omega
  have e1 : idx b (pre.length : Int) = some y := by rw [← hp]; exact Sy.mid h2
  simp only [scrutinyref02_Vecs_L1, Sy.len_t h, cond_true, Sy.mid h, e1, bind_s, Pa.wrap1 (show pre.length < 4611686018427387904 by omega)]
  rw [Vec_eq x y (hs x (by rw [h]; simp)), bind_s]
  by_cases e : x = y
  ·subst e
   have ih := vecs_loop a b hl ha hs r (pre ++ [x]) s (ps ++ [x]) (by rw [h]; simp) (by rw [h2]; simp) (by simp; omega) k (by simp at hM; omega)
   rw [show ((pre ++ [x]).length : Int) = ((pre.length + 1 : Nat) : Int) by simp] at ih
   rw [show (!(x == x)) = false by simp, cond_false, ih]
   simp
  ·rw [show (!(x == y)) = true by simpa using e, cond_true]
   simp [e]
theorem Vecs_eq (a b : List (List Int)) (ha : a.length < 1000000000) (hs : ∀ w ∈ a, w.length < 1000000000) : scrutinyref02_Vecs a b = some (a == b) := by
 unfold scrutinyref02_Vecs
 by_cases hl : a.length = b.length
 ·rw [show ((List.length a : Int) != (List.length b : Int)) = false by rw [hl]; simp, cond_false]
  exact vecs_loop a b hl ha hs a [] b [] rfl rfl rfl FUEL (by show _ < 2 ^ 64; omega)
 ·rw [show ((List.length a : Int) != (List.length b : Int)) = true by simp; omega, cond_true, beq_eq_false_iff_ne.2 (fun e => hl (by rw [e]))]
/-! the place of a state in a row -/
def plc (v : List Int) : Nat → List (List Int) → Int
 | _, [] => -1
 | k, x :: r => if x = v then (k : Int) else plc v (k + 1) r
theorem plc_neg {v : List Int} : ∀ {l : List (List Int)} {k : Nat}, plc v k l < 0 ↔ v ∉ l
 | [], k => by simp [plc]
 | x :: r, k => by
  unfold plc
  by_cases e : x = v
  ·rw [if_pos e]
   constructor
   ·intro h; omega
   ·intro h; exact absurd (by rw [e]; simp) h
  ·rw [if_neg e, plc_neg (l := r)]
   simp only [List.mem_cons, not_or]
   exact ⟨fun h => ⟨fun e2 => e e2.symm, h⟩, fun h => h.2⟩
theorem place_loop (l : List (List Int)) (v : List Int) (hl : l.length < 1000000000) (hs : ∀ w ∈ l, w.length < 1000000000) : ∀ (r pre : List (List Int)), l = pre ++ r → ∀ M, r.length < M → fixN (scrutinyref15_Place_s2_L1 l v) M (pre.length : Int) = some (plc v pre.length r)
 | [], pre, h, M, hM => by
  obtain ⟨k, rfl⟩ : ∃ k, M = k + 1 := ⟨M - 1, by simp at hM; omega⟩
  rw [fixN_succ]
  simp only [scrutinyref15_Place_s2_L1, Sy.len_f h, cond_false, plc]
 | x :: r, pre, h, M, hM => by
  obtain ⟨k, rfl⟩ : ∃ k, M = k + 1 := ⟨M - 1, by omega⟩
  rw [fixN_succ]
  have hlen : pre.length + r.length + 1 = l.length := by rw [h]; simp; omega
  have ih := place_loop l v hl hs r (pre ++ [x]) (by rw [h]; simp) k (by simp at hM; omega)
  rw [show ((pre ++ [x]).length : Int) = ((pre.length + 1 : Nat) : Int) by simp, show (pre ++ [x]).length = pre.length + 1 by simp] at ih
  simp only [scrutinyref15_Place_s2_L1, Sy.len_t h, cond_true, Sy.mid h, bind_s, Pa.wrap1 (show pre.length < 4611686018427387904 by omega)]
  rw [Vec_eq x v (hs x (by rw [h]; simp)), bind_s, plc]
  by_cases e : x = v
  ·rw [if_pos e, show (x == v) = true by simpa using e, cond_true]
  ·rw [if_neg e, show (x == v) = false by simpa using e, cond_false]; exact ih
theorem Place_eq (l : List (List Int)) (v : List Int) (hl : l.length < 1000000000) (hs : ∀ w ∈ l, w.length < 1000000000) : scrutinyref15_Place_s2 l v = some (plc v 0 l) :=
 place_loop l v hl hs l [] rfl FUEL (by show _ < 2 ^ 64; omega)
/-! within the ranges, as the document says it -/
def inB (S : List (Int × Int)) (v : List Int) : Bool := decide (v.length = S.length) && fits S v
theorem inB_iff {S : List (Int × Int)} {v : List Int} : inB S v = true ↔ InS S v := by
 unfold inB
 rw [Bool.and_eq_true, decide_eq_true_eq]
 exact ⟨fun h => ⟨h.1, h.2⟩, fun h => ⟨h.len, h.fit⟩⟩
theorem rin_loop (S : List (Int × Int)) (w : List Int) : ∀ (r pre : List Int) (rs ps : List (Int × Int)), w = pre ++ r → S = ps ++ rs → ps.length = pre.length → rs.length = r.length → w.length < 1000 →
  ∀ M, r.length < M → fixN (scrutinyref02_In_L1 S w) M (pre.length : Int) = some (bif fits rs r then 0 else 5)
 | [], pre, rs, ps, h, hS, hl, hr, hw, M, hM => by
  obtain ⟨m, rfl⟩ : ∃ m, M = m + 1 := ⟨M - 1, by simp at hM; omega⟩
  rw [fixN_succ]
  simp only [scrutinyref02_In_L1, Sy.len_f h, cond_false]
  have : rs = [] := List.eq_nil_of_length_eq_zero hr
  subst this; rfl
 | x :: r, pre, [], ps, h, hS, hl, hr, hw, M, hM => by simp at hr
 | x :: r, pre, s :: rs, ps, h, hS, hl, hr, hw, M, hM => by
  obtain ⟨m, rfl⟩ : ∃ m, M = m + 1 := ⟨M - 1, by omega⟩
  rw [fixN_succ]
  have e1 : idx S (pre.length : Int) = some s := by rw [← hl]; exact Sy.mid hS
  have hlen : pre.length + r.length + 1 = w.length := by rw [h]; simp; omega
  have ih := rin_loop S w r (pre ++ [x]) rs (ps ++ [s]) (by rw [h]; simp) (by rw [hS]; simp) (by simp; omega) (by simpa using hr) hw m (by simp at hM; omega)
  rw [show ((pre ++ [x]).length : Int) = ((pre.length + 1 : Nat) : Int) by simp] at ih
  simp only [scrutinyref02_In_L1, Sy.len_t h, cond_true, Sy.mid h, bind_s, e1, Pa.wrap1 (show pre.length < 4611686018427387904 by omega), ih, fits, letv_e, callG_v]
  by_cases h1 : x < s.1
  ·rw [decide_eq_true h1, Bool.true_or, cond_true, decide_eq_false (show ¬ s.1 ≤ x by omega)]
   rfl
  ·rw [decide_eq_false h1, decide_eq_true (show s.1 ≤ x by omega)]
   simp only [Bool.not_false, cond_true, Bool.false_or, Bool.true_and]
   by_cases h2 : s.2 < x
   ·rw [decide_eq_true h2, decide_eq_false (show ¬ x ≤ s.2 by omega)]; rfl
   ·rw [decide_eq_false h2, decide_eq_true (show x ≤ s.2 by omega)]; rfl
theorem RIn_eq (m : Sy.Mdl) (w : List Int) (hS : m.2.1.length < 1000) : scrutinyref15_In m w = some (inB m.2.1 w) := by
 unfold scrutinyref15_In scrutinyref02_In inB
 by_cases hl : w.length = m.2.1.length
 ·rw [show ((List.length w : Int) != (List.length m.2.1 : Int)) = false by rw [hl]; simp, cond_false, decide_eq_true hl, Bool.true_and]
  have := rin_loop m.2.1 w w [] m.2.1 [] rfl rfl rfl hl.symm (by omega) FUEL (by show w.length < 2 ^ 64; omega)
  rw [show ((([] : List Int).length : Nat) : Int) = 0 from rfl] at this
  rw [this, bind_s]
  cases fits m.2.1 w <;> rfl
 ·rw [show ((List.length w : Int) != (List.length m.2.1 : Int)) = true by simp; omega, cond_true, decide_eq_false hl]
  rfl
/-! what the document's walk needs -/
structure SafeR (S : List (Int × Int)) (C : List Sy.Cmd) : Prop extends SafeS S C where
 rguard : ∀ c ∈ C, mayE (S.length : Int) c.2.1 = true ∧ (rt c.2.1).1 = 2
 rsets : ∀ c ∈ C, ∀ s ∈ c.2.2, mayE (S.length : Int) s.2 = true ∧ (rt s.2).1 = 1
theorem Wf_safe {m : Sy.Mdl} (h : Sy.Wf m) : SafeR m.2.1 m.2.2.2.2 := by
 have hs := h.schema
 have h1 := h.some_
 have h2 := h.names
 have h3 := h.cmds
 refine { pos := by omega, few := by omega, field := h.fields, cmds := by omega, guard := fun c hc => ?_, sets := fun c hc => ⟨(h.cmd c hc).len, fun s hs2 => ?_⟩, rguard := fun c hc => ?_, rsets := fun c hc s hs2 => ?_ }
 ·have := (h.cmd c hc).sz; omega
 ·have k := (h.cmd c hc).sets s hs2
  have := k.var; have := k.sz
  refine ⟨by omega, by omega, by omega⟩
 ·have k := h.cmd c hc
  rw [hs]
  exact ⟨k.may, k.typ.2⟩
 ·have k := (h.cmd c hc).sets s hs2
  rw [hs]
  exact ⟨k.may, k.typ.2⟩
theorem fits_of : ∀ {S : List (Int × Int)} {v : List Int}, (∀ (i : Nat) (f : Int × Int) (n : Int), S[i]? = some f → v[i]? = some n → f.1 ≤ n ∧ n ≤ f.2) → fits S v = true
 | [], [], _ => rfl
 | [], _ :: _, _ => rfl
 | _ :: _, [], _ => rfl
 | s :: S, x :: v, h => by
  have h0 := h 0 s x rfl rfl
  simp only [fits, Bool.and_eq_true, decide_eq_true_eq]
  exact ⟨h0, fits_of fun i f n h1 h2 => h (i + 1) f n (by simpa using h1) (by simpa using h2)⟩
theorem Wf_init {m : Sy.Mdl} (h : Sy.Wf m) : InS m.2.1 m.2.2.1 := ⟨by rw [h.init, h.schema], fits_of h.first⟩
/-! a fired command, as the document says it -/
/-! what is reached, as the document says it -/
/-! the system of a text -/
theorem Of_cases (text : Str) : ∃ q, scrutinyref15_Of text = some q ∧ (q.2 = true → Sy.Wf q.1) := by
 unfold scrutinyref15_Of
 by_cases h : (600 : Int) < (text.length : Int)
 ·rw [decide_eq_true h, cond_true]
  exact ⟨_, rfl, fun h => by cases h⟩
 ·rw [decide_eq_false h, cond_false, Sy.Parse_eq, bind_s]
  refine ⟨_, rfl, fun h => ?_⟩
  cases hs : Sy.sysT text with
  | ok m =>
   exact Sy.sysT_good hs
  | error e =>
   rw [hs] at h
   exact absurd (by simpa [Sy.outS] using h) (Sy.sysT_err hs)
end Sp
end Go.Proofs.YtjdabjpjafkogaaDoor
namespace Go.Proofs.YtjdabjpjafkogaaDoor
namespace Sp
def textA : Str := [118, 97, 114, 32, 120, 32, 48, 32, 50, 32, 48, 59, 32, 112, 114, 111, 99, 32, 80, 32, 123, 32, 120, 32, 60, 32, 50, 32, 58, 32, 120, 32, 61, 32, 120, 32, 43, 32, 49, 59, 32, 125]
def textB : Str := [118, 97, 114, 32, 120, 32, 48, 32, 50, 32, 48, 59, 32, 112, 114, 111, 99, 32, 80, 32, 123, 32, 116, 114, 117, 101, 32, 58, 32, 120, 32, 61, 32, 120, 32, 43, 32, 49, 59, 32, 125]
def SA : List (Int × Int) := [(0, 2)]
def gA : Ex := .mk 9 0 24 [.mk 2 0 22 [], .mk 1 2 26 []]
def gB : Ex := .mk 13 0 22 []
def xA (a : Int) : Ex := .mk 3 0 a [.mk 2 0 (a - 2) [], .mk 1 1 (a + 2) []]
def mA : Sy.Mdl := ([[120]], SA, [0], [[80]], [(0, gA, [(0, xA 36)])])
def mB : Sy.Mdl := ([[120]], SA, [0], [[80]], [(0, gB, [(0, xA 35)])])
theorem of_A : scrutinyref15_Of textA = some (mA, true) := by kernel_rfl
theorem of_B : scrutinyref15_Of textB = some (mB, true) := by kernel_rfl
theorem wf_A : Sy.Wf mA := by
 obtain ⟨q, h1, h2⟩ := Of_cases textA
 rw [of_A] at h1
 cases h1
 exact h2 rfl
theorem wf_B : Sy.Wf mB := by
 obtain ⟨q, h1, h2⟩ := Of_cases textB
 rw [of_B] at h1
 cases h1
 exact h2 rfl
theorem in_2 : InS SA [2] := ⟨rfl, rfl⟩
theorem shown_true : scrutinylaw15_shown = some true := by
 have sA := Wf_safe wf_A
 have sB := Wf_safe wf_B
 have eA : scrutinyref15_Of [118, 97, 114, 32, 120, 32, 48, 32, 50, 32, 48, 59, 32, 112, 114, 111, 99, 32, 80, 32, 123, 32, 120, 32, 60, 32, 50, 32, 58, 32, 120, 32, 61, 32, 120, 32, 43, 32, 49, 59, 32, 125] = some (mA, true) := of_A
 have eB : scrutinyref15_Of [118, 97, 114, 32, 120, 32, 48, 32, 50, 32, 48, 59, 32, 112, 114, 111, 99, 32, 80, 32, 123, 32, 116, 114, 117, 101, 32, 58, 32, 120, 32, 61, 32, 120, 32, 43, 32, 49, 59, 32, 125] = some (mB, true) := of_B
 have r1 : step_Reach mA 9 = some ([[0], [1], [2]], 0, []) := by
  rw [Reach_eq sA.toSafeS (Wf_init wf_A) 9 (by decide)]; kernel_rfl
 have r2 : step_Reach mA 2 = some ([], 7, []) := by
  rw [Reach_eq sA.toSafeS (Wf_init wf_A) 2 (by decide)]; kernel_rfl
 have r3 : step_Reach mB 9 = some ([], 6, [2]) := by
  rw [Reach_eq sB.toSafeS (Wf_init wf_B) 9 (by decide)]; kernel_rfl
 have n1 : step_Next mA [2] = some ([[2]], 0) := by
  rw [Next_eq (m := mA) (v := [2]) sA.toSafeS in_2]; kernel_rfl
 have f1 : step_Fire mA [2] 0 = some ([], 6) := by
  rw [Fire_eq (m := mA) (v := [2]) sA.toSafeS rfl 0]; kernel_rfl
 have f2 : step_Fire mA [2] 1 = some ([], 10) := by
  rw [Fire_eq (m := mA) (v := [2]) sA.toSafeS rfl 1]; kernel_rfl
 have en1 : step_Enabled mA [1] = some [0] := by
  rw [En_eq (m := mA) (v := [1]) sA.toSafeS]; kernel_rfl
 have en2 : step_Enabled mA [2] = some [] := by
  rw [En_eq (m := mA) (v := [2]) sA.toSafeS]; kernel_rfl
 unfold scrutinylaw15_shown
 rw [eA, bind_s, r1, bind_s, n1, bind_s, f1, bind_s, f2, bind_s, r2, bind_s, eB, bind_s, r3, bind_s, en1, en2]
 show _ = _
 kernel_rfl
theorem Of_in {text : Str} : ∃ q, scrutinyref15_Of text = some q ∧ (q.2 = true → Sy.Wf q.1) := Of_cases text
theorem enI_ints (v : List Int) (C : List Sy.Cmd) (h : C.length ≤ 300) : (enI v 0 C).length < 1000000000 := by
 rw [enI_len]
 have := List.length_filter_le (fun c : Sy.Cmd => decide (ev v c.2.1 = 1)) C
 unfold enC; omega
/-! what is reached, and how -/
end Sp
end Go.Proofs.YtjdabjpjafkogaaDoor
namespace Go.Proofs.YtjdabjpjafkogaaDoor
namespace Sp
structure Mk (S : List (Int × Int)) (C : List Sy.Cmd) (L : List (List Int)) (marks : List Bool) (i : Nat) : Prop where
 len : marks.length = L.length
 mark : ∀ (j : Nat) (w : List Int) (i' : Nat) (v : List Int), i' < i → i' < j → L[i']? = some v → L[j]? = some w → w ∈ (nextP S C v).1 → marks[j]? = some true
theorem nextP_pos {S : List (Int × Int)} {C : List Sy.Cmd} {v : List Int} (h : (nextP S C v).2 = 0) : (nextP S C v).1 ≠ [] := by
 unfold nextP nextW at h ⊢
 split
 ·simp
 ·rename_i hg
  rw [if_neg hg] at h
  cases ha : (goes v C).all (fits S)
  ·rw [ha] at h; cases h
  ·intro e
   simp only [cond_true] at e
   cases hgo : goes v C with
   | nil => exact hg hgo
   | cons x r =>
    have : x ∈ dedU [] (x :: r) := dedU_mem.2 (.inr (by simp))
    rw [← hgo, e] at this
    cases this
end Sp
end Go.Proofs.YtjdabjpjafkogaaDoor
namespace Go.Proofs.YtjdabjpjafkogaaDoor
namespace Sp
theorem enI_ge {v : List Int} {i : Int} {r : List Sy.Cmd} {k : Nat} (h : i ∈ enI v k r) : (k : Int) ≤ i := by
 obtain ⟨j, _, h1, _⟩ := enI_mem h
 omega
theorem enI_rise (v : List Int) : ∀ (r : List Sy.Cmd) (k : Nat), (enI v k r).Pairwise (fun a b => a < b)
 | [], k => .nil
 | c :: r, k => by
  unfold enI
  split
  ·refine .cons (fun b hb => ?_) (enI_rise v r (k + 1))
   have := enI_ge hb
   omega
  ·exact enI_rise v r (k + 1)
def lastS (v : List Int) (k : Int) (sr : List (Int × Ex)) (x : Int) : Int := sr.foldl (fun a s => if s.1 = k then ev v s.2 else a) x
theorem last_at (v : List Int) (k : Nat) : ∀ (sr : List (Int × Ex)) (w : List Int) (x : Int), (∀ s ∈ sr, 0 ≤ s.1 ∧ s.1 < w.length) → w[k]? = some x → (sr.foldl (setV v) w)[k]? = some (lastS v (k : Int) sr x)
 | [], w, x, _, h => h
 | s :: sr, w, x, hs, h => by
  obtain ⟨h0, h1⟩ := hs s (by simp)
  rw [List.foldl_cons]
  unfold lastS
  rw [List.foldl_cons]
  refine last_at v k sr (setV v w s) _ (fun t ht => by rw [setV_len]; exact hs t (List.mem_cons_of_mem _ ht)) ?_
  unfold setV
  have hk := (List.getElem?_eq_some_iff.1 h).1
  by_cases e : s.1 = (k : Int)
  ·rw [if_pos e, e, show (((k : Nat) : Int)).toNat = k from rfl, List.getElem?_set_self hk]
  ·rw [if_neg e, List.getElem?_set_ne (by omega)]
   exact h
theorem fires_L3 {q : Sy.Mdl × Bool} (hw : Sy.Wf q.1) (v : List Int) (E : List Int) (hE : E.length ≤ 300) (i : Nat) (c : Sy.Cmd) (n : Int) (hi : idx E (i : Int) = some n) (hc : idx q.1.2.2.2.2 n = some c) (hcm : c ∈ q.1.2.2.2.2) (r99 : List Int × Int) (k : Nat) (hk : k < 1000)
  (again : Int → Option Bool) : ∀ (sr pre : List (Int × Ex)), c.2.2 = pre ++ sr → ∀ (want : Int) (M : Nat), r99.1[k]? = some (lastS v (k : Int) sr want) → sr.length < M →
   fixN (scrutinylaw15_StepFires_L3 v q E (i : Int) r99 (k : Int) again) M (want, (pre.length : Int)) = again ((k + 1 : Nat) : Int)
 | [], pre, h, want, M, hl, hM => by
  obtain ⟨m, rfl⟩ : ∃ m, M = m + 1 := ⟨M - 1, by simp at hM; omega⟩
  rw [fixN_succ]
  have e : idx r99.1 (k : Int) = some want := by
   unfold idx
   rw [if_pos (by omega)]
   exact hl
  simp only [scrutinylaw15_StepFires_L3, hi, hc, bind_s, Sy.len_f h, cond_false, e, Pa.wrap1 (show k < 4611686018427387904 by omega)]
  rw [show (want != want) = false by simp, cond_false]
 | s :: sr, pre, h, want, M, hl, hM => by
  obtain ⟨m, rfl⟩ : ∃ m, M = m + 1 := ⟨M - 1, by omega⟩
  rw [fixN_succ]
  have hm := Wf_safe hw
  have hs : s ∈ c.2.2 := by rw [h]; simp
  have h6 := (hm.sets c hcm).1
  obtain ⟨_, _, h2⟩ := (hm.sets c hcm).2 s hs
  obtain ⟨h4, h5⟩ := hm.rsets c hcm s hs
  have hlen : pre.length + sr.length + 1 = c.2.2.length := by rw [h]; simp; omega
  have ih := fun want hl => fires_L3 hw v E hE i c n hi hc hcm r99 k hk again sr (pre ++ [s]) (by rw [h]; simp) want m hl (by simp at hM; omega)
  rw [show ((pre ++ [s]).length : Int) = ((pre.length + 1 : Nat) : Int) by simp] at ih
  simp only [scrutinylaw15_StepFires_L3, hi, hc, bind_s, Sy.len_t h, cond_true, Sy.mid h, Pa.wrap1 (show pre.length < 4611686018427387904 by omega)]
  unfold lastS at hl
  rw [List.foldl_cons] at hl
  by_cases e : s.1 = (k : Int)
  ·rw [if_pos e] at hl
   rw [show (s.1 == (k : Int)) = true by simpa using e, cond_true, REval_eq v s.2 (by omega) h4 (.inl h5), bind_s]
   exact ih _ hl
  ·rw [if_neg e] at hl
   rw [show (s.1 == (k : Int)) = false by simpa using e, cond_false]
   exact ih _ hl
theorem fires_L2 {q : Sy.Mdl × Bool} (hw : Sy.Wf q.1) (v : List Int) (hv : v.length = q.1.2.1.length) (E : List Int) (hE : E.length ≤ 300) (i : Nat) (hie : i < 1000) (c : Sy.Cmd) (n : Int) (hi : idx E (i : Int) = some n) (hc : idx q.1.2.2.2.2 n = some c) (hcm : c ∈ q.1.2.2.2.2) (bounds : Bool) (again : Bool × Int → Option Bool) (z : Int) :
  ∀ (r pre : List Int), v = pre ++ r → ∀ M, r.length < M → fixN (scrutinylaw15_StepFires_L2 v q E bounds (i : Int) again (fireW v c, z)) M (pre.length : Int) = again (bounds, ((i + 1 : Nat) : Int))
 | [], pre, h, M, hM => by
  obtain ⟨m, rfl⟩ : ∃ m, M = m + 1 := ⟨M - 1, by simp at hM; omega⟩
  rw [fixN_succ]
  simp only [scrutinylaw15_StepFires_L2, Sy.len_f h, cond_false, Pa.wrap1 (show i < 4611686018427387904 by omega)]
 | x :: r, pre, h, M, hM => by
  obtain ⟨m, rfl⟩ : ∃ m, M = m + 1 := ⟨M - 1, by omega⟩
  rw [fixN_succ]
  have hm := Wf_safe hw
  have hf := hm.few
  have hlen : pre.length + r.length + 1 = v.length := by rw [h]; simp; omega
  have hs := (hm.sets c hcm).1
  have ih := fires_L2 hw v hv E hE i hie c n hi hc hcm bounds again z r (pre ++ [x]) (by rw [h]; simp) m (by simp at hM; omega)
  rw [show ((pre ++ [x]).length : Int) = ((pre.length + 1 : Nat) : Int) by simp] at ih
  have hl := last_at v pre.length c.2.2 v x (fun s hs => by have := (hm.sets c hcm).2 s hs; rw [hv]; exact ⟨this.1, this.2.1⟩) (by rw [h]; simp)
  have h3 := fires_L3 hw v E hE i c n hi hc hcm (fireW v c, z) pre.length (by omega) (fixN (scrutinylaw15_StepFires_L2 v q E bounds (i : Int) again (fireW v c, z)) m) c.2.2 [] rfl x FUEL hl (Nat.lt_of_le_of_lt hs (by decide))
  rw [show ((([] : List (Int × Ex)).length : Nat) : Int) = 0 from rfl] at h3
  simp only [scrutinylaw15_StepFires_L2, Sy.len_t h, cond_true, Sy.mid h, bind_s]
  rw [h3]
  exact ih
theorem nextP_all {S : List (Int × Int)} {C : List Sy.Cmd} {v : List Int} (h : (nextP S C v).2 = 0) : goes v C = [] ∨ (goes v C ≠ [] ∧ (goes v C).all (fits S) = true ∧ (nextP S C v).1 = dedU [] (goes v C)) := by
 unfold nextP nextW at h ⊢
 by_cases hg : goes v C = []
 ·exact .inl hg
 ·rw [if_neg hg] at h ⊢
  cases ha : (goes v C).all (fits S)
  ·rw [ha] at h; cases h
  ·exact .inr ⟨hg, rfl, rfl⟩
theorem fires_loop {q : Sy.Mdl × Bool} (hw : Sy.Wf q.1) (v : List Int) (hin : InS q.1.2.1 v) : ∀ (r pre : List Int), enI v 0 q.1.2.2.2.2 = pre ++ r → ∀ M, r.length < M →
  fixN (scrutinylaw15_StepFires_L1 v true q (nextP q.1.2.1 q.1.2.2.2.2 v) (enI v 0 q.1.2.2.2.2)) M (!((pre.map (fireAt q.1.2.2.2.2 v)).all (fits q.1.2.1)), (pre.length : Int)) = some true
 | [], pre, h, M, hM => by
  obtain ⟨m, rfl⟩ : ∃ m, M = m + 1 := ⟨M - 1, by simp at hM; omega⟩
  rw [fixN_succ]
  have hm := Wf_safe hw
  have hsh := hin.short hm.toSafeS
  have hgl : (goes v q.1.2.2.2.2).length = (enI v 0 q.1.2.2.2.2).length := by unfold goes; rw [List.length_map, enI_len]
  have hmap : pre.map (fireAt q.1.2.2.2.2 v) = goes v q.1.2.2.2.2 := by
   rw [← enI_map v q.1.2.2.2.2 q.1.2.2.2.2 [] rfl, show ([] : List Sy.Cmd).length = 0 from rfl, h, List.append_nil]
  simp only [scrutinylaw15_StepFires_L1, Sy.len_f h, cond_false]
  rw [hmap]
  by_cases hg : goes v q.1.2.2.2.2 = []
  ·have h0 : (enI v 0 q.1.2.2.2.2).length = 0 := by rw [← hgl, hg]; rfl
   have hn : nextP q.1.2.1 q.1.2.2.2.2 v = ([v], 0) := by unfold nextP nextW; rw [if_pos hg]
   have hV := Vecs_eq [v] [v] (by simp) (fun w hw => by rw [List.mem_singleton.1 hw]; exact hsh)
   rw [beq_self_eq_true] at hV
   rw [hg, hn, h0, hV]
   rfl
  ·cases ha : (goes v q.1.2.2.2.2).all (fits q.1.2.1)
   ·have hn : nextP q.1.2.1 q.1.2.2.2.2 v = ([], 6) := by unfold nextP nextW; rw [if_neg hg, ha]; rfl
    rw [hn]
    rfl
   ·have hn : nextP q.1.2.1 q.1.2.2.2.2 v = (dedU [] (goes v q.1.2.2.2.2), 0) := by unfold nextP nextW; rw [if_neg hg, ha]; rfl
    have hl := dedU_len (goes v q.1.2.2.2.2) []
    have hpos : 1 ≤ (goes v q.1.2.2.2.2).length := by
     cases hgo : goes v q.1.2.2.2.2 with
     | nil => exact absurd hgo hg
     | cons x r => simp
    have hne := nextP_pos (S := q.1.2.1) (C := q.1.2.2.2.2) (v := v) (by rw [hn])
    rw [hn] at hne ⊢
    have hpos2 : 1 ≤ (dedU [] (goes v q.1.2.2.2.2)).length := by
     cases hd : dedU [] (goes v q.1.2.2.2.2) with
     | nil => exact absurd hd hne
     | cons x r => simp
    simp only [List.length_nil] at hl
    simp only [Bool.not_true, cond_false, letv_e]
    rw [decide_eq_true (show (0 : Int) < (List.length (enI v 0 q.1.2.2.2.2) : Int) by omega), decide_eq_true (show (List.length (dedU [] (goes v q.1.2.2.2.2)) : Int) ≤ (List.length (enI v 0 q.1.2.2.2.2) : Int) by omega), decide_eq_true (show (1 : Int) ≤ (List.length (dedU [] (goes v q.1.2.2.2.2)) : Int) by omega)]
    rfl
 | n :: r, pre, h, M, hM => by
  obtain ⟨m, rfl⟩ : ∃ m, M = m + 1 := ⟨M - 1, by omega⟩
  rw [fixN_succ]
  have hm := Wf_safe hw
  have hf := hm.few
  have hcl := hm.cmds
  have hsh := hin.short hm.toSafeS
  have hE : (enI v 0 q.1.2.2.2.2).length ≤ 300 := by
   have h1 : (goes v q.1.2.2.2.2).length = (enI v 0 q.1.2.2.2.2).length := by unfold goes; rw [List.length_map, enI_len]
   have := goes_few v q.1.2.2.2.2
   omega
  have hlen : pre.length + r.length + 1 = (enI v 0 q.1.2.2.2.2).length := by rw [h]; simp; omega
  have hnm : n ∈ enI v 0 q.1.2.2.2.2 := by rw [h]; simp
  obtain ⟨hn0, hn1⟩ := enI_in hnm
  obtain ⟨j, c, hj, hc2, hg⟩ := enI_mem hnm
  have hc : idx q.1.2.2.2.2 n = some c := by
   unfold idx
   rw [if_pos hn0, hj, show (((0 + j : Nat) : Int)).toNat = j by omega]
   exact hc2
  have hcm := List.mem_of_getElem? hc2
  obtain ⟨g4, g5⟩ := hm.rguard c hcm
  have hgs := hm.guard c hcm
  have hfa : fireAt q.1.2.2.2.2 v n = fireW v c := by
   unfold fireAt
   rw [hj, show (((0 + j : Nat) : Int)).toNat = j by omega, hc2]
  have ih := fires_loop hw v hin r (pre ++ [n]) (by rw [h]; simp) m (by simp at hM; omega)
  rw [show ((pre ++ [n]).length : Int) = ((pre.length + 1 : Nat) : Int) by simp, List.map_append, List.all_append, List.map_cons, List.map_nil, List.all_cons, List.all_nil, Bool.and_true, hfa] at ih
  have hwr : IntKind.i64.wrap (((pre.length : Nat) : Int) - 1) = ((pre.length : Nat) : Int) - 1 := w64 (by omega)
  have hb : (decide (0 < ((pre.length : Nat) : Int)) = false) ∨ (decide (0 < ((pre.length : Nat) : Int)) = true ∧ ∃ p, idx (enI v 0 q.1.2.2.2.2) (((pre.length : Nat) : Int) - 1) = some p ∧ p < n) := by
   by_cases h0 : pre.length = 0
   ·exact .inl (decide_eq_false (by omega))
   ·refine .inr ⟨decide_eq_true (by omega), ?_⟩
    obtain ⟨p, hp, hp2⟩ := idx_in (enI v 0 q.1.2.2.2.2) (((pre.length : Nat) : Int) - 1) (by omega) (by omega)
    refine ⟨p, hp, ?_⟩
    have hp3 : p ∈ pre := by
     rw [h, List.getElem?_append_left (by omega)] at hp2
     exact List.mem_of_getElem? hp2
    have hr := enI_rise v q.1.2.2.2.2 0
    rw [h, List.pairwise_append] at hr
    exact hr.2.2 p hp3 n (by simp)
  simp only [scrutinylaw15_StepFires_L1, Sy.len_t h, cond_true, Sy.mid h, bind_s, hwr, letv_e]
  have e1 : decide (n < 0) = false := decide_eq_false (by omega)
  have e2 : decide ((List.length q.1.2.2.2.2 : Int) ≤ n) = false := decide_eq_false (by omega)
  rw [e1]
  simp only [callG_v, Bool.not_false, cond_true, e2, Bool.false_or, Bool.true_and]
  rcases hb with h0 | ⟨h0, p, hp, hlt⟩
  case' inl => rw [h0, callG_ff]; simp only [Bool.false_and]
  case' inr => rw [h0, callG_tt, hp, bind_s]; simp only [cond_true, Bool.true_and, decide_eq_false (show ¬ n ≤ p by omega)]
  all_goals
   simp only [Bool.not_false, callG_v, cond_true, hc]
   rw [REval_eq v c.2.1 (by omega) g4 (.inr g5), callG_v, cond_true, hg, show ((1 : Int) != 1) = false from rfl, Bool.false_or, cond_false]
   rw [Fire_eq hm.toSafeS hin.len n, bind_s]
   unfold fireK
   rw [if_neg (by omega), hfa]
   unfold fin
   cases hfit : fits q.1.2.1 (fireW v c)
   ·rw [hfit, Bool.and_false, Bool.not_false] at ih
    simp only [cond_false]
    rw [show ((6 : Int) != 0) = true from rfl, cond_true, Pa.wrap1 (show pre.length < 4611686018427387904 by omega)]
    exact ih
   ·rw [hfit, Bool.and_true] at ih
    simp only [cond_true]
    rw [show ((0 : Int) != 0) = false from rfl, cond_false, show ((List.length (fireW v c) : Int) != (List.length v : Int)) = false by rw [fireW_len]; simp, Bool.not_false, Bool.true_and]
    have hfew := nextP_few (S := q.1.2.1) (cmds := q.1.2.2.2.2) v
    rw [Place_eq _ (fireW v c) (by omega) (fun u hu => (nextP_in hin u hu).short hm.toSafeS), callG_v, Bool.false_or]
    have hb3 : ((nextP q.1.2.1 q.1.2.2.2.2 v).2 == 0 && decide ((bif (nextP q.1.2.1 q.1.2.2.2.2 v).2 == 0 then plc (fireW v c) 0 (nextP q.1.2.1 q.1.2.2.2.2 v).1 else default) < 0)) = false := by
     cases h0 : ((nextP q.1.2.1 q.1.2.2.2.2 v).2 == 0)
     ·rfl
     ·have hmemg : fireW v c ∈ goes v q.1.2.2.2.2 := by
       unfold goes enC
       exact List.mem_map.2 ⟨c, List.mem_filter.2 ⟨hcm, by simpa using hg⟩, rfl⟩
      have hmemn : fireW v c ∈ (nextP q.1.2.1 q.1.2.2.2.2 v).1 := by
       rcases nextP_all (S := q.1.2.1) (C := q.1.2.2.2.2) (v := v) (by simpa using h0) with h1 | ⟨_, _, h3⟩
       ·rw [h1] at hmemg; cases hmemg
       ·rw [h3]; exact dedU_mem.2 (.inr hmemg)
      rw [Bool.true_and, cond_true]
      exact decide_eq_false (fun hlt => plc_neg.1 hlt hmemn)
    rw [hb3, cond_false]
    have := fires_L2 hw v hin.len (enI v 0 q.1.2.2.2.2) hE pre.length (by omega) c n (Sy.mid h) hc hcm (!((pre.map (fireAt q.1.2.2.2.2 v)).all (fits q.1.2.1))) (fixN (scrutinylaw15_StepFires_L1 v true q (nextP q.1.2.1 q.1.2.2.2.2 v) (enI v 0 q.1.2.2.2.2)) m) 0 v [] rfl FUEL (Nat.lt_trans hsh (by decide))
    rw [show ((([] : List Int).length : Nat) : Int) = 0 from rfl] at this
    rw [this]
    exact ih
theorem stepFires_true (text : Str) (v : List Int) : scrutinylaw15_StepFires text v = some true := by
 unfold scrutinylaw15_StepFires
 obtain ⟨q, hq, hw⟩ := Of_in (text := text)
 rw [shown_true, bind_s, hq, bind_s]
 cases h2 : q.2
 ·rfl
 ·have hm := Wf_safe (hw h2)
  have hf := hm.few
  have hc := hm.cmds
  simp only [letv_e, Bool.not_true, Bool.not_false, Bool.false_or]
  rw [RIn_eq q.1 v (by omega), callG_v, cond_true]
  cases hb : inB q.1.2.1 v
  ·rfl
  ·have hin := inB_iff.1 hb
   simp only [Bool.not_true, cond_false]
   rw [Next_eq hm.toSafeS hin, bind_s, En_eq hm.toSafeS, bind_s]
   have := fires_loop (hw h2) v hin (enI v 0 q.1.2.2.2.2) [] rfl FUEL (Nat.lt_trans (enI_ints v _ hc) (by decide))
   exact this
end Sp
end Go.Proofs.YtjdabjpjafkogaaDoor
namespace Go.Proofs.YtjdabjpjafkogaaDoor
namespace Sp
theorem SafeS.sub {S : List (Int × Int)} {C D : List Sy.Cmd} (h : SafeS S C) (hl : D.length ≤ 300) (hs : ∀ c ∈ D, c ∈ C) : SafeS S D :=
 ⟨h.pos, h.few, h.field, hl, fun c hc => h.guard c (hs c hc), fun c hc => h.sets c (hs c hc)⟩
/-! stays -/
def off (c : Sy.Cmd) : Sy.Cmd := (c.1, .mk 16 0 0 [c.2.1, .mk 14 0 0 []], c.2.2)
/-! joins -/
end Sp
end Go.Proofs.YtjdabjpjafkogaaDoor
namespace Go.Proofs.YtjdabjpjafkogaaDoor
namespace Sp
theorem stepFires_t (text : Str) (v : List Int) (_ : text.length ≤ 9223372036854775807) : scrutinylaw15_StepFires text v = some true := stepFires_true text v
end Sp
end Go.Proofs.YtjdabjpjafkogaaDoor
namespace Go.Proofs.YtjdabjpjafkogaaDoor
open Go.Lib Go.ChangeAt Go.ChangeShapes Go.WideShapes Go.RowKit
theorem laid_at {P : Program} {w : World} : ∀ (l : List (String × DataW Unit)) (ps : List MemPlace), DataW.LaidVars P w l ps → ∀ (i : Nat) (n : String) (d : DataW Unit), l[i]? = some (n, d) →
  ∃ g t cs fuel p, P.globalNamed n = some g ∧ (P.globals[g]?).map (·.type) = some t ∧ w.var? P n = some cs ∧ DataW.trod (fun _ => ()) P w 0 (fun _ => true) false fuel t cs.toList = some (d, p)
 | [], _, _, i, n, d, h => by simp at h
 | (n0, d0) :: l, ps, h, i, n, d, hi => by
  obtain ⟨g, t, cs, fuel, p, q, h1, h2, h3, h4, h5, _⟩ := h
  cases i with
  | zero =>
   simp only [List.getElem?_cons_zero, Option.some.injEq, Prod.mk.injEq] at hi
   obtain ⟨rfl, rfl⟩ := hi
   exact ⟨g, t, cs, fuel, p, h1, h2, h3, h4⟩
  | succ i => exact laid_at l q h5 i n d (by simpa using hi)
theorem cells_of_strs {H : Type} {enc : TypeId × Value → H} {P : Program} {w : World} {base : Nat} {sp : Nat → Bool} {held : Bool} {fuel : Nat} {t e : TypeId} {n : Nat} {cs : List Value} {zs : List Str} {p : List MemPlace}
  (ht : P.underlying t = some (.array n e)) (he : P.underlying e = some .string) (hce : P.cellsOf e = 1) (hct : P.cellsOf t = n)
  (h : DataW.trod enc P w base sp held fuel t cs = some (.agg (zs.map fun z => .lit (.string z)), p)) : cs = zs.map S := by
 cases fuel with
 | zero => simp [DataW.trod] at h
 | succ fuel =>
  simp only [DataW.trod, ht, hce, hct, Nat.mul_one] at h
  split at h
  ·rename_i hl
   obtain ⟨xs, hm, hx⟩ := Option.map_eq_some_iff.1 h
   have hxs : xs.map (·.1) = zs.map fun z => (DataW.lit (.string z) : DataW H) := by
    have := congrArg Prod.fst hx
    simpa using this
   have hxl : xs.length = n := by simpa using mapM_length hm
   have hzl : zs.length = n := by
    have := congrArg List.length hxs
    simp at this
    omega
   apply List.ext_getElem?
   intro i
   by_cases hi : i < n
   ·obtain ⟨b, hb, hf⟩ := mapM_at hm i i (by simp [hi])
    obtain ⟨z, hc, rfl, _⟩ := DataW.trod_string he hf
    have h1 : cs[i]? = some (.string z) := by
     have := congrArg (·[0]?) hc
     simpa [List.getElem?_take, List.getElem?_drop] using this
    have h2 : (xs.map (·.1))[i]? = some (DataW.lit (.string z.data.toList) : DataW H) := by simp [hb]
    rw [hxs] at h2
    simp only [List.getElem?_map, Option.map_eq_some_iff, DataW.lit.injEq, Lit.string.injEq] at h2
    obtain ⟨z', hz', hz2⟩ := h2
    subst hz2
    simp [h1, hz', S]
   ·rw [List.getElem?_eq_none (by omega), List.getElem?_eq_none (by simp; omega)]
  ·cases h
theorem laidMet_of {P : Program} {laid : List (String × DataW Unit)} {w : World} (hf : (laid.filter fun x => x.2.handleName?.isSome) = []) (h : laidMetH P laid w) : laidMet P laid w := by
 unfold laidMetH at h
 rw [hf] at h
 exact h
theorem gl_strs {P : Program} {laid : List (String × DataW Unit)} {w : World} {Γ : Ctx} (h : laidMet P laid w) (i : Nat) {n : String} {zs : List Str} {g : Nat} {t e : TypeId} {k : Nat}
  (hi : laid[i]? = some (n, .agg (zs.map fun z => .lit (.string z)))) (hg : P.globalNamed n = some g) (hty : (P.globals[g]?).map (·.type) = some t)
  (ht : P.underlying t = some (.array k e)) (he : P.underlying e = some .string) (hce : P.cellsOf e = 1) (hct : P.cellsOf t = k) (hM : ¬ Γ.M g) : (gl g (zs.map S)).P Γ.M w := by
 obtain ⟨ps, hl, _⟩ := h
 obtain ⟨g', t', cs, fuel, p, hg', ht', hv, hd⟩ := laid_at _ _ hl i n _ hi
 obtain rfl := Option.some.inj (hg.symm.trans hg')
 obtain rfl := Option.some.inj (hty.symm.trans ht')
 have e1 := cells_of_strs ht he hce hct hd
 refine ⟨hM, ?_⟩
 unfold World.var? at hv
 rw [hg] at hv
 simp only [Option.bind_some] at hv
 split at hv
 ·rename_i c ty fr hb
  obtain rfl := Option.some.inj hv
  exact ⟨ty, fr, by rw [hb, ← e1]⟩
 ·cases hv
theorem gl_ints {P : Program} {laid : List (String × DataW Unit)} {w : World} {Γ : Ctx} (h : laidMet P laid w) (i : Nat) {n : String} {kd : IntKind} {zs : List Int} {g : Nat} {t e : TypeId} {k : Nat}
  (hi : laid[i]? = some (n, tabData kd zs)) (hg : P.globalNamed n = some g) (hty : (P.globals[g]?).map (·.type) = some t)
  (ht : P.underlying t = some (.array k e)) (he : P.underlying e = some (.int kd)) (hce : P.cellsOf e = 1) (hct : P.cellsOf t = k) (hM : ¬ Γ.M g) : (gl g (zs.map (Value.int kd))).P Γ.M w := by
 obtain ⟨ps, hl, _⟩ := h
 obtain ⟨g', t', cs, fuel, p, hg', ht', hv, hd⟩ := laid_at _ _ hl i n _ hi
 obtain rfl := Option.some.inj (hg.symm.trans hg')
 obtain rfl := Option.some.inj (hty.symm.trans ht')
 have e1 := cells_of_tab ht he hce hct hd
 refine ⟨hM, ?_⟩
 unfold World.var? at hv
 rw [hg] at hv
 simp only [Option.bind_some] at hv
 split at hv
 ·rename_i c ty fr hb
  obtain rfl := Option.some.inj hv
  exact ⟨ty, fr, by rw [hb, ← e1]⟩
 ·cases hv
/-! the row at the start: nothing is owned -/
def NoM (Γ : Ctx) : Prop := ∀ b, ¬ Γ.M b
theorem noM_nil : NoM [] := fun b h => by obtain ⟨it, h, _⟩ := h; cases h
theorem noM_cons {it : Item} {Γ : Ctx} (hp : it.own = []) (h : NoM Γ) : NoM (it :: Γ) := fun b hb => by
 rcases Ctx.M_cons.1 hb with h1 | h1
 ·rw [hp] at h1; cases h1
 ·exact h b h1
theorem sat_start (w : World) : Sat [kept w (fun _ => False)] w := Sat.nil.add rfl ⟨SameEnv.refl w, Nat.le_refl _, fun b _ _ => ⟨noM_nil b, rfl⟩⟩
theorem noM_start (w : World) : NoM [kept w (fun _ => False)] := noM_cons rfl noM_nil
theorem mv_start {w : World} {Γ : Ctx} (h : NoM Γ) : Mv (fun _ => False) w Γ.M w := ⟨Nat.le_refl _, fun b _ _ => ⟨h b, rfl⟩⟩
theorem below_end {w w' : World} {Γ : Ctx} {i : Nat} (h : Sat Γ w') (hi : Γ[i]? = some (kept w (fun _ => False))) : Below w.heap.size w w' := by
 obtain ⟨h1, h2, h3⟩ := h.kept hi
 exact ⟨h1.os, h1.tape, h1.output, h2, fun k hk => (h3 k hk (fun h => h)).2⟩
end Go.Proofs.YtjdabjpjafkogaaDoor
namespace Go.Proofs.YtjdabjpjafkogaaDoor
open Go.Lib Go.ChangeAt Go.ChangeShapes Go.WideShapes Go.RowKit
theorem cell_of {w : World} {a : Addr} {v : Value} (h : w.cell? a = some v) : a.spot = none ∧ ∃ cs e fr, w.heap[a.block]? = some (.cells cs e fr) ∧ cs[a.off]? = some v := by
 unfold World.cell? at h
 split at h
 ·rename_i cs e fr hb
  split at h
  ·cases h
  ·rename_i hs
   exact ⟨by simpa using hs, cs, e, fr, hb, h⟩
 ·cases h
theorem choose_all {Y α : Type} (R : Nat → Y → α → Prop) : ∀ (ys : List Y), (∀ i y, ys[i]? = some y → ∃ e, R i y e) → ∃ l : List α, l.length = ys.length ∧ ∀ i y e, ys[i]? = some y → l[i]? = some e → R i y e
 | [], _ => ⟨[], rfl, fun i y e h => by simp at h⟩
 | y :: ys, h => by
  obtain ⟨e, he⟩ := h 0 y rfl
  obtain ⟨l, hl, hr⟩ := choose_all (fun i => R (i + 1)) ys (fun i y hy => h (i + 1) y (by simpa using hy))
  refine ⟨e :: l, by simp [hl], fun i y' e' hy hx => ?_⟩
  cases i with
  | zero =>
   simp only [List.getElem?_cons_zero, Option.some.injEq] at hy hx
   subst hy; subst hx; exact he
  | succ i => exact hr i y' e' (by simpa using hy) (by simpa using hx)
theorem slice_of_trod {H α : Type} {enc : TypeId × Value → H} {P : Program} {W : World} {t e : TypeId} {A : Rep α} {Q : α → Prop} (ht : P.underlying t = some (.slice e)) (hc : P.cellsOf e = 1) (hA : A.n = 1)
  (he : ∀ (fuel : Nat) (us : List Value) (y : DataW H × List MemPlace), DataW.trod enc P W 0 (fun _ => true) true fuel e us = some y → ∃ z, A.rd (fun _ => False) W us z ∧ Q z)
  (fuel : Nat) (cs : List Value) (x : DataW H × List MemPlace) (h : DataW.trod enc P W 0 (fun _ => true) true fuel t cs = some x) :
  ∃ (u : SLV) (zs : List α), cs = [sl u] ∧ SRd A (fun _ => False) W (sl u) zs ∧ ∀ z ∈ zs, Q z := by
 rcases DataW.trod_slice ht h with ⟨h3, _⟩ | ⟨a, len, cap, elems, rest, m, rfl, h3, _, _, hlc, _, hlen, hel, hsp, _⟩
 ·exact ⟨(none, 0, 0), [], h3, SRd.nil, by simp⟩
 ·obtain ⟨hrl, hre⟩ := hsp rfl
  rw [hc] at hel hre
  have cell : ∀ i, i < cap → ∃ us y, us.length = 1 ∧ W.cell? (a.add i) = us[0]? ∧ DataW.trod enc P W 0 (fun _ => true) true m e us = some y ∧ (i < len → elems[i]? = some y) := fun i hi => by
   by_cases hil : i < len
   ·obtain ⟨y, hy⟩ : ∃ y, elems[i]? = some y := ⟨elems[i]'(by omega), List.getElem?_eq_getElem _⟩
    have := hel i hil
    rw [hy, Option.bind_eq_some_iff, Nat.mul_one] at this
    obtain ⟨us, h1, h2⟩ := this
    obtain ⟨_, h3, h4⟩ := World.cells?_some h1
    have h4 := h4 0 (by omega)
    exact ⟨us, y, h3, by simpa [Addr.add] using h4, h2, fun _ => hy⟩
   ·obtain ⟨y, hy⟩ : ∃ y, rest[i - len]? = some y := ⟨rest[i - len]'(by omega), List.getElem?_eq_getElem _⟩
    have := hre (i - len) (by omega)
    rw [hy, Option.bind_eq_some_iff, Nat.mul_one, show len + (i - len) = i by omega] at this
    obtain ⟨us, h1, h2⟩ := this
    obtain ⟨_, h3, h4⟩ := World.cells?_some h1
    have h4 := h4 0 (by omega)
    exact ⟨us, y, h3, by simpa [Addr.add] using h4, h2, fun h => absurd h hil⟩
  by_cases hcap : cap = 0
  ·subst hcap
   obtain rfl : len = 0 := by omega
   exact ⟨(some a, 0, 0), [], h3, SRd.emp, by simp⟩
  ·obtain ⟨us0, _, hl0, hc0, _⟩ := cell 0 (by omega)
   rw [List.getElem?_eq_getElem (by omega)] at hc0
   obtain ⟨hs, cs', e', fr, hblk, _⟩ := cell_of hc0
   have hs' : a.spot = none := by simpa [Addr.add] using hs
   have hblk' : W.heap[a.block]? = some (.cells cs' e' fr) := by simpa [Addr.add] using hblk
   obtain ⟨b, off, sp⟩ := a
   simp only at hs' hblk'
   subst hs'
   have at_ : ∀ i, (⟨b, off, none⟩ : Addr).add i = ⟨b, off + i, none⟩ := fun i => by
    unfold Addr.add; split <;> simp_all
   have cellx : ∀ i, i < cap → ∃ us y, us.length = 1 ∧ cs'[off + i]? = us[0]? ∧ DataW.trod enc P W 0 (fun _ => true) true m e us = some y ∧ (i < len → elems[i]? = some y) := fun i hi => by
    obtain ⟨us, y, h3, h4, h5, h6⟩ := cell i hi
    refine ⟨us, y, h3, ?_, h5, h6⟩
    rw [at_] at h4
    simpa [World.cell?, hblk'] using h4
   have hsize : off + cap ≤ cs'.size := by
    obtain ⟨us, _, h3, h4, _⟩ := cellx (cap - 1) (by omega)
    rw [List.getElem?_eq_getElem (by omega)] at h4
    have := (Array.getElem?_eq_some_iff.1 h4).1
    omega
   have hel' : ∀ i y, elems[i]? = some y → ∃ z, (A.rd (fun _ => False) W (((cs'.toList.drop off).drop i).take 1) z ∧ Q z) := fun i y hy => by
    have hi : i < len := by rw [← hlen]; exact (List.getElem?_eq_some_iff.1 hy).1
    obtain ⟨us, y', h3, h4, h5, h6⟩ := cellx i (by omega)
    have hus : ((cs'.toList.drop off).drop i).take 1 = us := by
     apply List.ext_getElem?
     intro j
     by_cases hj : j < 1
     ·obtain rfl : j = 0 := by omega
      rw [List.getElem?_take, if_pos hj, List.getElem?_drop, List.getElem?_drop, ← h4]
      simp
     ·rw [List.getElem?_take, if_neg hj, List.getElem?_eq_none (by omega)]
    rw [hus]
    exact he m us y' h5
   obtain ⟨l, hll, hR⟩ := choose_all (fun i y z => A.rd (fun _ => False) W (((cs'.toList.drop off).drop i).take 1) z ∧ Q z) elems hel'
   have hll' : l.length = len := by omega
   have get : ∀ i (hi : i < l.length), A.rd (fun _ => False) W (((cs'.toList.drop off).drop i).take 1) l[i] ∧ Q l[i] := fun i hi => by
    obtain ⟨y, hy⟩ : ∃ y, elems[i]? = some y := ⟨elems[i]'(by omega), List.getElem?_eq_getElem _⟩
    exact hR i y l[i] hy (List.getElem?_eq_getElem _)
   refine ⟨(some ⟨b, off, none⟩, len, cap), l, h3, .inr ⟨b, off, cap, cs', e', fr, by rw [hll']; rfl, (fun h => h), hblk', by omega, by rw [hA]; omega, ?_⟩, fun z hz => ?_⟩
   ·rw [hA, Nat.mul_one]
    refine ⟨?_, fun i hi => ?_⟩
    ·rw [hA]
     simp only [List.length_take, List.length_drop, Array.length_toList]
     omega
    ·rw [hA, Nat.mul_one, List.drop_take, List.take_take, show min 1 (l.length - i) = 1 by omega]
     exact (get i hi).1
   ·obtain ⟨i, hi, rfl⟩ := List.getElem_of_mem hz
    exact (get i hi).2
theorem nums_of_trod {H : Type} {enc : TypeId × Value → H} {P : Program} {W : World} {t e : TypeId} {k : IntKind} (ht : P.underlying t = some (.slice e)) (he : P.underlying e = some (.int k)) (hc : P.cellsOf e = 1)
  (fuel : Nat) (cs : List Value) (x : DataW H × List MemPlace) (h : DataW.trod enc P W 0 (fun _ => true) true fuel t cs = some x) :
  ∃ (u : SLV) (zs : List Int), cs = [sl u] ∧ SRd (RI k) (fun _ => False) W (sl u) zs := by
 obtain ⟨u, zs, h1, h2, _⟩ := slice_of_trod (A := RI k) (Q := fun _ => True) ht hc rfl (fun fuel us y h => by
  obtain ⟨n, h1, _, _⟩ := DataW.trod_int he h
  exact ⟨n, h1, trivial⟩) fuel cs x h
 exact ⟨u, zs, h1, h2⟩
theorem okWide_sl {P : Program} {w : World} {base : Nat} {t e : TypeId} {v : Value} (ht : P.underlying t = some (.slice e)) (h : Value.okWide P w .any base t v) : v.cells.toList = [v] := by
 obtain ⟨a, len, cap, rfl⟩ := okWide_slice ht h
 rfl
end Go.Proofs.YtjdabjpjafkogaaDoor
