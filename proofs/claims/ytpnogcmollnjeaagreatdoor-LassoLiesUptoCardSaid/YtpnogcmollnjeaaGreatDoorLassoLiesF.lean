/-
  Own texts for the statement LassoLies, cut down to what it needs: TrType, TrEval, ExprLex, TrPa, TrSys, TrPb, TrGen, SysT, LsA, TrRKey, TrRRead, TrRLine, TrRType, TrRSys, TrRSys2, TrRSys3. (cut and joined by a program)
-/
import Derived.Test.YtpnogcmollnjeaaGreatDoorLassoLiesA
import Derived.Test.YtpnogcmollnjeaaGreatDoorLassoLiesB
import Derived.Test.YtpnogcmollnjeaaGreatDoorLassoLiesC
import Derived.Test.YtpnogcmollnjeaaGreatDoorLassoLiesD
import Derived.Test.YtpnogcmollnjeaaGreatDoorLassoLiesE
namespace Go.Proofs.YtpnogcmollnjeaaGreatDoor
theorem Az (k : Ex → Option (Int × Int × Int)) (e : Ex) (hk : ∀ x ∈ e.l, k x = some (ty x)) (hl : e.l.length < 4611686018427387904) :
  ∀ (r pre : List Ex), e.l = pre ++ r → ∀ (M : Nat) (i b t : Bool), r.length < M → al (jZ k e) M (i, b, t, (pre.length : Int)) = some (tyA e.op e.at_ r i b t)
 | [], pre, h, M, i, b, t, hM => by
  obtain ⟨m, rfl⟩ : ∃ m, M = m + 1 := ⟨M - 1, by simp at hM; omega⟩
  rw [ao]
  simp only [jZ, DJ h, cond_false, aM, qf, tyA, ml]
  generalize decide (e.op ≤ 6) = c1
  generalize decide (6 < e.op) = c2
  generalize decide (e.op ≤ 12) = c3
  generalize (e.op == 13) = c4
  generalize (e.op == 14) = c5
  generalize decide (15 ≤ e.op) = c6
  generalize decide (e.op ≤ 19) = c7
  cases c1 <;> cases i <;> cases c2 <;> cases c3 <;> cases c4 <;> cases c5 <;> cases c6 <;> cases c7 <;> cases b <;> cases t <;> rfl
 | x :: r, pre, h, M, i, b, t, hM => by
  obtain ⟨m, rfl⟩ : ∃ m, M = m + 1 := ⟨M - 1, by omega⟩
  rw [ao]
  have hx : k x = some (ty x) := hk x (by rw [h]; simp)
  have hlen : pre.length < 4611686018427387904 := by rw [h] at hl; simp at hl; omega
  have ih := Az k e hk hl r (pre ++ [x]) (by rw [h]; simp) m (i && (ty x).1 == 1) (b && (ty x).1 == 2) (t && (ty x).1 != 1) (by simp at hM; omega)
  rw [show ((pre ++ [x]).length : Int) = ((pre.length + 1 : Nat) : Int) by simp] at ih
  simp only [jZ, Cn h, cond_true, sB h, ai, hx, aM, sg hlen, tyA]
  cases (ty x).2.1 != 0
  ·exact ih
  ·rfl
theorem HD : ∀ (N : Nat) (e : Ex), e.sz ≤ N → e.sz < 4611686018427387904 → al (fun k s => nI k s) N e = some (ty e) := by
 intro N
 induction N with
 | zero => intro e h; have := kC e; omega
 | succ N ih =>
  intro e h hb
  rw [ao]
  show al (jZ _ e) aq (true, true, true, 0) = _
  have hl := sJ e
  have := Az (al (fun k s => nI k s) N) e (fun x hx => ih x (by have := iB hx; omega) (by have := iB hx; omega)) (by omega) e.l [] rfl aq true true true (by show e.l.length < 2 ^ 64; omega)
  rw [Bv]
  exact this
theorem N0 (e : Ex) (h : e.sz < 4611686018427387904) : qZ e = some (ty e) := HD aq e (by show e.sz ≤ 2 ^ 64; omega) h
end Go.Proofs.YtpnogcmollnjeaaGreatDoor
namespace Go.Proofs.YtpnogcmollnjeaaGreatDoor
theorem Je (b : Bool) : lQ b = some (tr b) := by cases b <;> rfl
theorem u7 (k : Ex × List Int → Option Int) (e : Ex) (v : List Int) (again : Int × Int × Int → Option Int) (a b t : Int) (h : ¬ t < (List.length (bw e.l 0 (min (List.length e.l : Int) 2)) : Int)) :
  bQ k e v again (a, b, t) = some (evF e.op e.n v a b) := by
 simp only [bQ, decide_eq_false h, cond_false, aM, qi, qa, p6, pA, p8, Je, ai, evF]
 cases c2 : (decide (e.n < 0) || decide ((List.length v : Int) ≤ e.n))
 ·have h1 : idx v e.n = some (v.getD e.n.toNat 0) := by
   simp only [Bool.or_eq_false_iff, decide_eq_false_iff_not] at c2
   unfold idx
   rw [if_pos (by omega), List.getElem?_eq_getElem (by omega)]
   simp [List.getD, List.getElem?_eq_getElem (show e.n.toNat < v.length by omega)]
  rw [h1]
  generalize (e.op == 1) = b1
  generalize (e.op == 2) = b2
  generalize (e.op == 3) = b3
  generalize (e.op == 5) = b5
  generalize (e.op == 6) = b6
  generalize (e.op == 4) = b4
  generalize (e.op == 8) = b8
  generalize (e.op == 7) = b7
  generalize (e.op == 19) = b19
  generalize (e.op == 12) = b12
  generalize (e.op == 9) = b9
  generalize (e.op == 11) = b11
  generalize (e.op == 10) = b10
  generalize (e.op == 13) = b13
  generalize (e.op == 15) = b15
  generalize (e.op == 16) = b16
  generalize (e.op == 17) = b17
  generalize (e.op == 18) = b18
  cases b1
  case true => rfl
  cases b2
  case true => rfl
  cases b3
  case true => rfl
  cases b5
  case true => rfl
  cases b6
  case true => rfl
  cases b4
  case true => rfl
  cases b8
  case true => rfl
  cases b7
  case true => rfl
  cases b19
  case true => rfl
  cases b12
  case true => rfl
  cases b9
  case true => rfl
  cases b11
  case true => rfl
  cases b10
  case true => rfl
  cases b13
  case true => rfl
  cases b15
  case true => rfl
  cases b16
  case true => rfl
  cases b17
  case true => rfl
  cases b18 <;> rfl
 ·generalize (e.op == 1) = b1
  generalize (e.op == 2) = b2
  generalize (e.op == 3) = b3
  generalize (e.op == 5) = b5
  generalize (e.op == 6) = b6
  generalize (e.op == 4) = b4
  generalize (e.op == 8) = b8
  generalize (e.op == 7) = b7
  generalize (e.op == 19) = b19
  generalize (e.op == 12) = b12
  generalize (e.op == 9) = b9
  generalize (e.op == 11) = b11
  generalize (e.op == 10) = b10
  generalize (e.op == 13) = b13
  generalize (e.op == 15) = b15
  generalize (e.op == 16) = b16
  generalize (e.op == 17) = b17
  generalize (e.op == 18) = b18
  cases b1
  case true => rfl
  cases b2
  case true => rfl
  cases b3
  case true => rfl
  cases b5
  case true => rfl
  cases b6
  case true => rfl
  cases b4
  case true => rfl
  cases b8
  case true => rfl
  cases b7
  case true => rfl
  cases b19
  case true => rfl
  cases b12
  case true => rfl
  cases b9
  case true => rfl
  cases b11
  case true => rfl
  cases b10
  case true => rfl
  cases b13
  case true => rfl
  cases b15
  case true => rfl
  cases b16
  case true => rfl
  cases b17
  case true => rfl
  cases b18 <;> rfl
theorem Pl (k : Ex × List Int → Option Int) (e : Ex) (v : List Int) (hk : ∀ x ∈ e.l, k (x, v) = some (ev v x)) : kG k e v = some (ev v e) := by
 unfold kG
 have hc : dL 0 (min (List.length e.l : Int) 2) (List.length e.l) = true := sU.2 ⟨⟨Int.le_refl _, by omega⟩, by omega⟩
 rw [hc, PU]
 show al (bQ k e v) aq (0, 0, 0) = _
 rw [show aq = 18446744073709551613 + 1 + 1 + 1 from rfl]
 generalize 18446744073709551613 = N
 rw [ao]
 obtain ⟨op, n, a, l⟩ := e
 match l, hk with
 | [], _ => exact u7 k (.mk op n a []) v _ 0 0 0 (by show ¬ (0 : Int) < ((List.length (bw ([] : List Ex) 0 _) : Nat) : Int); simp [bw])
 | [x], hk =>
  have hx := hk x (by simp [Ex.l])
  have hl : bw [x] 0 (min (List.length [x] : Int) 2) = [x] := rfl
  have h1 : bQ k (.mk op n a [x]) v (al (bQ k (.mk op n a [x]) v) (N + 1 + 1)) (0, 0, 0) = al (bQ k (.mk op n a [x]) v) (N + 1 + 1) (ev v x, 0, 1) := by
   simp only [bQ, Ex.l, hl]
   show (k (x, v)).bind _ = _
   rw [hx]
   rfl
  rw [h1, ao]
  exact u7 k (.mk op n a [x]) v _ (ev v x) 0 1 (by show ¬ (1 : Int) < (List.length (bw [x] 0 (min (List.length [x] : Int) 2)) : Int); rw [hl]; simp)
 | x :: y :: r, hk =>
  have hx := hk x (by simp [Ex.l])
  have hy := hk y (by simp [Ex.l])
  have hm : min (List.length (x :: y :: r) : Int) 2 = 2 := by simp only [List.length_cons]; omega
  have hl : bw (x :: y :: r) 0 2 = [x, y] := rfl
  have h1 : bQ k (.mk op n a (x :: y :: r)) v (al (bQ k (.mk op n a (x :: y :: r)) v) (N + 1 + 1)) (0, 0, 0) = al (bQ k (.mk op n a (x :: y :: r)) v) (N + 1 + 1) (ev v x, 0, 1) := by
   show (bif decide ((0 : Int) < (List.length (bw (x :: y :: r) 0 (min (List.length (x :: y :: r) : Int) 2)) : Int)) then (idx (bw (x :: y :: r) 0 (min (List.length (x :: y :: r) : Int) 2)) 0).bind _ else _) = _
   rw [hm, hl]
   show (k (x, v)).bind _ = _
   rw [hx]
   rfl
  have h2 : bQ k (.mk op n a (x :: y :: r)) v (al (bQ k (.mk op n a (x :: y :: r)) v) (N + 1)) (ev v x, 0, 1) = al (bQ k (.mk op n a (x :: y :: r)) v) (N + 1) (ev v x, ev v y, 2) := by
   show (bif decide ((1 : Int) < (List.length (bw (x :: y :: r) 0 (min (List.length (x :: y :: r) : Int) 2)) : Int)) then (idx (bw (x :: y :: r) 0 (min (List.length (x :: y :: r) : Int) 2)) 1).bind _ else _) = _
   rw [hm, hl]
   show (k (y, v)).bind _ = _
   rw [hy]
   rfl
  rw [h1, ao, h2, ao]
  exact u7 k (.mk op n a (x :: y :: r)) v _ (ev v x) (ev v y) 2 (by show ¬ (2 : Int) < (List.length (bw (x :: y :: r) 0 (min (List.length (x :: y :: r) : Int) 2)) : Int); rw [hm, hl]; simp)
theorem Ij : ∀ (N : Nat) (e : Ex) (v : List Int), e.sz ≤ N → al (fun k (s : Ex × List Int) => kG k s.1 s.2) N (e, v) = some (ev v e) := by
 intro N
 induction N with
 | zero => intro e _ h; have := kC e; omega
 | succ N ih =>
  intro e v h
  rw [ao]
  exact Pl _ e v (fun x hx => ih x v (by have := iB hx; omega))
theorem zb (e : Ex) (h : e.sz < 4611686018427387904) (v : List Int) : jT e v = some (ev v e) := Ij aq e v (by show e.sz ≤ 2 ^ 64; omega)
end Go.Proofs.YtpnogcmollnjeaaGreatDoor
namespace Go.Proofs.YtpnogcmollnjeaaGreatDoor
namespace Lx
theorem M9 {α : Type} (xs : List α) (k : Nat) : idx xs (k : Int) = xs[k]? := by simp [idx]
theorem OZ {α : Type} {xs : List α} {k : Nat} (h : k < xs.length) : idx xs (k : Int) = some xs[k] := by rw [M9, List.getElem?_eq_getElem h]
theorem ao {σ ρ : Type} (F : (σ → Option ρ) → σ → Option ρ) (n : Nat) (s : σ) : al F (n + 1) s = F (al F n) s := rfl
theorem jW {ρ : Type} (k : Option ρ) : chk true k = k := rfl
theorem pd {ρ : Type} (c : Bool) (k : Option ρ) : pK false c k = k := rfl
theorem iV {ρ : Type} (k : Option ρ) (g : Bool) : pK g true k = k := by cases g <;> rfl
theorem js {α ρ : Type} (d : α) (m : Option α) (k : α → Option ρ) : aH true d m k = m.bind k := rfl
theorem my {α ρ : Type} (d : α) (m : Option α) (k : α → Option ρ) : aH false d m k = k d := rfl
theorem fS {α ρ : Type} (x : α) (k : α → Option ρ) : (some x).bind k = k x := rfl
theorem fY {α ρ : Type} (x : α) (k : α → Option ρ) : ab x k = k x := rfl
theorem kR {i : Int} {n : Nat} (h0 : 0 ≤ i) (h1 : i < n) : inB i n = true := gJ.2 ⟨h0, h1⟩
theorem u6 {i j : Int} {n : Nat} (h0 : 0 ≤ i) (h1 : i ≤ j) (h2 : j ≤ n) : dL i j n = true := sU.2 ⟨⟨h0, h1⟩, h2⟩
theorem oL {k b : Nat} (h : k * b ≤ 140737488355328) (h2 : k ≤ 9223372036854775807) : az k b = true := by
  simp only [az, Bool.and_eq_true]; exact ⟨Nat.ble_eq_true_of_le h, Nat.ble_eq_true_of_le h2⟩
theorem xT (l : Str) (k : Nat) (h : k < l.length) : gP l (k : Int) = (l[k].toNat : Int) := by
  simp [gP, List.getD, h]
theorem MZ (l : Str) (i j : Nat) : cut l (i : Int) (j : Int) = (l.drop i).take (j - i) := rfl
theorem kc {p : Prop} [Decidable p] (h : p) : decide p = true := decide_eq_true h
theorem nJ {p : Prop} [Decidable p] (h : ¬ p) : decide p = false := decide_eq_false h
theorem pS : aq = 18446744073709551616 := rfl
theorem NX {σ ρ : Type} {F : (σ → Option ρ) → σ → Option ρ} {N : Nat} (st : Nat → σ) (n : Nat) (r : Option ρ)
    (step : ∀ again k, k < n → F again (st k) = again (st (k + 1))) (last : ∀ again, F again (st n) = r) :
    ∀ k, k ≤ n → n - k < N → al F N (st k) = r := by
  induction N with
  | zero => intro k _ h; omega
  | succ N ih =>
    intro k hk hN
    rw [ao]
    by_cases hkn : k < n
    · rw [step _ k hkn]; exact ih (k + 1) (by omega) (by omega)
    · have : k = n := by omega
      subst this; exact last _
theorem fixN_upto {σ ρ : Type} {F : (σ → Option ρ) → σ → Option ρ} {N : Nat} (st : Nat → σ) (n m : Nat) (_hm : m ≤ n) (r : Option ρ)
    (step : ∀ again k, k < m → F again (st k) = again (st (k + 1))) (last : ∀ again, F again (st m) = r) (h0 : m < N) : al F N (st 0) = r :=
  NX st m r step last 0 (Nat.zero_le _) (by omega)
abbrev Tok := Int × Str × Int × Int
noncomputable def dP (c : UInt8) : Bool := c == 32 || c == 9 || c == 10 || c == 13
noncomputable def cM (c : UInt8) : Bool := (decide (97 ≤ c) && decide (c ≤ 122)) || (decide (65 ≤ c) && decide (c ≤ 90)) || c == 95
noncomputable def isDigit (c : UInt8) : Bool := decide (48 ≤ c) && decide (c ≤ 57)
noncomputable def bS (c : UInt8) : Bool := cM c || isDigit c
noncomputable def nB (c : UInt8) : Bool := c != 10
theorem q9 (c d : UInt8) : ((c.toNat : Int) == (d.toNat : Int)) = (c == d) := by
  rw [Bool.eq_iff_iff]
  simp only [beq_iff_eq]
  constructor
  · intro h; exact UInt8.toNat_inj.1 (by omega)
  · intro h; rw [h]
theorem zk (c d : UInt8) : decide ((c.toNat : Int) ≤ (d.toNat : Int)) = decide (c ≤ d) := by
  rw [Bool.eq_iff_iff]
  simp only [decide_eq_true_eq, UInt8.le_iff_toNat_le]
  omega
/-! runs -/
theorem pD {p : UInt8 → Bool} : ∀ (l : Str) (k : Nat), (∀ i (h : i < l.length), i < k → p l[i] = true) → k ≤ l.length → (∀ h : k < l.length, p l[k] = false) → l.takeWhile p = l.take k
  | [], k, _, hk, _ => by simp
  | c :: l, 0, _, _, h2 => by
    have := h2 (by simp)
    simp at this
    simp [this]
  | c :: l, k + 1, h1, hk, h2 => by
    have hc := h1 0 (by simp) (by omega)
    simp at hc
    rw [List.takeWhile_cons, if_pos hc, List.take_succ_cons, pD l k (fun i h hik => by
      have := h1 (i + 1) (by simp; omega) (by omega)
      simpa using this) (by simpa using hk) (fun h => by
      have := h2 (by simp; omega)
      simpa using this)]
/-! numbers -/
noncomputable def dig (c : UInt8) : Int := (c.toNat : Int) - 48
noncomputable def di (n : Int) (s : Str) : Int := s.foldl (fun n c => 10 * n + dig c) n
noncomputable def big (n : Int) : Bool := decide (1073741824 < n)
theorem yh {c : UInt8} (h : isDigit c = true) : 0 ≤ dig c ∧ dig c ≤ 9 := by
  simp only [isDigit, Bool.and_eq_true, decide_eq_true_eq, UInt8.le_iff_toNat_le] at h
  unfold dig
  have h1 : (48 : UInt8).toNat = 48 := rfl
  have h2 : (57 : UInt8).toNat = 57 := rfl
  omega
theorem qp : ∀ (s : Str) (n : Int), 0 ≤ n → s.all isDigit = true → n ≤ di n s
  | [], n, _, _ => Int.le_refl _
  | c :: s, n, hn, h => by
    simp only [List.all_cons, Bool.and_eq_true] at h
    have hd := yh h.1
    have := qp s (10 * n + dig c) (by omega) h.2
    show n ≤ di (10 * n + dig c) s
    omega
theorem rune_digit (s : Str) (k : Nat) (h : k < s.length) (hd : isDigit s[k] = true) : uW s k = (s[k].toNat : Int) ∧ ju s k = k + 1 := by
  have hc : (s[k].toNat : Nat) < 128 := by
    simp only [isDigit, Bool.and_eq_true, decide_eq_true_eq, UInt8.le_iff_toNat_le] at hd
    have h2 : (57 : UInt8).toNat = 57 := rfl
    omega
  have hget : (⟨s.toArray⟩ : ByteArray).get! k = s[k] := by
    show s.toArray[k]! = s[k]
    simp [h]
  have hdec : Utf8.decode ⟨s.toArray⟩ k = (s[k].toNat, 1) := by
    unfold Utf8.decode
    simp only [Nat.add_zero, hget]
    rw [if_pos hc]
  exact ⟨by simp [uW, hdec], by simp [ju, hdec]⟩
/-! signs -/
noncomputable def bA : List Str := [[60, 45, 62], [45, 62], [61, 61], [33, 61], [60, 61], [62, 61], [60], [62], [61], [43], [45], [42], [40], [41], [123], [125], [59], [44], [58], [38], [124], [33]]
noncomputable def ct (s : Str) : Str := (bA.find? (fun g => g.isPrefixOf s)).getD []
/-! one step -/
inductive Step where
  | skip (k : Nat)
  | err (e : Int)
  | tok (k : Int) (t : Str) (n : Int)
noncomputable def step : Str → Step
  | [] => .skip 0
  | c :: s =>
    if dP c then .skip 1
    else if c == 35 then .skip ((c :: s).takeWhile nB).length
    else if cM c then (if 32 < ((c :: s).takeWhile bS).length then .err 9 else .tok 1 ((c :: s).takeWhile bS) 0)
    else if isDigit c then (if big (di 0 ((c :: s).takeWhile isDigit)) then .err 9 else .tok 2 ((c :: s).takeWhile isDigit) (di 0 ((c :: s).takeWhile isDigit)))
    else if ct (c :: s) == [] then .err 2 else .tok 3 (ct (c :: s)) 0
noncomputable def gC : Nat → Nat → Str → Except (Int × Int) (List Tok)
  | 0, _, _ => .ok []
  | _ + 1, at_, [] => .ok [(4, [], 0, (at_ : Int))]
  | f + 1, at_, c :: s =>
    match step (c :: s) with
    | .skip k => gC f (at_ + k) ((c :: s).drop k)
    | .err e => .error (e, at_)
    | .tok k t n => match gC f (at_ + t.length) ((c :: s).drop t.length) with
      | .ok l => .ok ((k, t, n, (at_ : Int)) :: l)
      | .error e => .error e
noncomputable def res : Except (Int × Int) (List Tok) → List Tok × Int × Int
  | .ok l => (l, 0, 0)
  | .error e => ([], e.1, e.2)
noncomputable def tokens (s : Str) : List Tok × Int × Int := if 65536 < s.length then ([], 9, 0) else res (gC (s.length + 1) 0 s)
theorem jn (p : UInt8 → Bool) : ∀ s : Str, (s.takeWhile p).all p = true
  | [] => rfl
  | c :: s => by
    rw [List.takeWhile_cons]
    split
    · rename_i h; simp only [List.all_cons, h, Bool.true_and]; exact jn p s
    · rfl
theorem kM (p : UInt8 → Bool) (s : Str) : (s.takeWhile p).length ≤ s.length := (List.takeWhile_prefix p).length_le
theorem gK {p : UInt8 → Bool} {c : UInt8} {s : Str} (h : p c = true) : 1 ≤ ((c :: s).takeWhile p).length := by
  rw [List.takeWhile_cons, if_pos h]; simp
theorem kU {c : UInt8} (h : cM c = true) : bS c = true := by simp [bS, h]
theorem AR : ∀ g ∈ bA, 1 ≤ g.length := by decide
theorem oK {s : Str} (h : (ct s == []) = false) : ct s ∈ bA ∧ ct s <+: s ∧ bA.find? (fun g => g.isPrefixOf s) = some (ct s) := by
  unfold ct at *
  cases hf : bA.find? (fun g => g.isPrefixOf s) with
  | none => rw [hf] at h; simp at h
  | some g =>
    refine ⟨List.mem_of_find?_eq_some hf, ?_, rfl⟩
    have := List.find?_some hf
    simpa using this
theorem step_take {c : UInt8} {s : Str} (hb : dP c = false) (hc : (c == 35) = false) {k : Int} {t : Str} {n : Int} (h : step (c :: s) = .tok k t n) : 1 ≤ t.length ∧ t <+: (c :: s) := by
  simp only [step, hb, hc, Bool.false_eq_true, if_false] at h
  cases hlet : cM c
  · simp only [hlet, Bool.false_eq_true, if_false] at h
    cases hdig : isDigit c
    · simp only [hdig, Bool.false_eq_true, if_false] at h
      cases hsg : (ct (c :: s) == [])
      · simp only [hsg, Bool.false_eq_true, if_false, Step.tok.injEq] at h
        obtain ⟨_, rfl, _⟩ := h
        obtain ⟨h1, h2, _⟩ := oK hsg
        exact ⟨AR _ h1, h2⟩
      · simp [hsg] at h
    · simp only [hdig, if_true] at h
      split at h
      · cases h
      · simp only [Step.tok.injEq] at h
        obtain ⟨_, rfl, _⟩ := h
        exact ⟨gK hdig, List.takeWhile_prefix _⟩
  · simp only [hlet, if_true] at h
    split at h
    · cases h
    · simp only [Step.tok.injEq] at h
      obtain ⟨_, rfl, _⟩ := h
      exact ⟨gK (kU hlet), List.takeWhile_prefix _⟩
noncomputable def uE (out : List Tok) : Except (Int × Int) (List Tok) → List Tok × Int × Int
  | .ok l => (out ++ l, 0, 0)
  | .error e => ([], e.1, e.2)
theorem Bg {s : Str} {k : Nat} {c : UInt8} {r : Str} (h : s.drop k = c :: r) : ∃ hk : k < s.length, s[k] = c := by
  have hk : k < s.length := by
    rcases Nat.lt_or_ge k s.length with h' | h'
    · exact h'
    · rw [List.drop_of_length_le h'] at h; cases h
  refine ⟨hk, ?_⟩
  rw [List.drop_eq_getElem_cons hk] at h
  exact (List.cons.inj h).1
theorem OD {c : UInt8} {s : Str} {e : Int} (h : step (c :: s) = .err e) : e ≠ 0 := by
  simp only [step] at h
  split at h
  · cases h
  · split at h
    · cases h
    · split at h
      · split at h
        · cases h; decide
        · cases h
      · split at h
        · split at h
          · cases h; decide
          · cases h
        · split at h
          · cases h; decide
          · cases h
theorem vn {σ ρ : Type} {F : (σ → Option ρ) → σ → Option ρ} (p : UInt8 → Bool) (s : Str) (st : Nat → σ) (r : Nat → Option ρ)
    (go : ∀ again k (h : k < s.length), p s[k] = true → (∀ i (hi : i < s.length), i < k → p s[i] = true) → F again (st k) = again (st (k + 1)))
    (stop : ∀ again k (h : k < s.length), p s[k] = false → F again (st k) = r k)
    (last : ∀ again, F again (st s.length) = r s.length) (N : Nat) (hN : s.length < N) : al F N (st 0) = r (s.takeWhile p).length := by
  have key : ∀ N k, k ≤ s.length → s.length - k < N → (∀ i (h : i < s.length), i < k → p s[i] = true) → al F N (st k) = r (s.takeWhile p).length := by
    intro N
    induction N with
    | zero => intro k _ h; omega
    | succ N ih =>
      intro k hk hN hp
      rw [ao]
      by_cases hlt : k < s.length
      · cases hpk : p s[k]
        · rw [stop _ k hlt hpk, pD s k hp hk (fun _ => hpk), List.length_take, Nat.min_eq_left hk]
        · rw [go _ k hlt hpk hp]
          exact ih (k + 1) (by omega) (by omega) (fun i h hi => by
            rcases Nat.lt_or_ge i k with h' | h'
            · exact hp i h h'
            · have : i = k := by omega
              subst this; exact hpk)
      · have : k = s.length := by omega
        subst this
        rw [last, pD s s.length hp (Nat.le_refl _) (fun h => absurd h hlt), List.length_take, Nat.min_self]
  exact key N 0 (Nat.zero_le _) (by omega) (fun i _ h => by omega)
noncomputable def kindOf (c : UInt8) : Int := if dP c then 0 else if cM c then 1 else if isDigit c then 2 else 3
theorem Ef (c : UInt8) : dP c = (((c == 9 || c == 10) || c == 13) || c == 32) := by
  unfold dP
  cases (c == 32) <;> cases (c == 9) <;> cases (c == 10) <;> cases (c == 13) <;> rfl
theorem sH (c : UInt8) : cY (c.toNat : Int) = some (kindOf c) := by
  unfold cY
  simp only [fY]
  have h1 := q9 c 32; have h2 := q9 c 9; have h3 := q9 c 10; have h4 := q9 c 13
  have k1 := zk 97 c; have k2 := zk c 122; have k3 := zk 65 c; have k4 := zk c 90; have k5 := q9 c 95
  have d1 := zk 48 c; have d2 := zk c 57
  rw [show ((32 : Int) = ((32 : UInt8).toNat : Int)) from rfl, show ((9 : Int) = ((9 : UInt8).toNat : Int)) from rfl, show ((10 : Int) = ((10 : UInt8).toNat : Int)) from rfl, show ((13 : Int) = ((13 : UInt8).toNat : Int)) from rfl, h1, h2, h3, h4, ← Ef]
  rw [show ((97 : Int) = ((97 : UInt8).toNat : Int)) from rfl, show ((122 : Int) = ((122 : UInt8).toNat : Int)) from rfl, show ((65 : Int) = ((65 : UInt8).toNat : Int)) from rfl, show ((90 : Int) = ((90 : UInt8).toNat : Int)) from rfl, show ((95 : Int) = ((95 : UInt8).toNat : Int)) from rfl, k1, k2, k3, k4, k5]
  rw [show ((48 : Int) = ((48 : UInt8).toNat : Int)) from rfl, show ((57 : Int) = ((57 : UInt8).toNat : Int)) from rfl, d1, d2]
  unfold kindOf
  have e1 : ((decide (97 ≤ c) && decide (c ≤ 122)) || (decide (65 ≤ c) && decide (c ≤ 90)) || c == 95) = cM c := rfl
  have e2 : (decide (48 ≤ c) && decide (c ≤ 57)) = isDigit c := rfl
  rw [e1, e2]
  cases dP c <;> cases cM c <;> cases isDigit c <;> rfl
noncomputable def bu (n : Int) (s : Str) : Int := s.foldl (fun n c => if n ≤ 1073741824 then 10 * n + dig c else n) n
theorem CY : ∀ (s : Str) (n : Int), 1073741824 < n → bu n s = n
  | [], _, _ => rfl
  | c :: s, n, h => by
    show bu (if n ≤ 1073741824 then 10 * n + dig c else n) s = n
    rw [if_neg (by omega)]; exact CY s n h
theorem Fv : ∀ (s : Str) (n : Int), 0 ≤ n → s.all isDigit = true → (big (di n s) = false → bu n s = di n s) ∧ (big (di n s) = true → 1073741824 < bu n s)
  | [], n, _, _ => ⟨fun _ => rfl, fun h => of_decide_eq_true (show decide (1073741824 < n) = true from h)⟩
  | c :: s, n, hn, h => by
    simp only [List.all_cons, Bool.and_eq_true] at h
    have hd := yh h.1
    have ih := Fv s (10 * n + dig c) (by omega) h.2
    have e1 : di n (c :: s) = di (10 * n + dig c) s := rfl
    have e2 : bu n (c :: s) = bu (if n ≤ 1073741824 then 10 * n + dig c else n) s := rfl
    rw [e1, e2]
    by_cases hb : n ≤ 1073741824
    · rw [if_pos hb]; exact ih
    · rw [if_neg hb]
      have hm := qp s (10 * n + dig c) (by omega) h.2
      constructor
      · intro hf; simp [big] at hf; omega
      · intro _; rw [CY s n (by omega)]; omega
theorem ur : ∀ (s : Str) (n : Int), 0 ≤ n → n ≤ 10737418249 → s.all isDigit = true → 0 ≤ bu n s ∧ bu n s ≤ 10737418249
  | [], n, h, h', _ => ⟨h, h'⟩
  | c :: s, n, h, h', hd => by
    simp only [List.all_cons, Bool.and_eq_true] at hd
    have hdl := yh hd.1
    show 0 ≤ bu (if n ≤ 1073741824 then 10 * n + dig c else n) s ∧ bu (if n ≤ 1073741824 then 10 * n + dig c else n) s ≤ 10737418249
    split
    · exact ur s _ (by omega) (by omega) hd.2
    · exact ur s _ h h' hd.2
theorem KD (s : Str) (k : Nat) (h : k < s.length) : bu 0 (s.take (k + 1)) = if bu 0 (s.take k) ≤ 1073741824 then 10 * bu 0 (s.take k) + dig s[k] else bu 0 (s.take k) := by
  have e : bu 0 (s.take (k + 1)) = bu (bu 0 (s.take k)) [s[k]] := by
    rw [List.take_succ_eq_append_getElem h]; unfold bu; rw [List.foldl_append]
  rw [e]; rfl
theorem sy (p : UInt8 → Bool) (s : Str) : s.take (s.takeWhile p).length = s.takeWhile p :=
  (List.prefix_iff_eq_take.1 (List.takeWhile_prefix p)).symm
section
variable {text s : Str} {at_ : Nat} (hd : text.drop at_ = s) (hat : at_ ≤ text.length)
include hd hat
theorem vk : text.length = at_ + s.length := by
  rw [← hd]; simp; omega
theorem pr (k : Nat) (h : k < s.length) : gP text ((at_ + k : Nat) : Int) = (s[k].toNat : Int) := by
  have hl := vk hd hat
  rw [xT text (at_ + k) (by omega)]
  congr 2
  subst hd
  rw [List.getElem_drop]
omit hat in
theorem DA (k : Nat) : cut text (at_ : Int) ((at_ + k : Nat) : Int) = s.take k := by
  rw [MZ, hd]; congr 1; omega
theorem PS (hl : text.length ≤ 65536) (out : List Tok) (again7) :
    al (dv text out again7) aq (at_ : Int) = again7 (out, ((at_ + (s.takeWhile nB).length : Nat) : Int)) := by
  have hlen := vk hd hat
  have h0 : (at_ : Int) = ((at_ + 0 : Nat) : Int) := rfl
  rw [h0]
  refine vn nB s (fun k => ((at_ + k : Nat) : Int)) (fun k => again7 (out, ((at_ + k : Nat) : Int))) ?_ ?_ ?_ aq (by rw [pS]; omega)
  · intro again k h hp _
    unfold dv
    simp only [fY]
    rw [kc (by omega), kR (by omega) (by omega), pr hd hat k h, iV]
    have : ((s[k].toNat : Int) != 10) = nB s[k] := by
      have := q9 s[k] 10
      unfold nB bne
      rw [show ((10 : Int) = ((10 : UInt8).toNat : Int)) from rfl, this]
    rw [this, hp, Bool.and_self, cond_true, w64 (by omega)]
    rfl
  · intro again k h hp
    unfold dv
    simp only [fY]
    rw [kc (by omega), kR (by omega) (by omega), pr hd hat k h, iV]
    have : ((s[k].toNat : Int) != 10) = nB s[k] := by
      have := q9 s[k] 10
      unfold nB bne
      rw [show ((10 : Int) = ((10 : UInt8).toNat : Int)) from rfl, this]
    rw [this, hp, Bool.and_false, cond_false]
  · intro again
    unfold dv
    simp only [fY]
    rw [nJ (by omega), pd, Bool.false_and, cond_false]
end
theorem wx (c : UInt8) : ((kindOf c == 1) || (kindOf c == 2)) = bS c := by
  cases hb : dP c
  · unfold kindOf bS
    rw [hb]
    cases cM c <;> cases isDigit c <;> rfl
  · have : bS c = false := by
      simp only [dP, Bool.or_eq_true, beq_iff_eq] at hb
      rcases hb with ((rfl | rfl) | rfl) | rfl <;> decide
    unfold kindOf
    rw [if_pos hb, this]; rfl
theorem PG {text s : Str} {at_ : Nat} (hd : text.drop at_ = s) (hat : at_ ≤ text.length) (hl : text.length ≤ 65536) (out : List Tok) (again7) (hout : out.length ≤ 65536) :
    al (ck text out (at_ : Int) again7) aq (at_ : Int) = if 32 < (s.takeWhile bS).length then some ([], 9, (at_ : Int)) else again7 (out ++ [(1, s.takeWhile bS, 0, (at_ : Int))], ((at_ + (s.takeWhile bS).length : Nat) : Int)) := by
  have hlen := vk hd hat
  have e0 : (if 32 < (s.takeWhile bS).length then some ([], 9, (at_ : Int)) else again7 (out ++ [(1, s.takeWhile bS, 0, (at_ : Int))], ((at_ + (s.takeWhile bS).length : Nat) : Int)))
     = (fun k => if 32 < k then some ([], 9, (at_ : Int)) else again7 (out ++ [(1, s.take k, 0, (at_ : Int))], ((at_ + k : Nat) : Int))) (s.takeWhile bS).length := by
    simp only [sy]
  rw [e0]
  have tail : ∀ k, k ≤ s.length → (bif (decide (32 < (IntKind.i64.wrap (((at_ + k : Nat) : Int) - (at_ : Int))))) then ( some ([], 9, (at_ : Int))) else ( chk (dL (at_ : Int) ((at_ + k : Nat) : Int) (List.length text)) <| chk (az (List.length out + List.length ([(1, (cut text (at_ : Int) ((at_ + k : Nat) : Int)), 0, (at_ : Int))] : List (Int × Str × Int × Int))) 40) <| again7 ((out ++ ([(1, (cut text (at_ : Int) ((at_ + k : Nat) : Int)), 0, (at_ : Int))] : List (Int × Str × Int × Int))), ((at_ + k : Nat) : Int)))) = (if 32 < k then some ([], 9, (at_ : Int)) else again7 (out ++ [(1, s.take k, 0, (at_ : Int))], ((at_ + k : Nat) : Int))) := by
    intro k hk
    rw [w64 (by omega)]
    by_cases h32 : 32 < k
    · rw [kc (by omega), cond_true, if_pos h32]
    · rw [nJ (by omega), cond_false, if_neg h32, u6 (by omega) (by omega) (by omega), jW, oL (by simp; omega) (by simp; omega), jW, DA hd]
  refine vn (F := ck text out (at_ : Int) again7) bS s (fun k => ((at_ + k : Nat) : Int)) (fun k => if 32 < k then some ([], 9, (at_ : Int)) else again7 (out ++ [(1, s.take k, 0, (at_ : Int))], ((at_ + k : Nat) : Int))) ?_ ?_ ?_ aq (by rw [pS]; omega)
  · intro again k h hp _
    unfold ck
    simp only [fY]
    have ke := wx s[k]
    rw [hp] at ke
    rw [kc (by omega), kR (by omega) (by omega), pr hd hat k h]
    simp only [iV, sH, js, fS, Bool.true_and]
    cases hk1 : (kindOf s[k] == 1)
    · rw [hk1] at ke
      simp only [Bool.not_false, js, fS, Bool.false_or] at ke ⊢
      rw [ke, cond_true, w64 (by omega)]; rfl
    · simp only [Bool.not_true, my, Bool.true_or, cond_true]
      rw [w64 (by omega)]; rfl
  · intro again k h hp
    unfold ck
    simp only [fY]
    have ke := wx s[k]
    rw [hp] at ke
    simp only [Bool.or_eq_false_iff] at ke
    rw [kc (by omega), kR (by omega) (by omega), pr hd hat k h]
    simp only [iV, sH, js, fS, Bool.true_and, ke.1, ke.2, Bool.not_false, Bool.or_self, cond_false]
    exact tail k (by omega)
  · intro again
    unfold ck
    simp only [fY]
    rw [nJ (by omega)]
    simp only [pd, my, Bool.false_and, cond_false]
    exact tail s.length (Nat.le_refl _)
theorem Hr (c : UInt8) (h : cM c = false) : (kindOf c == 2) = isDigit c := by
  unfold kindOf
  rw [h]
  cases hb : dP c
  · cases isDigit c <;> rfl
  · have : isDigit c = false := by
      simp only [dP, Bool.or_eq_true, beq_iff_eq] at hb
      rcases hb with ((rfl | rfl) | rfl) | rfl <;> decide
    rw [this]; rfl
theorem Dq {c : UInt8} (h : cM c = true) : isDigit c = false := by
  simp only [cM, Bool.or_eq_true, Bool.and_eq_true, decide_eq_true_eq, beq_iff_eq, UInt8.le_iff_toNat_le] at h
  cases hd : isDigit c
  · rfl
  · simp only [isDigit, Bool.and_eq_true, decide_eq_true_eq, UInt8.le_iff_toNat_le] at hd
    have h1 : (48 : UInt8).toNat = 48 := rfl
    have h2 : (57 : UInt8).toNat = 57 := rfl
    have h3 : (97 : UInt8).toNat = 97 := rfl
    have h4 : (65 : UInt8).toNat = 65 := rfl
    rcases h with (h | h) | h
    · omega
    · omega
    · subst h; have : (95 : UInt8).toNat = 95 := rfl; omega
theorem sV (c : UInt8) : (kindOf c == 2) = isDigit c := by
  cases hl : cM c
  · exact Hr c hl
  · unfold kindOf
    rw [Dq hl, hl]
    cases dP c <;> rfl
theorem PK {text s : Str} {at_ : Nat} (hd : text.drop at_ = s) (hat : at_ ≤ text.length) (hl : text.length ≤ 65536) (out : List Tok) (again7) (hout : out.length ≤ 65536) :
    al (cg text out (at_ : Int) again7) aq ((at_ : Int), 0) = if big (di 0 (s.takeWhile isDigit)) then some ([], 9, (at_ : Int)) else again7 (out ++ [(2, s.takeWhile isDigit, di 0 (s.takeWhile isDigit), (at_ : Int))], ((at_ + (s.takeWhile isDigit).length : Nat) : Int)) := by
  have hlen := vk hd hat
  have hsat := Fv (s.takeWhile isDigit) 0 (Int.le_refl _) (jn _ _)
  have e0 : (if big (di 0 (s.takeWhile isDigit)) then some ([], 9, (at_ : Int)) else again7 (out ++ [(2, s.takeWhile isDigit, di 0 (s.takeWhile isDigit), (at_ : Int))], ((at_ + (s.takeWhile isDigit).length : Nat) : Int)))
     = (fun k => if 1073741824 < bu 0 (s.take k) then some ([], 9, (at_ : Int)) else again7 (out ++ [(2, s.take k, bu 0 (s.take k), (at_ : Int))], ((at_ + k : Nat) : Int))) (s.takeWhile isDigit).length := by
    simp only [sy]
    cases hb : big (di 0 (s.takeWhile isDigit))
    · have h1 := hsat.1 hb
      rw [h1]
      have : ¬ 1073741824 < di 0 (s.takeWhile isDigit) := by simpa [big] using hb
      rw [if_neg this]; rfl
    · rw [if_pos (hsat.2 hb)]; rfl
  rw [e0]
  have tail : ∀ k, k ≤ s.length → (bif (decide (1073741824 < bu 0 (s.take k))) then ( some ([], 9, (at_ : Int))) else ( chk (dL (at_ : Int) ((at_ + k : Nat) : Int) (List.length text)) <| chk (az (List.length out + List.length ([(2, (cut text (at_ : Int) ((at_ + k : Nat) : Int)), bu 0 (s.take k), (at_ : Int))] : List (Int × Str × Int × Int))) 40) <| again7 ((out ++ ([(2, (cut text (at_ : Int) ((at_ + k : Nat) : Int)), bu 0 (s.take k), (at_ : Int))] : List (Int × Str × Int × Int))), ((at_ + k : Nat) : Int)))) = (if 1073741824 < bu 0 (s.take k) then some ([], 9, (at_ : Int)) else again7 (out ++ [(2, s.take k, bu 0 (s.take k), (at_ : Int))], ((at_ + k : Nat) : Int))) := by
    intro k hk
    by_cases h32 : 1073741824 < bu 0 (s.take k)
    · rw [kc (by omega), cond_true, if_pos h32]
    · rw [nJ (by omega), cond_false, if_neg h32, u6 (by omega) (by omega) (by omega), jW, oL (by simp; omega) (by simp; omega), jW, DA hd]
  refine vn (F := cg text out (at_ : Int) again7) isDigit s (fun k => (((at_ + k : Nat) : Int), bu 0 (s.take k))) (fun k => if 1073741824 < bu 0 (s.take k) then some ([], 9, (at_ : Int)) else again7 (out ++ [(2, s.take k, bu 0 (s.take k), (at_ : Int))], ((at_ + k : Nat) : Int))) ?_ ?_ ?_ aq (by rw [pS]; omega)
  · intro again k h hp hall
    unfold cg
    simp only [fY]
    have ke := sV s[k]
    rw [hp] at ke
    have hdl := yh hp
    have hb := ur (s.take k) 0 (Int.le_refl _) (by omega) (by
      rw [List.all_eq_true]; intro c hc
      obtain ⟨i, hi, rfl⟩ := List.mem_iff_getElem.1 hc
      rw [List.getElem_take]
      exact hall i (by simp at hi; omega) (by simp at hi; omega))
    rw [kc (by omega), kR (by omega) (by omega), pr hd hat k h]
    simp only [iV, sH, js, fS, Bool.true_and, ke, cond_true]
    rw [KD s k h, w64 (x := ((at_ + k : Nat) : Int) + 1) (by omega)]
    unfold dig at hdl ⊢
    by_cases hs : bu 0 (s.take k) ≤ 1073741824
    · rw [kc hs, cond_true, jW, if_pos hs, w64 (x := 10 * _) (by omega), w64 (x := (s[k].toNat : Int)) (by omega), w64 (x := 10 * _ + _) (by omega), w64 (by omega)]
      congr 2
      omega
    · rw [nJ hs, cond_false, if_neg hs]; rfl
  · intro again k h hp
    unfold cg
    simp only [fY]
    have ke := sV s[k]
    rw [hp] at ke
    rw [kc (by omega), kR (by omega) (by omega), pr hd hat k h]
    simp only [iV, sH, js, fS, Bool.true_and, ke, cond_false]
    exact tail k (by omega)
  · intro again
    unfold cg
    simp only [fY]
    rw [nJ (by omega)]
    simp only [pd, my, Bool.false_and, cond_false]
    exact tail s.length (Nat.le_refl _)
theorem Em : jw = some bA := rfl
theorem Ph {text : Str} {out : List Tok} {i5 : Int} {again7} {again122} {g : Str} {j : Int} (hg : (g == []) = false)
    (hr : out.length ≤ 65536) (hi : 0 ≤ i5 ∧ i5 ≤ 65536) (hgl : g.length ≤ 65536) :
    aR text out i5 again7 bA again122 (g, j) = again7 (out ++ [(3, g, 0, i5)], i5 + g.length) := by
  unfold aR
  simp only [fY, hg, Bool.and_false, cond_false]
  rw [oL (by simp; omega) (by simp; omega), jW, w64 (by omega)]
theorem PQ {text s : Str} {at_ : Nat} (hd : text.drop at_ = s) (hat : at_ ≤ text.length) (hl : text.length ≤ 65536) (out : List Tok) (again7) (hout : out.length ≤ 65536) :
    al (aR text out (at_ : Int) again7 bA) aq ([], 0) = if ct s == [] then some ([], 2, (at_ : Int)) else again7 (out ++ [(3, ct s, 0, (at_ : Int))], ((at_ + (ct s).length : Nat) : Int)) := by
  have hlen := vk hd hat
  have hs22 : bA.length = 22 := rfl
  have key : ∀ N k, k ≤ bA.length → bA.length - k + 1 < N → (∀ i (h : i < bA.length), i < k → bA[i].isPrefixOf s = false) →
      al (aR text out (at_ : Int) again7 bA) N ([], ((k : Nat) : Int)) = if ct s == [] then some ([], 2, (at_ : Int)) else again7 (out ++ [(3, ct s, 0, (at_ : Int))], ((at_ + (ct s).length : Nat) : Int)) := by
    intro N
    induction N with
    | zero => intro k _ h; omega
    | succ N ih =>
      intro k hk hN hp
      rw [ao]
      by_cases hlt : k < bA.length
      · have hgmem : bA[k] ∈ bA := List.getElem_mem hlt
        have hgl : ∀ g ∈ bA, g.length ≤ 3 ∧ (g == []) = false := by decide
        have hg3 := hgl _ hgmem
        have body : aR text out (at_ : Int) again7 bA (al (aR text out (at_ : Int) again7 bA) N) ([], ((k : Nat) : Int)) = al (aR text out (at_ : Int) again7 bA) N ((if bA[k].isPrefixOf s then bA[k] else []), ((k + 1 : Nat) : Int)) := by
          generalize al (aR text out (at_ : Int) again7 bA) N = again
          unfold aR
          simp only [fY]
          rw [kc (by omega)]
          simp only [show (([] : Str) == []) = true from rfl, Bool.and_self, cond_true]
          rw [OZ hlt]
          simp only [fS]
          rw [w64 (x := (text.length : Int) - (at_ : Int)) (by omega), w64 (x := ((k : Nat) : Int) + 1) (by omega)]
          by_cases hle : bA[k].length ≤ s.length
          · rw [kc (by omega)]
            simp only [js, fS, Bool.true_and]
            rw [w64 (by omega), u6 (by omega) (by omega) (by omega), iV]
            have e2 : (at_ : Int) + (bA[k].length : Int) = ((at_ + bA[k].length : Nat) : Int) := by omega
            rw [e2, DA hd]
            have e3 : (s.take bA[k].length == bA[k]) = bA[k].isPrefixOf s := by
              rw [Bool.eq_iff_iff, List.isPrefixOf_iff_prefix, beq_iff_eq]
              constructor
              · intro h; rw [← h]; exact List.take_prefix ..
              · intro h; exact (List.prefix_iff_eq_take.1 h).symm
            rw [e3]
            cases bA[k].isPrefixOf s
            · rfl
            · rfl
          · rw [nJ (by omega)]
            simp only [my, pd, Bool.false_and, cond_false]
            have : bA[k].isPrefixOf s = false := by
              rw [Bool.eq_false_iff, Ne, List.isPrefixOf_iff_prefix]
              intro h; exact hle h.length_le
            rw [this]; rfl
        rw [body]
        cases hpk : bA[k].isPrefixOf s
        · exact ih (k + 1) (by omega) (by omega) (fun i h hi => by
            rcases Nat.lt_or_ge i k with h' | h'
            · exact hp i h h'
            · have : i = k := by omega
              subst this; exact hpk)
        · have hsg : ct s = bA[k] := by
            unfold ct
            have : bA.find? (fun g => g.isPrefixOf s) = some bA[k] := by
              rw [List.find?_eq_some_iff_getElem]
              exact ⟨hpk, k, hlt, rfl, fun j hj => by simp [hp j (by omega) hj]⟩
            rw [this]; rfl
          rw [hsg]
          obtain ⟨N, rfl⟩ : ∃ m, N = m + 1 := ⟨N - 1, by omega⟩
          rw [ao]
          simp only [if_true, hg3.2, Bool.false_eq_true, if_false]
          rw [Ph hg3.2 hout (by omega) (by omega)]
          rfl
      · have : ct s = [] := by
          unfold ct
          have : bA.find? (fun g => g.isPrefixOf s) = none := by
            rw [List.find?_eq_none]
            intro g hg
            obtain ⟨i, hi, rfl⟩ := List.mem_iff_getElem.1 hg
            simp [hp i hi (by omega)]
          rw [this]; rfl
        rw [this]
        generalize al (aR text out (at_ : Int) again7 bA) N = again
        unfold aR
        simp only [fY]
        rw [nJ (by omega)]
        rfl
  exact key aq 0 (by omega) (by rw [pS]; omega) (fun i _ h => by omega)
theorem KK (text : Str) (hlen : text.length ≤ 65536) : ∀ (N f at_ : Nat) (out : List Tok), at_ ≤ text.length → text.length - at_ < N → text.length - at_ < f → out.length ≤ at_ →
    al (eP text) N (out, (at_ : Int)) = some (uE out (gC f at_ (text.drop at_))) := by
  intro N
  induction N with
  | zero => intro f at_ out _ h; omega
  | succ N ih =>
    intro f at_ out hat hN hf hout
    obtain ⟨f, rfl⟩ : ∃ g, f = g + 1 := ⟨f - 1, by omega⟩
    rw [ao]
    generalize al (eP text) N = again at ih ⊢
    unfold eP
    dsimp only
    cases hd : text.drop at_ with
    | nil =>
      have hge' : at_ = text.length := by
        have := congrArg List.length hd
        simp at this; omega
      subst hge'
      rw [nJ (by omega)]
      simp only [cond_false]
      rw [oL (by simp; omega) (by simp; omega), jW]
      rfl
    | cons c r =>
      obtain ⟨hlt, hget⟩ := Bg hd
      have hdl : (c :: r).length = text.length - at_ := by rw [← hd]; simp
      have hbyte : gP text (at_ : Int) = (c.toNat : Int) := by rw [xT _ _ hlt, hget]
      have next : ∀ (k : Nat) (out' : List Tok), 1 ≤ k → k ≤ (c :: r).length → out'.length ≤ at_ + k →
          again (out', ((at_ + k : Nat) : Int)) = some (uE out' (gC f (at_ + k) ((c :: r).drop k))) := by
        intro k out' h1 h2 h3
        rw [ih f (at_ + k) out' (by omega) (by omega) (by omega) h3]
        have e2 : text.drop (at_ + k) = (c :: r).drop k := by rw [← hd, List.drop_drop]
        rw [e2]
      rw [kc (by omega)]
      simp only [cond_true, kR (show (0 : Int) ≤ (at_ : Int) by omega) (show (at_ : Int) < (text.length : Int) by omega), jW, hbyte, sH, fS]
      have h35 : ((c.toNat : Int) == 35) = (c == 35) := by
        rw [show ((35 : Int) = ((35 : UInt8).toNat : Int)) from rfl]; exact q9 c 35
      rw [h35]
      cases hb : dP c
      · have hk0 : (kindOf c == 0) = false := by
          unfold kindOf; rw [hb]; cases cM c <;> cases isDigit c <;> rfl
        simp only [hk0, cond_false]
        cases hc : (c == 35)
        · simp only [cond_false]
          simp only [gC, step, hb, hc, Bool.false_eq_true, if_false]
          cases hlet : cM c
          · have hk1 : (kindOf c == 1) = false := by
              unfold kindOf; rw [hb, hlet]; cases isDigit c <;> rfl
            simp only [hk1, cond_false, Bool.false_eq_true, if_false]
            rw [sV]
            cases hdig : isDigit c
            · simp only [cond_false, Bool.false_eq_true, if_false]
              rw [Em, fS, PQ hd hat hlen out again (by omega)]
              cases hsg : (ct (c :: r) == [])
              · simp only [Bool.false_eq_true, if_false]
                obtain ⟨h1, h2, _⟩ := oK hsg
                have h3 := AR _ h1
                have h4 := h2.length_le
                rw [next _ _ h3 h4 (by simp; omega)]
                cases gC f (at_ + (ct (c :: r)).length) ((c :: r).drop (ct (c :: r)).length) <;> simp [uE]
              · simp only [if_true]; rfl
            · simp only [cond_true, if_true]
              rw [PK hd hat hlen out again (by omega)]
              cases hbig : big (di 0 ((c :: r).takeWhile isDigit))
              · simp only [Bool.false_eq_true, if_false]
                have h3 := gK (s := r) hdig
                have h4 := kM isDigit (c :: r)
                rw [next _ _ h3 h4 (by simp; omega)]
                cases gC f (at_ + ((c :: r).takeWhile isDigit).length) ((c :: r).drop ((c :: r).takeWhile isDigit).length) <;> simp [uE]
              · simp only [if_true]; rfl
          · have hk1 : (kindOf c == 1) = true := by
              unfold kindOf; rw [hb, hlet]; rfl
            simp only [hk1, cond_true, if_true]
            rw [PG hd hat hlen out again (by omega)]
            by_cases h32 : 32 < ((c :: r).takeWhile bS).length
            · rw [if_pos h32, if_pos h32]; rfl
            · rw [if_neg h32, if_neg h32]
              have h3 := gK (s := r) (kU hlet)
              have h4 := kM bS (c :: r)
              rw [next _ _ h3 h4 (by simp; omega)]
              simp only []
              cases gC f (at_ + ((c :: r).takeWhile bS).length) ((c :: r).drop ((c :: r).takeWhile bS).length) <;> simp [uE]
        · simp only [cond_true]
          rw [PS hd hat hlen out again]
          have hpos : 1 ≤ ((c :: r).takeWhile nB).length := gK (by
            have : c = 35 := by simpa using hc
            subst this; decide)
          have hle := kM nB (c :: r)
          rw [next _ _ hpos hle (by omega)]
          have hst : step (c :: r) = .skip ((c :: r).takeWhile nB).length := by simp [step, hb, hc]
          simp only [gC, hst]
      · have hk0 : (kindOf c == 0) = true := by unfold kindOf; rw [hb]; rfl
        simp only [hk0, cond_true]
        rw [w64 (by omega)]
        have e1 : ((at_ : Int) + 1) = ((at_ + 1 : Nat) : Int) := by omega
        rw [e1, next 1 out (by omega) (by omega) (by omega)]
        have hst : step (c :: r) = .skip 1 := by simp [step, hb]
        simp only [gC, hst]
theorem ue (text : Str) : dm text = some (tokens text) := by
  unfold dm tokens
  by_cases h : 65536 < text.length
  · rw [kc (by omega), cond_true, if_pos h]
  · rw [nJ (by omega), cond_false, if_neg h]
    have := KK text (by omega) aq (text.length + 1) 0 [] (by omega) (by rw [pS]; omega) (by omega) (by simp)
    simp only [List.drop_zero] at this
    have h0 : ((0 : Nat) : Int) = 0 := rfl
    rw [h0] at this
    rw [this]
    cases gC (text.length + 1) 0 text <;> rfl
abbrev Res := Except (Int × Int) (List Tok)
theorem step_skip {c : UInt8} {s : Str} {k : Nat} (h : step (c :: s) = .skip k) : 1 ≤ k ∧ k ≤ (c :: s).length := by
  cases hb : dP c
  · cases hc : (c == 35)
    · simp only [step, hb, hc, Bool.false_eq_true, if_false] at h
      repeat (split at h <;> try (cases h))
    · simp only [step, hb, hc, Bool.false_eq_true, if_false, if_true, Step.skip.injEq] at h
      subst h
      have : c = 35 := by simpa using hc
      subst this
      exact ⟨gK (by decide), kM _ _⟩
  · simp only [step, hb, if_true, Step.skip.injEq] at h
    subst h; simp
theorem tR {c : UInt8} {s : Str} {k : Int} {t : Str} {n : Int} (h : step (c :: s) = .tok k t n) : dP c = false ∧ (c == 35) = false ∧ 1 ≤ t.length ∧ t <+: (c :: s) := by
  cases hb : dP c
  · cases hc : (c == 35)
    · obtain ⟨h1, h2⟩ := step_take hb hc h; exact ⟨rfl, rfl, h1, h2⟩
    · simp only [step, hb, hc, Bool.false_eq_true, if_false, if_true] at h; cases h
  · simp only [step, hb, if_true] at h; cases h
noncomputable def lex (s : Str) : Res := gC (s.length + 1) 0 s
theorem He {s : Str} (h : s.length ≤ 65536) : tokens s = res (lex s) := by
  unfold tokens lex; rw [if_neg (by omega)]
theorem lex_ind {P : Str → Prop} (h0 : P [])
    (hs : ∀ c s k, step (c :: s) = .skip k → P ((c :: s).drop k) → P (c :: s))
    (he : ∀ c s e, step (c :: s) = .err e → P (c :: s))
    (ht : ∀ c s k t n, step (c :: s) = .tok k t n → P ((c :: s).drop t.length) → P (c :: s)) : ∀ s, P s := by
  have key : ∀ (m : Nat) (s : Str), s.length < m → P s := by
    intro m
    induction m with
    | zero => intro s h; omega
    | succ m ih =>
      intro s h
      cases s with
      | nil => exact h0
      | cons c s =>
        cases hst : step (c :: s) with
        | skip k =>
          obtain ⟨h1, h2⟩ := step_skip hst
          exact hs c s k hst (ih _ (by simp at *; omega))
        | err e => exact he c s e hst
        | tok k t n =>
          obtain ⟨_, _, h1, h2⟩ := tR hst
          exact ht c s k t n hst (ih _ (by simp at *; omega))
  exact fun s => key _ s (Nat.lt_succ_self _)
/-! what stands behind -/
theorem nj {p : UInt8 → Bool} : ∀ {t : Str}, t.all p = true → t.takeWhile p = t
  | [], _ => rfl
  | c :: t, h => by
    simp only [List.all_cons, Bool.and_eq_true] at h
    rw [List.takeWhile_cons, if_pos h.1, nj h.2]
theorem xF : ∀ g ∈ bA, ct g = g ∧ ∃ c s, g = c :: s ∧ dP c = false ∧ (c == 35) = false ∧ cM c = false ∧ isDigit c = false := by
  intro g hg
  have h1 : ∀ g ∈ bA, ct g = g ∧ (match g with | [] => false | c :: _ => !dP c && !(c == 35) && !cM c && !isDigit c) = true := by decide
  obtain ⟨h1, h2⟩ := h1 g hg
  refine ⟨h1, ?_⟩
  cases g with
  | nil => cases h2
  | cons c s =>
    simp only [Bool.and_eq_true, Bool.not_eq_true'] at h2
    exact ⟨c, s, rfl, h2.1.1.1, h2.1.1.2, h2.1.2, h2.2⟩
theorem step_self {c : UInt8} {s : Str} {k : Int} {t : Str} {n : Int} (h : step (c :: s) = .tok k t n) : step t = .tok k t n ∧ (∃ s', t = c :: s') ∧ (k = 1 ∨ k = 2 ∨ k = 3) ∧ (k ≠ 2 → n = 0) := by
  obtain ⟨hb, hc, ht1, ht2⟩ := tR h
  have hcs : ∃ s', t = c :: s' := by
    cases t with
    | nil => simp at ht1
    | cons d t =>
      obtain ⟨u, hu⟩ := ht2
      simp only [List.cons_append, List.cons.injEq] at hu
      exact ⟨t, by rw [hu.1]⟩
  obtain ⟨s', rfl⟩ := hcs
  simp only [step, hb, hc, Bool.false_eq_true, if_false] at h ⊢
  cases hlet : cM c
  · simp only [hlet, Bool.false_eq_true, if_false] at h ⊢
    cases hdig : isDigit c
    · simp only [hdig, Bool.false_eq_true, if_false] at h ⊢
      cases hsg : (ct (c :: s) == [])
      · simp only [hsg, Bool.false_eq_true, if_false, Step.tok.injEq] at h
        obtain ⟨rfl, h2, rfl⟩ := h
        obtain ⟨hm, _, _⟩ := oK hsg
        rw [h2] at hm
        rw [(xF _ hm).1]
        exact ⟨rfl, ⟨s', rfl⟩, .inr (.inr rfl), fun _ => rfl⟩
      · simp [hsg] at h
    · simp only [hdig, if_true] at h ⊢
      split at h
      · cases h
      · rename_i hbig
        simp only [Step.tok.injEq] at h
        obtain ⟨rfl, h2, rfl⟩ := h
        have hall := jn isDigit (c :: s)
        rw [h2] at hall hbig
        rw [nj hall, h2, if_neg hbig]
        exact ⟨rfl, ⟨s', rfl⟩, .inr (.inl rfl), fun h => absurd rfl h⟩
  · simp only [hlet, if_true] at h ⊢
    split at h
    · cases h
    · rename_i h32
      simp only [Step.tok.injEq] at h
      obtain ⟨rfl, h2, rfl⟩ := h
      have hall := jn bS (c :: s)
      rw [h2] at hall h32
      rw [nj hall, if_neg h32]
      exact ⟨rfl, ⟨s', rfl⟩, .inl rfl, fun _ => rfl⟩
/-! two texts with a line feed between them -/
end Lx
end Go.Proofs.YtpnogcmollnjeaaGreatDoor
namespace Go.Proofs.YtpnogcmollnjeaaGreatDoor
noncomputable def kb : List Str := [[116, 114, 117, 101], [102, 97, 108, 115, 101], [88], [70], [71], [85], [82], [118, 97, 114], [112, 114, 111, 99]]
noncomputable def O0 : List Str := [[], [], [], [43], [45], [42], [45], [61, 61], [33, 61], [60], [60, 61], [62], [62, 61], [116, 114, 117, 101], [102, 97, 108, 115, 101], [33], [38], [124], [45, 62], [60, 45, 62], [88], [70], [71], [85], [82]]
noncomputable def aU (op : Int) : Str := O0.getD op.toNat []
namespace Pa
abbrev Tok := Int × Str × Int × Int
abbrev Out := Except (Int × Int) (Ex × List Tok)
noncomputable def key (s : Str) : Bool := kb.contains s
noncomputable def sgn (t : Tok) : Bool := t.1 == 3 || (t.1 == 1 && key t.2.1)
noncomputable def ops : Nat → List Int
 | 1 => [19]
 | 2 => [18]
 | 3 => [17]
 | 4 => [16]
 | 5 => [23, 24]
 | 6 => [15, 20, 21, 22]
 | 7 => [7, 8, 9, 10, 11, 12]
 | 8 => [3, 4]
 | 9 => [5]
 | 10 => [6]
 | 11 => [13, 14]
 | _ => []
noncomputable def fnd (l : List Int) (t : Tok) : Option Int := bif sgn t then l.find? (fun o => aU o == t.2.1) else none
noncomputable def bF (s : Nat) (t : Tok) : Option Int := fnd (ops s) t
noncomputable def kd : Nat → Nat
 | 6 => 0
 | 10 => 0
 | 1 => 1
 | 2 => 1
 | 5 => 1
 | 7 => 1
 | 3 => 2
 | 4 => 2
 | 8 => 2
 | 9 => 2
 | 11 => 3
 | _ => 4
noncomputable def j8 (s : Nat) : Bool := s == 1 || s == 2 || s == 5 || s == 6 || s == 10
noncomputable def dn (s : Nat) (d : Int) : Int := bif j8 s then d + 1 else d
noncomputable def jj (s : Nat) (d : Int) : Bool := j8 s && decide (320 ≤ d)
noncomputable def nx (s : Nat) : Nat := bif s == 7 then 8 else s
noncomputable def at_ (names : List Str) (v : Str) : Option Nat := names.findIdx? (fun x => v == x)
noncomputable def open_ (t : Tok) : Bool := t.1 == 3 && t.2.1 == [40]
noncomputable def close_ (t : Tok) : Bool := t.1 == 3 && t.2.1 == [41]
noncomputable def oO (t : Tok) : Bool := t.1 == 1 && !key t.2.1
noncomputable def Ot (k : Int) (a : Int) (r : Out) : Out := r.map fun p => (.mk k 0 a [p.1], p.2)
noncomputable def Oo (k : Int) (a : Int) (x : Ex) (r : Out) : Out := r.map fun p => (.mk k 0 a [x, p.1], p.2)
inductive Job where
 | line (s : Nat)
 | loop (s : Nat) (a : Ex)
open Job
inductive P (names : List Str) : Job → Int → List Tok → Out → Prop
 | big {s d t ts} : jj s d = true → P names (line s) d (t :: ts) (.error (9, t.2.2.2))
 | pre {s d t ts k r} : kd s = 0 → jj s d = false → bF s t = some k → P names (line s) (dn s d) ts r → P names (line s) d (t :: ts) (Ot k t.2.2.2 r)
 | other {s d t ts r} : kd s = 0 → jj s d = false → bF s t = none → P names (line (s + 1)) (dn s d) (t :: ts) r → P names (line s) d (t :: ts) r
 | rErr {s d ts e} : kd s = 1 → jj s d = false → P names (line (s + 1)) (dn s d) ts (.error e) → P names (line s) d ts (.error e)
 | rOne {s d ts a t ts'} : kd s = 1 → jj s d = false → P names (line (s + 1)) (dn s d) ts (.ok (a, t :: ts')) → bF s t = none → P names (line s) d ts (.ok (a, t :: ts'))
 | rTwo {s d ts a t ts' k r} : kd s = 1 → jj s d = false → P names (line (s + 1)) (dn s d) ts (.ok (a, t :: ts')) → bF s t = some k → P names (line (nx s)) (dn s d) ts' r → P names (line s) d ts (Oo k t.2.2.2 a r)
 | lErr {s d ts e} : kd s = 2 → P names (line (s + 1)) d ts (.error e) → P names (line s) d ts (.error e)
 | lGo {s d ts a ts' r} : kd s = 2 → P names (line (s + 1)) d ts (.ok (a, ts')) → P names (loop s a) d ts' r → P names (line s) d ts r
 | lpEnd {s a d t ts} : bF s t = none → P names (loop s a) d (t :: ts) (.ok (a, t :: ts))
 | lpErr {s a d t ts k e} : bF s t = some k → P names (line (s + 1)) d ts (.error e) → P names (loop s a) d (t :: ts) (.error e)
 | lpGo {s a d t ts k b ts' r} : bF s t = some k → P names (line (s + 1)) d ts (.ok (b, ts')) → P names (loop s (.mk k 0 t.2.2.2 [a, b])) d ts' r → P names (loop s a) d (t :: ts) r
 | oWord {s d t ts k} : kd s = 3 → bF s t = some k → P names (line s) d (t :: ts) (.ok (.mk k 0 t.2.2.2 [], ts))
 | oNum {s d t ts} : kd s = 3 → bF s t = none → (t.1 == 2) = true → P names (line s) d (t :: ts) (.ok (.mk 1 t.2.2.1 t.2.2.2 [], ts))
 | oVar {s d t ts i} : kd s = 3 → bF s t = none → (t.1 == 2) = false → oO t = true → at_ names t.2.1 = some i → P names (line s) d (t :: ts) (.ok (.mk 2 (i : Int) t.2.2.2 [], ts))
 | oName {s d t ts} : kd s = 3 → bF s t = none → (t.1 == 2) = false → oO t = true → at_ names t.2.1 = none → P names (line s) d (t :: ts) (.error (3, t.2.2.2))
 | oOpen {s d t ts a c ts'} : kd s = 3 → bF s t = none → (t.1 == 2) = false → oO t = false → open_ t = true → P names (line 1) d ts (.ok (a, c :: ts')) → close_ c = true → P names (line s) d (t :: ts) (.ok (a, ts'))
 | oErr {s d t ts e} : kd s = 3 → bF s t = none → (t.1 == 2) = false → oO t = false → open_ t = true → P names (line 1) d ts (.error e) → P names (line s) d (t :: ts) (.error e)
 | oClose {s d t ts a c ts'} : kd s = 3 → bF s t = none → (t.1 == 2) = false → oO t = false → open_ t = true → P names (line 1) d ts (.ok (a, c :: ts')) → close_ c = false → P names (line s) d (t :: ts) (.error (2, c.2.2.2))
 | oForm {s d t ts} : kd s = 3 → bF s t = none → (t.1 == 2) = false → oO t = false → open_ t = false → P names (line s) d (t :: ts) (.error (2, t.2.2.2))
theorem iO {s : Nat} {d : Int} (h : jj s d = true) : kd s = 0 ∨ kd s = 1 := by
 unfold jj j8 at h
 simp only [Bool.and_eq_true, Bool.or_eq_true, beq_iff_eq] at h
 rcases h.1 with (((rfl | rfl) | rfl) | rfl) | rfl <;> simp [kd]
theorem P.det {names : List Str} {j : Job} {d : Int} {ts : List Tok} {r r' : Out} (h : P names j d ts r) (h' : P names j d ts r') : r = r' := by
 induction h generalizing r' with
 | big h0 => have := iO h0; cases h' <;> simp_all
 | pre h0 h1 h2 h3 ih => cases h' <;> simp_all <;> (rename_i h4; rw [ih h4])
 | other h0 h1 h2 h3 ih =>
  cases h' with
  | other _ _ _ h => exact ih h
  | _ => simp_all
 | rErr h0 h1 h2 ih =>
  cases h' with
  | rErr _ _ h => exact ih h
  | rOne _ _ h => cases ih h
  | rTwo _ _ h => cases ih h
  | _ => simp_all
 | rOne h0 h1 h2 h3 ih =>
  cases h' with
  | rErr _ _ h => cases ih h
  | rOne _ _ h => exact ih h
  | rTwo _ _ h h4 => cases ih h; simp_all
  | _ => simp_all
 | rTwo h0 h1 h2 h3 h4 ih ih2 =>
  cases h' with
  | rErr _ _ h => cases ih h
  | rOne _ _ h => cases ih h; simp_all
  | rTwo _ _ h h5 h6 => cases ih h; rw [h3] at h5; cases h5; rw [ih2 h6]
  | _ => simp_all
 | lErr h0 h1 ih =>
  cases h' with
  | lErr _ h => exact ih h
  | lGo _ h => cases ih h
  | big h => have := iO h; simp_all
  | _ => simp_all
 | lGo h0 h1 h2 ih ih2 =>
  cases h' with
  | lErr _ h => cases ih h
  | lGo _ h h3 => cases ih h; exact ih2 h3
  | big h => have := iO h; simp_all
  | _ => simp_all
 | lpEnd h0 => cases h' <;> simp_all
 | lpErr h0 h1 ih =>
  cases h' with
  | lpErr _ h => exact ih h
  | lpGo _ h => cases ih h
  | _ => simp_all
 | lpGo h0 h1 h2 ih ih2 =>
  cases h' with
  | lpErr _ h => cases ih h
  | lpGo h4 h h3 => cases ih h; rw [h0] at h4; cases h4; exact ih2 h3
  | _ => simp_all
 | oOpen h0 h1 h2 h3 h4 h5 h6 ih =>
  cases h' with
  | oOpen _ _ _ _ _ h _ => cases ih h; rfl
  | oErr _ _ _ _ _ h => cases ih h
  | oClose _ _ _ _ _ h h7 => cases ih h; simp_all
  | big h => have := iO h; simp_all
  | _ => simp_all
 | oErr h0 h1 h2 h3 h4 h5 ih =>
  cases h' with
  | oOpen _ _ _ _ _ h _ => cases ih h
  | oErr _ _ _ _ _ h => exact ih h
  | oClose _ _ _ _ _ h h7 => cases ih h
  | big h => have := iO h; simp_all
  | _ => simp_all
 | oClose h0 h1 h2 h3 h4 h5 h6 ih =>
  cases h' with
  | oOpen _ _ _ _ _ h _ => cases ih h; simp_all
  | oErr _ _ _ _ _ h => cases ih h
  | oClose _ _ _ _ _ h h7 => cases ih h; rfl
  | big h => have := iO h; simp_all
  | _ => simp_all
 | oWord h0 h1 => cases h' <;> first | (rename_i h; have := iO h; simp_all; done) | simp_all
 | oNum h0 h1 h2 => cases h' <;> first | (rename_i h; have := iO h; simp_all; done) | simp_all
 | oVar h0 h1 h2 h3 h4 => cases h' <;> first | (rename_i h; have := iO h; simp_all; done) | simp_all
 | oName h0 h1 h2 h3 h4 => cases h' <;> first | (rename_i h; have := iO h; simp_all; done) | simp_all
 | oForm h0 h1 h2 h3 h4 => cases h' <;> first | (rename_i h; have := iO h; simp_all; done) | simp_all
noncomputable def Ends : List Tok → Prop
 | [] => False
 | t :: ts => Ends ts ∨ (ts = [] ∧ t.1 = 4)
theorem Ends.tail {t : Tok} {ts : List Tok} (h : Ends (t :: ts)) (h4 : t.1 ≠ 4) : Ends ts := by
 rcases h with h | ⟨_, h⟩
 ·exact h
 ·exact absurd h h4
theorem Ends.ne {ts : List Tok} (h : Ends ts) : ∃ t r, ts = t :: r := by
 cases ts with
 | nil => exact h.elim
 | cons t r => exact ⟨t, r, rfl⟩
theorem OV {t : Tok} (h : sgn t = true) : t.1 ≠ 4 := by
 unfold sgn at h
 intro h4
 rw [h4] at h; simp at h
theorem NM {l : List Int} {t : Tok} {k : Int} (h : fnd l t = some k) : sgn t = true := by
 unfold fnd at h
 cases hs : sgn t
 ·rw [hs] at h; cases h
 ·rfl
theorem OI {l : List Int} {t : Tok} {k : Int} (h : fnd l t = some k) : t.1 ≠ 4 := OV (NM h)
theorem qN {s : Nat} {t : Tok} {k : Int} (h : bF s t = some k) : t.1 ≠ 4 := OI h
noncomputable def shorter : Job → Nat → Nat → Prop
 | line _, a, b => a < b
 | loop _ _, a, b => a ≤ b
theorem P.ends {names : List Str} {j : Job} {d : Int} {ts : List Tok} {r : Out} (h : P names j d ts r) : Ends ts → ∀ p, r = .ok p → Ends p.2 ∧ shorter j p.2.length ts.length := by
 induction h with
 | big => intro _ p h; cases h
 | @pre s d t ts k r h0 h1 h2 h3 ih =>
  intro he p h
  cases r with
  | error e => cases h
  | ok q =>
   obtain ⟨i1, i2⟩ := ih (he.tail (qN h2)) q rfl
   cases h
   refine ⟨i1, ?_⟩
   simp only [shorter, List.length_cons] at *; omega
 | other h0 h1 h2 h3 ih => intro he p h; exact ih he p h
 | rErr => intro _ p h; cases h
 | rOne h0 h1 h2 h3 ih => intro he p h; exact ih he p h
 | @rTwo s d ts a t ts' k r h0 h1 h2 h3 h4 ih ih2 =>
  intro he p h
  cases r with
  | error e => cases h
  | ok q =>
   obtain ⟨i1, i2⟩ := ih he _ rfl
   obtain ⟨i3, i4⟩ := ih2 (i1.tail (qN h3)) q rfl
   cases h
   refine ⟨i3, ?_⟩
   simp only [shorter, List.length_cons] at *; omega
 | lErr => intro _ p h; cases h
 | lGo h0 h1 h2 ih ih2 =>
  intro he p h
  obtain ⟨i1, i2⟩ := ih he _ rfl
  obtain ⟨i3, i4⟩ := ih2 i1 p h
  refine ⟨i3, ?_⟩
  simp only [shorter] at *; omega
 | lpEnd h0 => intro he p h; cases h; exact ⟨he, Nat.le_refl _⟩
 | lpErr => intro _ p h; cases h
 | lpGo h0 h1 h2 ih ih2 =>
  intro he p h
  obtain ⟨i1, i2⟩ := ih (he.tail (qN h0)) _ rfl
  obtain ⟨i3, i4⟩ := ih2 i1 p h
  refine ⟨i3, ?_⟩
  simp only [shorter, List.length_cons] at *; omega
 | oWord h0 h1 => intro he p h; cases h; exact ⟨he.tail (qN h1), Nat.lt_succ_self _⟩
 | oNum h0 h1 h2 => intro he p h; cases h; exact ⟨he.tail (by have := beq_iff_eq.1 h2; omega), Nat.lt_succ_self _⟩
 | oVar h0 h1 h2 h3 h4 => intro he p h; cases h; exact ⟨he.tail (by unfold oO at h3; simp only [Bool.and_eq_true, beq_iff_eq] at h3; omega), Nat.lt_succ_self _⟩
 | oName => intro _ p h; cases h
 | oOpen h0 h1 h2 h3 h4 h5 h6 ih =>
  intro he p h
  cases h
  obtain ⟨i1, i2⟩ := ih (he.tail (by unfold open_ at h4; simp only [Bool.and_eq_true, beq_iff_eq] at h4; omega)) _ rfl
  refine ⟨i1.tail (by unfold close_ at h6; simp only [Bool.and_eq_true, beq_iff_eq] at h6; omega), ?_⟩
  simp only [shorter, List.length_cons] at *; omega
 | oErr => intro _ p h; cases h
 | oClose => intro _ p h; cases h
 | oForm => intro _ p h; cases h
theorem P.err {names : List Str} {j : Job} {d : Int} {ts : List Tok} {r : Out} (h : P names j d ts r) : ∀ e, r = .error e → e.1 = 9 ∨ e.1 = 2 ∨ e.1 = 3 := by
 induction h with
 | big => intro e h; cases h; exact .inl rfl
 | @pre s d t ts k r h0 h1 h2 h3 ih =>
  intro e h
  cases r with
  | error e' => cases h; exact ih _ rfl
  | ok q => cases h
 | other h0 h1 h2 h3 ih => exact ih
 | rErr _ _ _ ih => exact ih
 | rOne => intro e h; cases h
 | @rTwo s d ts a t ts' k r h0 h1 h2 h3 h4 ih ih2 =>
  intro e h
  cases r with
  | error e' => cases h; exact ih2 _ rfl
  | ok q => cases h
 | lErr _ _ ih => exact ih
 | lGo _ _ _ _ ih => exact ih
 | lpEnd => intro e h; cases h
 | lpErr _ _ ih => exact ih
 | lpGo _ _ _ _ ih => exact ih
 | oWord => intro e h; cases h
 | oNum => intro e h; cases h
 | oVar => intro e h; cases h
 | oName => intro e h; cases h; exact .inr (.inr rfl)
 | oOpen => intro e h; cases h
 | oErr _ _ _ _ _ _ ih => exact ih
 | oClose => intro e h; cases h; exact .inr (.inl rfl)
 | oForm => intro e h; cases h; exact .inr (.inl rfl)
end Pa
end Go.Proofs.YtpnogcmollnjeaaGreatDoor
namespace Go.Proofs.YtpnogcmollnjeaaGreatDoor
namespace Sy
open Pa
abbrev Cmd := Int × Ex × List (Int × Ex)
abbrev Mdl := List Str × List (Int × Int) × List Int × List Str × List Cmd
abbrev Err := Int × Int
noncomputable def q6 (names : List Str) (ts : List Tok) : Out :=
 open Classical in if h : ∃ r, P names (.line 1) 0 ts r then Classical.choose h else .error (2, 0)
theorem KC {names : List Str} {ts : List Tok} {r : Out} (h : P names (.line 1) 0 ts r) : q6 names ts = r := by
 unfold q6
 rw [dif_pos ⟨r, h⟩]
 exact (Classical.choose_spec (⟨r, h⟩ : ∃ r, P names (.line 1) 0 ts r)).det h
theorem Jq {names : List Str} {ts : List Tok} {p : Ex × List Tok} (h : q6 names ts = .ok p) : P names (.line 1) 0 ts (.ok p) := by
 unfold q6 at h
 split at h
 ·rename_i hx
  have := Classical.choose_spec hx
  rw [h] at this; exact this
 ·cases h
noncomputable def isT (k : Int) (x : Str) (t : Tok) : Bool := (t.1 == k) && (t.2.1 == x)
noncomputable def vw : List Tok → Int
 | [] => 0
 | t :: _ => t.2.2.2
noncomputable def isH (k : Int) (x : Str) : List Tok → Bool
 | [] => false
 | t :: _ => isT k x t
noncomputable def aV (x : Str) (ts : List Tok) : Except Err (List Tok) := match ts with
 | [] => .error (2, 0)
 | t :: r => bif isT 3 x t then .ok r else .error (2, t.2.2.2)
noncomputable def cS (full : Bool) (names procs : List Str) (ts : List Tok) : Except Err (Str × List Tok) := match ts with
 | [] => .error (2, 0)
 | t :: r => bif t.1 != 1 then .error (2, t.2.2.2) else bif key t.2.1 || names.contains t.2.1 || procs.contains t.2.1 then .error (3, t.2.2.2) else bif full then .error (9, t.2.2.2) else .ok (t.2.1, r)
noncomputable def jG (neg : Bool) (ts : List Tok) : Except Err (Int × List Tok) := match ts with
 | [] => .error (2, 0)
 | t :: r => bif t.1 != 2 then .error (2, t.2.2.2) else .ok (bif neg then IntKind.i64.wrap (0 - t.2.2.1) else t.2.2.1, r)
noncomputable def db (ts : List Tok) : Except Err (Int × List Tok) := bif isH 3 [45] ts then jG true ts.tail else jG false ts
noncomputable def jU (lo hi : Int) : Bool := !(decide (hi < lo)) && !(decide (lo < -1073741824)) && !(decide (1073741824 < hi)) && !(decide (65535 < IntKind.i64.wrap (hi - lo)))
noncomputable def jg (m : Mdl) (ts : List Tok) : Except Err (Mdl × List Tok) :=
 match cS (decide (16 ≤ (m.1.length : Int))) m.1 m.2.2.2.1 ts with
 | .error e => .error e
 | .ok (name, ts1) => match db ts1 with
  | .error e => .error e
  | .ok (lo, ts2) => match db ts2 with
   | .error e => .error e
   | .ok (hi, ts3) => match db ts3 with
    | .error e => .error e
    | .ok (first, ts4) => match aV [59] ts4 with
     | .error e => .error e
     | .ok ts5 => bif !(jU lo hi) || decide (first < lo) || decide (hi < first) then .error (5, vw ts1) else .ok ((m.1 ++ [name], m.2.1 ++ [(lo, hi)], m.2.2.1 ++ [first], m.2.2.2.1, m.2.2.2.2), ts5)
noncomputable def bW (want : Int) (names : List Str) (ts : List Tok) : Except Err (Ex × List Tok) :=
 match q6 names ts with
 | .error e => .error e
 | .ok (x, r) => bif (rt x).2.1 != 0 then .error ((rt x).2.1, (rt x).2.2) else bif (rt x).1 != want then .error (4, x.at_) else .ok (x, r)
noncomputable def cn (names : List Str) (v : Str) : Int := match at_ names v with
 | some i => (i : Int)
 | none => -1
noncomputable def nH (acc : List (Int × Ex)) (i : Int) : Bool := acc.any (fun s => s.1 == i)
noncomputable def cD (names : List Str) : Nat → List (Int × Ex) → List Tok → Except Err (List (Int × Ex) × List Tok)
 | 0, _, _ => .error (2, 0)
 | f + 1, acc, ts => match ts with
  | [] => .error (2, 0)
  | t :: r => bif t.1 != 1 then .error (2, t.2.2.2) else bif decide (cn names t.2.1 < 0) || nH acc (cn names t.2.1) then .error (3, t.2.2.2) else
   match aV [61] r with
   | .error e => .error e
   | .ok r1 => match bW 1 names r1 with
    | .error e => .error e
    | .ok (x, r2) => bif isH 3 [44] r2 then cD names f (acc ++ [(cn names t.2.1, x)]) r2.tail else .ok (acc ++ [(cn names t.2.1, x)], r2)
noncomputable def gF (m : Mdl) (ts : List Tok) : Except Err (Mdl × List Tok) :=
 bif decide (256 ≤ (m.2.2.2.2.length : Int)) then .error (9, vw ts) else
 match bW 2 m.1 ts with
 | .error e => .error e
 | .ok (g, r1) => match aV [58] r1 with
  | .error e => .error e
  | .ok r2 => match cD m.1 (r2.length + 1) [] r2 with
   | .error e => .error e
   | .ok (sets, r3) => match aV [59] r3 with
    | .error e => .error e
    | .ok r4 => .ok ((m.1, m.2.1, m.2.2.1, m.2.2.2.1, m.2.2.2.2 ++ [(IntKind.i64.wrap ((m.2.2.2.1.length : Int) - 1), g, sets)]), r4)
noncomputable def fN : Nat → Mdl → List Tok → Except Err (Mdl × List Tok)
 | 0, _, _ => .error (2, 0)
 | f + 1, m, ts => bif isH 3 [125] ts then .ok (m, ts.tail) else match gF m ts with
  | .error e => .error e
  | .ok (m', r) => fN f m' r
noncomputable def kO (m : Mdl) (ts : List Tok) : Except Err (Mdl × List Tok) :=
 match cS false m.1 m.2.2.2.1 ts with
 | .error e => .error e
 | .ok (name, r1) => match aV [123] r1 with
  | .error e => .error e
  | .ok r2 => fN (r2.length + 1) (m.1, m.2.1, m.2.2.1, m.2.2.2.1 ++ [name], m.2.2.2.2) r2
noncomputable def iH : Nat → Mdl → List Tok → Except Err Mdl
 | 0, _, _ => .error (2, 0)
 | f + 1, m, ts => match ts with
  | [] => .error (2, 0)
  | t :: r => bif t.1 == 4 then (bif m.1.isEmpty then .error (2, t.2.2.2) else .ok m)
   else bif isT 1 [118, 97, 114] t then (match jg m r with
    | .error e => .error e
    | .ok (m', r') => iH f m' r')
   else bif isT 1 [112, 114, 111, 99] t then (match kO m r with
    | .error e => .error e
    | .ok (m', r') => iH f m' r')
   else .error (2, t.2.2.2)
noncomputable def sys (l : List Tok) : Except Err Mdl := iH (l.length + 1) ([], [], [], [], []) l
noncomputable def xr : Except Err Mdl → Mdl × Int × Int
 | .ok m => (m, 0, 0)
 | .error e => (([], [], [], [], []), e.1, e.2)
/-! what is read is shorter, and ends as it ended -/
noncomputable def cj (ts ts' : List Tok) : Prop := Pa.Ends ts' ∧ ts'.length < ts.length
theorem Da {k : Int} {x : Str} {t : Tok} (h : isT k x t = true) (hk : k ≠ 4) : t.1 ≠ 4 := by
 unfold isT at h
 simp only [Bool.and_eq_true, beq_iff_eq] at h
 omega
theorem gi {x : Str} {ts r : List Tok} (he : Pa.Ends ts) (h : aV x ts = .ok r) : cj ts r := by
 obtain ⟨t, ts', rfl⟩ := he.ne
 simp only [aV] at h
 cases hc : isT 3 x t
 ·rw [hc] at h; cases h
 ·rw [hc] at h; cases h
  exact ⟨he.tail (Da hc (by decide)), Nat.lt_succ_self _⟩
theorem xo {full : Bool} {names procs : List Str} {ts : List Tok} {p : Str × List Tok} (he : Pa.Ends ts) (h : cS full names procs ts = .ok p) :
  cj ts p.2 ∧ key p.1 = false ∧ names.contains p.1 = false ∧ procs.contains p.1 = false ∧ full = false := by
 obtain ⟨t, ts', rfl⟩ := he.ne
 simp only [cS] at h
 cases h1 : (t.1 != 1)
 ·rw [h1] at h
  simp only [cond_false] at h
  cases h2 : (key t.2.1 || names.contains t.2.1 || procs.contains t.2.1)
  ·rw [h2] at h
   simp only [cond_false] at h
   cases full
   ·cases h
    simp only [Bool.or_eq_false_iff] at h2
    have : t.1 = 1 := by simpa using h1
    exact ⟨⟨he.tail (by omega), Nat.lt_succ_self _⟩, h2.1.1, h2.1.2, h2.2, rfl⟩
   ·cases h
  ·rw [h2] at h; cases h
 ·rw [h1] at h; cases h
theorem C9 {neg : Bool} {ts : List Tok} {p : Int × List Tok} (he : Pa.Ends ts) (h : jG neg ts = .ok p) : cj ts p.2 := by
 obtain ⟨t, ts', rfl⟩ := he.ne
 simp only [jG] at h
 cases h1 : (t.1 != 2)
 ·rw [h1] at h
  cases h
  have : t.1 = 2 := by simpa using h1
  exact ⟨he.tail (by omega), Nat.lt_succ_self _⟩
 ·rw [h1] at h; cases h
theorem ij {k : Int} {x : Str} {ts : List Tok} (he : Pa.Ends ts) (hk : k ≠ 4) (h : isH k x ts = true) : Pa.Ends ts.tail ∧ ts.tail.length + 1 = ts.length := by
 obtain ⟨t, ts', rfl⟩ := he.ne
 exact ⟨he.tail (Da h hk), rfl⟩
theorem y7 {ts : List Tok} {p : Int × List Tok} (he : Pa.Ends ts) (h : db ts = .ok p) : cj ts p.2 := by
 unfold db at h
 cases hc : isH 3 [45] ts
 ·rw [hc] at h; exact C9 he h
 ·rw [hc] at h
  obtain ⟨h1, h2⟩ := ij he (by decide) hc
  obtain ⟨h3, h4⟩ := C9 h1 h
  exact ⟨h3, by omega⟩
theorem jJ {want : Int} {names : List Str} {ts : List Tok} {p : Ex × List Tok} (he : Pa.Ends ts) (h : bW want names ts = .ok p) :
  cj ts p.2 ∧ P names (.line 1) 0 ts (.ok p) ∧ (rt p.1).2.1 = 0 ∧ (rt p.1).1 = want := by
 unfold bW at h
 cases hr : q6 names ts with
 | error e => rw [hr] at h; cases h
 | ok q =>
  obtain ⟨x, r⟩ := q
  rw [hr] at h
  simp only at h
  cases h1 : ((rt x).2.1 != 0)
  ·rw [h1] at h
   simp only [cond_false] at h
   cases h2 : ((rt x).1 != want)
   ·rw [h2] at h
    cases h
    have hp := Jq hr
    exact ⟨hp.ends he _ rfl, hp, by simpa using h1, by simpa using h2⟩
   ·rw [h2] at h; cases h
  ·rw [h1] at h; cases h
theorem cj.trans {a b c : List Tok} (h : cj a b) (k : cj b c) : cj a c := ⟨k.1, Nat.lt_trans k.2 h.2⟩
theorem Ed {names : List Str} : ∀ (f : Nat) (acc : List (Int × Ex)) (ts : List Tok) (p : List (Int × Ex) × List Tok), Pa.Ends ts → cD names f acc ts = .ok p → cj ts p.2 := by
 intro f
 induction f with
 | zero => intro _ _ _ _ h; simp [cD] at h
 | succ f ih =>
  intro acc ts p he h
  obtain ⟨t, r, rfl⟩ := he.ne
  simp only [cD] at h
  cases h1 : (t.1 != 1)
  case true => rw [h1] at h; cases h
  rw [h1] at h
  simp only [cond_false] at h
  cases h2 : (decide (cn names t.2.1 < 0) || nH acc (cn names t.2.1))
  case true => rw [h2] at h; cases h
  rw [h2] at h
  simp only [cond_false] at h
  have ht : t.1 = 1 := by simpa using h1
  have he1 := he.tail (by omega)
  cases h3 : aV [61] r with
  | error e => rw [h3] at h; cases h
  | ok r1 =>
   rw [h3] at h
   simp only at h
   have s1 := gi he1 h3
   cases h4 : bW 1 names r1 with
   | error e => rw [h4] at h; cases h
   | ok q =>
    obtain ⟨x, r2⟩ := q
    rw [h4] at h
    simp only at h
    have s2 : cj r1 r2 := (jJ s1.1 h4).1
    have s12 : cj (t :: r) r2 := ⟨s2.1, by have := s1.2; have := s2.2; simp only [List.length_cons]; omega⟩
    cases h5 : isH 3 [44] r2
    ·rw [h5] at h
     cases h
     exact s12
    ·rw [h5] at h
     simp only [cond_true] at h
     obtain ⟨e1, e2⟩ := ij s2.1 (by decide) h5
     have := ih _ _ _ e1 h
     exact ⟨this.1, by have := this.2; have := s12.2; omega⟩
theorem EZ {m : Mdl} {ts : List Tok} {p : Mdl × List Tok} (he : Pa.Ends ts) (h : jg m ts = .ok p) : cj ts p.2 ∧
  ∃ name lo hi first, p.1 = (m.1 ++ [name], m.2.1 ++ [(lo, hi)], m.2.2.1 ++ [first], m.2.2.2.1, m.2.2.2.2) ∧ jU lo hi = true ∧ lo ≤ first ∧ first ≤ hi ∧ m.1.length < 16 ∧ m.1.contains name = false := by
 unfold jg at h
 cases h1 : cS (decide (16 ≤ (m.1.length : Int))) m.1 m.2.2.2.1 ts with
 | error e => rw [h1] at h; cases h
 | ok q1 =>
  obtain ⟨name, ts1⟩ := q1
  rw [h1] at h
  simp only at h
  obtain ⟨s1, _, hnm, _, hfull⟩ := xo he h1
  cases h2 : db ts1 with
  | error e => rw [h2] at h; cases h
  | ok q2 =>
   obtain ⟨lo, ts2⟩ := q2
   rw [h2] at h
   simp only at h
   have s2 := y7 s1.1 h2
   cases h3 : db ts2 with
   | error e => rw [h3] at h; cases h
   | ok q3 =>
    obtain ⟨hi, ts3⟩ := q3
    rw [h3] at h
    simp only at h
    have s3 := y7 s2.1 h3
    cases h4 : db ts3 with
    | error e => rw [h4] at h; cases h
    | ok q4 =>
     obtain ⟨first, ts4⟩ := q4
     rw [h4] at h
     simp only at h
     have s4 := y7 s3.1 h4
     cases h5 : aV [59] ts4 with
     | error e => rw [h5] at h; cases h
     | ok ts5 =>
      rw [h5] at h
      simp only at h
      have s5 := gi s4.1 h5
      cases h6 : (!(jU lo hi) || decide (first < lo) || decide (hi < first))
      ·rw [h6] at h
       cases h
       simp only [Bool.or_eq_false_iff, decide_eq_false_iff_not, Bool.not_eq_false'] at h6
       simp only [decide_eq_false_iff_not] at hfull
       exact ⟨(((s1.trans s2).trans s3).trans s4).trans s5, name, lo, hi, first, rfl, h6.1.1, by omega, by omega, by omega, hnm⟩
      ·rw [h6] at h; cases h
theorem Ab {m : Mdl} {ts : List Tok} {p : Mdl × List Tok} (he : Pa.Ends ts) (h : gF m ts = .ok p) : cj ts p.2 ∧
  ∃ g r1 r2 sets r3, m.2.2.2.2.length < 256 ∧ bW 2 m.1 ts = .ok (g, r1) ∧ Pa.Ends r2 ∧ cD m.1 (r2.length + 1) [] r2 = .ok (sets, r3) ∧
   p.1 = (m.1, m.2.1, m.2.2.1, m.2.2.2.1, m.2.2.2.2 ++ [(IntKind.i64.wrap ((m.2.2.2.1.length : Int) - 1), g, sets)]) ∧ aV [58] r1 = .ok r2 ∧ aV [59] r3 = .ok p.2 := by
 unfold gF at h
 cases h0 : decide (256 ≤ (m.2.2.2.2.length : Int))
 case true => rw [h0] at h; cases h
 rw [h0] at h
 simp only [cond_false] at h
 simp only [decide_eq_false_iff_not] at h0
 cases h1 : bW 2 m.1 ts with
 | error e => rw [h1] at h; cases h
 | ok q1 =>
  obtain ⟨g, r1⟩ := q1
  rw [h1] at h
  simp only at h
  have s1 := (jJ he h1).1
  cases h2 : aV [58] r1 with
  | error e => rw [h2] at h; cases h
  | ok r2 =>
   rw [h2] at h
   simp only at h
   have s2 := gi s1.1 h2
   cases h3 : cD m.1 (r2.length + 1) [] r2 with
   | error e => rw [h3] at h; cases h
   | ok q3 =>
    obtain ⟨sets, r3⟩ := q3
    rw [h3] at h
    simp only at h
    have s3 := Ed _ _ _ _ s2.1 h3
    cases h4 : aV [59] r3 with
    | error e => rw [h4] at h; cases h
    | ok r4 =>
     rw [h4] at h
     cases h
     have s4 := gi s3.1 h4
     exact ⟨((s1.trans s2).trans s3).trans s4, g, r1, r2, sets, r3, by omega, rfl, s2.1, h3, rfl, h2, h4⟩
end Sy
end Go.Proofs.YtpnogcmollnjeaaGreatDoor
namespace Go.Proofs.YtpnogcmollnjeaaGreatDoor
namespace Pa
open Job
noncomputable def szJ : Job → Nat
 | line _ => 0
 | loop _ a => a.sz
theorem Ea (k n a : Int) : (Ex.mk k n a []).sz = 1 := by simp [Ex.sz, szL]
theorem OQ (k n a : Int) (x : Ex) : (Ex.mk k n a [x]).sz = x.sz + 1 := by simp [Ex.sz, szL]
theorem Im (k n a : Int) (x y : Ex) : (Ex.mk k n a [x, y]).sz = x.sz + y.sz + 1 := by simp [Ex.sz, szL]
theorem P.size {names : List Str} {j : Job} {d : Int} {ts : List Tok} {r : Out} (h : P names j d ts r) : ∀ p, r = .ok p → p.1.sz + p.2.length ≤ ts.length + szJ j := by
 induction h with
 | big => intro p h; cases h
 | @pre s d t ts k r h0 h1 h2 h3 ih =>
  intro p h
  cases r with
  | error e => cases h
  | ok q => have := ih q rfl; cases h; simp only [szJ, OQ, List.length_cons] at *; omega
 | other h0 h1 h2 h3 ih => intro p h; exact ih p h
 | rErr => intro p h; cases h
 | rOne h0 h1 h2 h3 ih => intro p h; exact ih p h
 | @rTwo s d ts a t ts' k r h0 h1 h2 h3 h4 ih ih2 =>
  intro p h
  cases r with
  | error e => cases h
  | ok q => have i1 := ih _ rfl; have i2 := ih2 q rfl; cases h; simp only [szJ, Im, List.length_cons] at *; omega
 | lErr => intro p h; cases h
 | lGo h0 h1 h2 ih ih2 => intro p h; have i1 := ih _ rfl; have i2 := ih2 p h; simp only [szJ] at *; omega
 | lpEnd h0 => intro p h; cases h; simp only [szJ]; omega
 | lpErr => intro p h; cases h
 | lpGo h0 h1 h2 ih ih2 => intro p h; have i1 := ih _ rfl; have i2 := ih2 p h; simp only [szJ, Im, List.length_cons] at *; omega
 | oWord h0 h1 => intro p h; cases h; simp only [szJ, Ea, List.length_cons]; omega
 | oNum h0 h1 h2 => intro p h; cases h; simp only [szJ, Ea, List.length_cons]; omega
 | oVar h0 h1 h2 h3 h4 => intro p h; cases h; simp only [szJ, Ea, List.length_cons]; omega
 | oName => intro p h; cases h
 | oOpen h0 h1 h2 h3 h4 h5 h6 ih => intro p h; cases h; have := ih _ rfl; simp only [szJ, List.length_cons] at *; omega
 | oErr => intro p h; cases h
 | oClose => intro p h; cases h
 | oForm => intro p h; cases h
theorem P.suf {names : List Str} {j : Job} {d : Int} {ts : List Tok} {r : Out} (h : P names j d ts r) : ∀ p, r = .ok p → p.2 <:+ ts := by
 induction h with
 | big => intro p h; cases h
 | @pre s d t ts k r h0 h1 h2 h3 ih =>
  intro p h
  cases r with
  | error e => cases h
  | ok q => have := ih q rfl; cases h; exact this.trans (List.suffix_cons _ _)
 | other h0 h1 h2 h3 ih => exact ih
 | rErr => intro p h; cases h
 | rOne h0 h1 h2 h3 ih => exact ih
 | @rTwo s d ts a t ts' k r h0 h1 h2 h3 h4 ih ih2 =>
  intro p h
  cases r with
  | error e => cases h
  | ok q => have i1 := ih _ rfl; have i2 := ih2 q rfl; cases h; exact (i2.trans (List.suffix_cons _ _)).trans i1
 | lErr => intro p h; cases h
 | lGo h0 h1 h2 ih ih2 => intro p h; exact (ih2 p h).trans (ih _ rfl)
 | lpEnd h0 => intro p h; cases h; exact List.suffix_refl _
 | lpErr => intro p h; cases h
 | lpGo h0 h1 h2 ih ih2 => intro p h; exact ((ih2 p h).trans (ih _ rfl)).trans (List.suffix_cons _ _)
 | oWord h0 h1 => intro p h; cases h; exact List.suffix_cons _ _
 | oNum h0 h1 h2 => intro p h; cases h; exact List.suffix_cons _ _
 | oVar h0 h1 h2 h3 h4 => intro p h; cases h; exact List.suffix_cons _ _
 | oName => intro p h; cases h
 | oOpen h0 h1 h2 h3 h4 h5 h6 ih => intro p h; cases h; exact ((List.suffix_cons _ _).trans (ih _ rfl)).trans (List.suffix_cons _ _)
 | oErr => intro p h; cases h
 | oClose => intro p h; cases h
 | oForm => intro p h; cases h
noncomputable def oT (t : Tok) : Prop := t.1 = 2 → 0 ≤ t.2.2.1 ∧ t.2.2.1 ≤ 1073741824
theorem tA {s : Nat} {t : Tok} {k : Int} (h : bF s t = some k) : k ∈ ops s := by
 unfold bF fnd at h
 cases hs : sgn t
 ·rw [hs] at h; cases h
 ·rw [hs] at h; exact List.mem_of_find?_eq_some h
theorem MX {s : Nat} (hk : kd s = 0) {k : Int} (h : k ∈ ops s) (vars : Int) : kl k 0 1 (fC k) vars = true := by
 have : s = 6 ∨ s = 10 := by
  unfold kd at hk
  split at hk <;> first | (cases hk; done) | simp
 rcases this with rfl | rfl
 ·simp only [ops, List.mem_cons, List.not_mem_nil, or_false] at h
  rcases h with rfl | rfl | rfl | rfl <;> rfl
 ·simp only [ops, List.mem_cons, List.not_mem_nil, or_false] at h
  subst h; rfl
theorem FO {s : Nat} (hk : kd s = 1 ∨ kd s = 2) {k : Int} (h : k ∈ ops s) (vars : Int) : kl k 0 2 (fC k) vars = true := by
 have : s = 1 ∨ s = 2 ∨ s = 3 ∨ s = 4 ∨ s = 5 ∨ s = 7 ∨ s = 8 ∨ s = 9 := by
  unfold kd at hk
  split at hk <;> first | (rcases hk with hk | hk <;> cases hk; done) | simp
 rcases this with rfl | rfl | rfl | rfl | rfl | rfl | rfl | rfl <;> simp only [ops, List.mem_cons, List.not_mem_nil, or_false] at h
 ·subst h; rfl
 ·subst h; rfl
 ·subst h; rfl
 ·subst h; rfl
 ·rcases h with rfl | rfl <;> rfl
 ·rcases h with rfl | rfl | rfl | rfl | rfl | rfl <;> rfl
 ·rcases h with rfl | rfl <;> rfl
 ·subst h; rfl
theorem K9 {s : Nat} (hk : kd s = 3) {k : Int} (h : k ∈ ops s) (vars : Int) : kl k 0 0 (fC k) vars = true := by
 have : s = 11 := by
  unfold kd at hk
  split at hk <;> first | (cases hk; done) | simp
 subst this
 simp only [ops, List.mem_cons, List.not_mem_nil, or_false] at h
 rcases h with rfl | rfl <;> rfl
theorem zW {vars k n a : Int} (h : kl k n 0 (fC k) vars = true) : dM vars (.mk k n a []) = true := by
 simp only [dM, kq, List.length_nil]; rw [show ((0 : Nat) : Int) = 0 from rfl, h]; rfl
theorem MQ {vars k a : Int} {x : Ex} (h : kl k 0 1 (fC k) vars = true) (hx : dM vars x = true) : dM vars (.mk k 0 a [x]) = true := by
 simp only [dM, kq, List.length_cons, List.length_nil]; rw [show ((0 + 1 : Nat) : Int) = 1 from rfl, h, hx]; rfl
theorem Ff {vars k a : Int} {x y : Ex} (h : kl k 0 2 (fC k) vars = true) (hx : dM vars x = true) (hy : dM vars y = true) : dM vars (.mk k 0 a [x, y]) = true := by
 simp only [dM, kq, List.length_cons, List.length_nil]; rw [show ((0 + 1 + 1 : Nat) : Int) = 2 from rfl, h, hx, hy]; rfl
noncomputable def P7 (vars : Int) : Job → Bool
 | line _ => true
 | loop _ a => dM vars a
noncomputable def okJ : Job → Prop
 | line _ => True
 | loop s _ => kd s = 2
theorem Mh {names : List Str} {v : Str} {i : Nat} (h : at_ names v = some i) : i < names.length := by
 unfold at_ at h
 have := List.findIdx?_eq_some_iff_getElem.1 h
 exact this.1
theorem P.may {names : List Str} {j : Job} {d : Int} {ts : List Tok} {r : Out} (h : P names j d ts r) : okJ j → (∀ t ∈ ts, oT t) → P7 names.length j = true → ∀ p, r = .ok p → dM names.length p.1 = true := by
 induction h with
 | big => intro _ _ _ p h; cases h
 | @pre s d t ts k r h0 h1 h2 h3 ih =>
  intro _ hq _ p h
  cases r with
  | error e => cases h
  | ok q => have := ih trivial (fun t ht => hq t (List.mem_cons_of_mem _ ht)) rfl q rfl; cases h; exact MQ (MX h0 (tA h2) _) this
 | other h0 h1 h2 h3 ih => intro _ hq hj p h; exact ih trivial hq rfl p h
 | rErr => intro _ _ _ p h; cases h
 | rOne h0 h1 h2 h3 ih => intro _ hq hj p h; exact ih trivial hq rfl _ h
 | @rTwo s d ts a t ts' k r h0 h1 h2 h3 h4 ih ih2 =>
  intro _ hq _ p h
  cases r with
  | error e => cases h
  | ok q =>
   have i1 := ih trivial hq rfl _ rfl
   have hs := h2.suf _ rfl
   have i2 := ih2 trivial (fun t ht => hq t (hs.mem (List.mem_cons_of_mem _ ht))) rfl q rfl
   cases h
   exact Ff (FO (.inl h0) (tA h3) _) i1 i2
 | lErr => intro _ _ _ p h; cases h
 | lGo h0 h1 h2 ih ih2 =>
  intro _ hq _ p h
  have i1 := ih trivial hq rfl _ rfl
  have hs := h1.suf _ rfl
  exact ih2 h0 (fun t ht => hq t (hs.mem ht)) i1 p h
 | lpEnd h0 => intro _ hq hj p h; cases h; exact hj
 | lpErr => intro _ _ _ p h; cases h
 | @lpGo s a d t ts k b ts' r h0 h1 h2 ih ih2 =>
  intro ho hq hj p h
  have i1 := ih trivial (fun t ht => hq t (List.mem_cons_of_mem _ ht)) rfl _ rfl
  have hs := h1.suf _ rfl
  exact ih2 ho (fun t ht => hq t (List.mem_cons_of_mem _ (hs.mem ht))) (Ff (a := t.2.2.2) (FO (.inr ho) (tA h0) _) hj i1) p h
 | oWord h0 h1 => intro _ hq _ p h; cases h; exact zW (K9 h0 (tA h1) _)
 | @oNum s d t ts h0 h1 h2 =>
  intro _ hq _ p h
  cases h
  obtain ⟨n0, n1⟩ := hq t (List.mem_cons_self ..) (beq_iff_eq.1 h2)
  refine zW ?_
  simp only [kl, fC]
  have e1 : decide (t.2.2.1 < 0) = false := decide_eq_false (by omega)
  have e2 : decide (1073741824 < t.2.2.1) = false := decide_eq_false (by omega)
  rw [e1, e2]; rfl
 | @oVar s d t ts i h0 h1 h2 h3 h4 =>
  intro _ hq _ p h
  cases h
  have hlt := Mh h4
  refine zW ?_
  simp only [kl, fC]
  have e1 : decide ((i : Int) < 0) = false := decide_eq_false (by omega)
  have e2 : decide ((names.length : Int) ≤ (i : Int)) = false := decide_eq_false (by omega)
  rw [e1, e2]; rfl
 | oName => intro _ _ _ p h; cases h
 | @oOpen s d t ts a c ts' h0 h1 h2 h3 h4 h5 h6 ih => intro _ hq _ p h; cases h; exact ih trivial (fun t ht => hq t (List.mem_cons_of_mem _ ht)) rfl (a, c :: ts') rfl
 | oErr => intro _ _ _ p h; cases h
 | oClose => intro _ _ _ p h; cases h
 | oForm => intro _ _ _ p h; cases h
end Pa
end Go.Proofs.YtpnogcmollnjeaaGreatDoor
namespace Go.Proofs.YtpnogcmollnjeaaGreatDoor
namespace Pa
noncomputable def isLet (c : UInt8) : Bool := (decide (97 ≤ c) && decide (c ≤ 122)) || (decide (65 ≤ c) && decide (c ≤ 90)) || c == 95
noncomputable def dH (t : Tok) : Prop := (t.1 = 1 ∧ ∃ c s, t.2.1 = c :: s ∧ isLet c = true) ∨ t.1 = 2 ∨ (t.1 = 3 ∧ ∀ c s, t.2.1 = c :: s → isLet c = false) ∨ t.1 = 4
theorem jr {l : List Tok} {a : Nat} {t : Tok} {ts : List Tok} (h : l.drop a = t :: ts) : idx l (a : Int) = some t ∧ l.drop (a + 1) = ts ∧ a < l.length ∧ t ∈ l := by
 have hlt : a < l.length := by
  rcases Nat.lt_or_ge a l.length with h1 | h1
  ·exact h1
  ·rw [List.drop_of_length_le h1] at h; cases h
 rw [List.drop_eq_getElem_cons hlt] at h
 simp only [List.cons.injEq] at h
 refine ⟨by simp [idx, List.getElem?_eq_getElem hlt, h.1], h.2, hlt, by rw [← h.1]; exact List.getElem_mem ..⟩
theorem bU {a : Nat} (h : a < 4611686018427387904) : IntKind.i64.wrap ((a : Int) + 1) = ((a + 1 : Nat) : Int) := by rw [w64 (by omega)]; omega
end Pa
namespace Sy
open Pa
theorem iz {α : Type} {l pre r : List α} {x : α} (h : l = pre ++ x :: r) : decide ((pre.length : Int) < (List.length l : Int)) = true := by subst h; simp; omega
theorem j9 {α : Type} {l pre : List α} (h : l = pre ++ []) : decide ((pre.length : Int) < (List.length l : Int)) = false := by subst h; simp
theorem mid {α : Type} {l pre r : List α} {x : α} (h : l = pre ++ x :: r) : idx l (pre.length : Int) = some x := by subst h; simp [idx]
theorem cJ {k b : Nat} (h : k * b ≤ 140737488355328) (h2 : k ≤ 9223372036854775807) : az k b = true := by
 simp only [az, Bool.and_eq_true]; exact ⟨Nat.ble_eq_true_of_le h, Nat.ble_eq_true_of_le h2⟩
theorem cQ {ρ : Type} {c : Bool} (h : c = true) (k : Option ρ) : chk c k = k := by subst h; rfl
end Sy
end Go.Proofs.YtpnogcmollnjeaaGreatDoor
namespace Go.Proofs.YtpnogcmollnjeaaGreatDoor
namespace Sy
open Pa
theorem Gd (s : Str) (h : s.all Lx.isDigit = true) : 0 ≤ Lx.di 0 s := Lx.qp s 0 (Int.le_refl _) h
theorem Ik {c : UInt8} {s : Str} {k : Int} {t : Str} {n : Int} (h : Lx.step (c :: s) = .tok k t n) (pl : Int) : dH (k, t, n, pl) ∧ oT (k, t, n, pl) ∧ k ≠ 4 := by
 obtain ⟨hb, hc, _, _⟩ := Lx.tR h
 simp only [Lx.step, hb, hc, Bool.false_eq_true, if_false] at h
 cases hlet : Lx.cM c
 ·simp only [hlet, Bool.false_eq_true, if_false] at h
  cases hdig : Lx.isDigit c
  ·simp only [hdig, Bool.false_eq_true, if_false] at h
   cases hsg : (Lx.ct (c :: s) == [])
   ·simp only [hsg, Bool.false_eq_true, if_false, Lx.Step.tok.injEq] at h
    obtain ⟨rfl, rfl, rfl⟩ := h
    obtain ⟨h1, h2, _⟩ := Lx.oK hsg
    obtain ⟨_, c', s', hg, _, _, hl, _⟩ := Lx.xF _ h1
    refine ⟨.inr (.inr (.inl ⟨rfl, fun c2 s2 h3 => ?_⟩)), (fun h => by cases h), by decide⟩
    simp only at h3
    rw [hg] at h3
    cases h3
    exact hl
   ·simp [hsg] at h
  ·simp only [hdig, if_true] at h
   split at h
   ·cases h
   ·rename_i hbig
    simp only [Lx.Step.tok.injEq] at h
    obtain ⟨rfl, rfl, rfl⟩ := h
    refine ⟨.inr (.inl rfl), fun _ => ⟨Gd _ (Lx.jn _ _), ?_⟩, by decide⟩
    simp only [Lx.big, decide_eq_true_eq] at hbig
    simp only; omega
 ·simp only [hlet, if_true] at h
  split at h
  ·cases h
  ·simp only [Lx.Step.tok.injEq] at h
   obtain ⟨rfl, rfl, rfl⟩ := h
   refine ⟨.inl ⟨rfl, c, s.takeWhile Lx.bS, ?_, hlet⟩, (fun h => by cases h), by decide⟩
   simp only [List.takeWhile_cons, Lx.kU hlet, if_true]
structure Good (n : Nat) (l : List Tok) : Prop where
 ok : ∀ t ∈ l, dH t
 num : ∀ t ∈ l, oT t
 ends : Pa.Ends l
 len : l.length ≤ n
theorem Iu {t : Tok} {l : List Tok} (h : Pa.Ends l) : Pa.Ends (t :: l) := .inl h
theorem Ie : ∀ (f a : Nat) (s : Str) (l : List Tok), s.length < f → Lx.gC f a s = .ok l → Good (s.length + 1) l := by
 intro f
 induction f with
 | zero => intro a s l h; omega
 | succ f ih =>
  intro a s l hf h
  cases s with
  | nil =>
   simp only [Lx.gC] at h; cases h
   exact ⟨(fun t ht => by rw [List.mem_singleton.1 ht]; exact .inr (.inr (.inr rfl))), (fun t ht => by rw [List.mem_singleton.1 ht]; intro h; cases h), .inr ⟨rfl, rfl⟩, by simp⟩
  | cons c s =>
   simp only [Lx.gC] at h
   cases hs : Lx.step (c :: s) with
   | skip k =>
    rw [hs] at h
    obtain ⟨h1, h2⟩ := Lx.step_skip hs
    have := ih _ _ _ (by simp only [List.length_drop, List.length_cons] at *; omega) h
    exact ⟨this.ok, this.num, this.ends, by have := this.len; simp only [List.length_drop, List.length_cons] at *; omega⟩
   | err e => rw [hs] at h; cases h
   | tok k tx n =>
    rw [hs] at h
    simp only at h
    obtain ⟨_, _, h1, h2⟩ := Lx.tR hs
    have h3 := h2.length_le
    obtain ⟨g1, g2, _⟩ := Ik hs (a : Int)
    cases hr : Lx.gC f (a + tx.length) ((c :: s).drop tx.length) with
    | error e => rw [hr] at h; cases h
    | ok l' =>
     rw [hr] at h
     cases h
     have := ih _ _ _ (by simp only [List.length_drop, List.length_cons] at *; omega) hr
     refine ⟨fun t ht => ?_, fun t ht => ?_, Iu this.ends, by have := this.len; simp only [List.length_drop, List.length_cons] at *; omega⟩
     ·rcases List.mem_cons.1 ht with rfl | ht
      ·exact g1
      ·exact this.ok t ht
     ·rcases List.mem_cons.1 ht with rfl | ht
      ·exact g2
      ·exact this.num t ht
theorem CE {s : Str} {l : List Tok} (h : Lx.lex s = .ok l) : Good (s.length + 1) l := Ie _ _ _ _ (Nat.lt_succ_self _) h
theorem BM : ∀ (f a : Nat) (s : Str) (e : Int × Int), Lx.gC f a s = .error e → e.1 ≠ 0 := by
 intro f
 induction f with
 | zero => intro a s e h; simp [Lx.gC] at h
 | succ f ih =>
  intro a s e h
  cases s with
  | nil => simp [Lx.gC] at h
  | cons c s =>
   simp only [Lx.gC] at h
   cases hs : Lx.step (c :: s) with
   | skip k => rw [hs] at h; exact ih _ _ _ h
   | err e' => rw [hs] at h; cases h; exact Lx.OD hs
   | tok k tx n =>
    rw [hs] at h
    simp only at h
    cases hr : Lx.gC f (a + tx.length) ((c :: s).drop tx.length) with
    | error e' => rw [hr] at h; cases h; exact ih _ _ _ hr
    | ok l' => rw [hr] at h; cases h
noncomputable def xl (text : Str) : Except Err Mdl := if 65536 < text.length then .error (9, 0) else match Lx.lex text with
 | .ok l => sys l
 | .error e => .error e
/-! what systems of texts are -/
structure BA (n : Nat) (s : Int × Ex) : Prop where
 var : 0 ≤ s.1 ∧ s.1 < n
 may : dM (n : Int) s.2 = true
 typ : (rt s.2).2.1 = 0 ∧ (rt s.2).1 = 1
 sz : s.2.sz ≤ 65537
structure BC (n : Nat) (c : Cmd) : Prop where
 may : dM (n : Int) c.2.1 = true
 typ : (rt c.2.1).2.1 = 0 ∧ (rt c.2.1).1 = 2
 sz : c.2.1.sz ≤ 65537
 sets : ∀ s ∈ c.2.2, BA n s
 one : 1 ≤ c.2.2.length
 len : c.2.2.length ≤ 65537
 once : c.2.2.Pairwise (fun a b => a.1 ≠ b.1)
structure vz (f : Int × Int) : Prop where
 le : f.1 ≤ f.2
 lo : -1073741824 ≤ f.1
 hi : f.2 ≤ 1073741824
 wide : f.2 - f.1 ≤ 65535
structure Part (m : Mdl) : Prop where
 names : m.1.length ≤ 16
 schema : m.2.1.length = m.1.length
 init : m.2.2.1.length = m.1.length
 fields : ∀ f ∈ m.2.1, vz f
 first : ∀ (i : Nat) (f : Int × Int) (v : Int), m.2.1[i]? = some f → m.2.2.1[i]? = some v → f.1 ≤ v ∧ v ≤ f.2
 cmds : m.2.2.2.2.length ≤ 256
 cmd : ∀ c ∈ m.2.2.2.2, BC m.1.length c
structure Wf (m : Mdl) : Prop extends Part m where
 some_ : 1 ≤ m.1.length
theorem Np {op n len want v w : Int} (h : kl op n len want v = true) (hv : v ≤ w) : kl op n len want w = true := by
 simp only [kl, Bool.and_eq_true, Bool.not_eq_true', Bool.or_eq_false_iff, decide_eq_false_iff_not, bne_eq_false_iff_eq, Bool.and_eq_false_imp, beq_iff_eq] at h ⊢
 obtain ⟨⟨⟨h1, h2⟩, h3⟩, ⟨h4, h5⟩, h6⟩ := h
 exact ⟨⟨⟨h1, h2⟩, h3⟩, ⟨h4, fun h => by have := h5 h; omega⟩, h6⟩
theorem Fi {v w : Int} (hv : v ≤ w) : ∀ (N : Nat) (e : Ex), e.sz ≤ N → dM v e = true → dM w e = true := by
 intro N
 induction N with
 | zero => intro e h; have := kC e; omega
 | succ N ih =>
  intro e h hm
  have h0 := (AK hm).2.2.2.2
  rw [zw] at hm ⊢
  simp only [Bool.and_eq_true] at hm ⊢
  refine ⟨Np hm.1 hv, ?_⟩
  have : ∀ l : List Ex, (∀ x ∈ l, x ∈ e.l) → kq w l = true := fun l => by
   induction l with
   | nil => intro _; simp only [kq]
   | cons x r ih2 =>
    intro hx
    simp only [kq, Bool.and_eq_true]
    exact ⟨ih x (by have := iB (hx x (by simp)); omega) (h0 x (hx x (by simp))), ih2 (fun y hy => hx y (List.mem_cons_of_mem _ hy))⟩
  exact this e.l (fun x h => h)
theorem BC.le {n k : Nat} {c : Cmd} (h : BC n c) (hk : n ≤ k) : BC k c :=
 ⟨Fi (by omega) _ _ (Nat.le_refl _) h.may, h.typ, h.sz, fun s hs => ⟨⟨(h.sets s hs).var.1, by have := (h.sets s hs).var.2; omega⟩, Fi (by omega) _ _ (Nat.le_refl _) (h.sets s hs).may, (h.sets s hs).typ, (h.sets s hs).sz⟩, h.one, h.len, h.once⟩
theorem I9 {lo hi : Int} (h : jU lo hi = true) : vz (lo, hi) := by
 simp only [jU, Bool.and_eq_true, Bool.not_eq_true', decide_eq_false_iff_not] at h
 obtain ⟨⟨⟨h1, h2⟩, h3⟩, h4⟩ := h
 rw [w64 (by omega)] at h4
 exact ⟨by simp only; omega, by simp only; omega, by simp only; omega, by simp only; omega⟩
noncomputable def fP (ts : List Tok) : Prop := (∀ t ∈ ts, oT t) ∧ Pa.Ends ts ∧ ts.length ≤ 65537
theorem fP.of {ts ts' : List Tok} (h : fP ts) (hs : cj ts ts') (hf : ts' <:+ ts) : fP ts' := ⟨fun t ht => h.1 t (hf.mem ht), hs.1, by have := hs.2; have := h.2.2; omega⟩
theorem ll {x : Str} {ts r : List Tok} (h : aV x ts = .ok r) : r <:+ ts := by
 cases ts with
 | nil => simp [aV] at h
 | cons t ts' =>
  simp only [aV] at h
  cases hc : isT 3 x t
  ·rw [hc] at h; cases h
  ·rw [hc] at h; cases h; exact List.suffix_cons _ _
theorem Ag {full : Bool} {names procs : List Str} {ts : List Tok} {p : Str × List Tok} (h : cS full names procs ts = .ok p) : p.2 <:+ ts := by
 cases ts with
 | nil => simp [cS] at h
 | cons t ts' =>
  simp only [cS] at h
  cases h1 : (t.1 != 1)
  ·rw [h1] at h
   simp only [cond_false] at h
   cases h2 : (key t.2.1 || names.contains t.2.1 || procs.contains t.2.1)
   ·rw [h2] at h
    simp only [cond_false] at h
    cases full
    ·cases h; exact List.suffix_cons _ _
    ·cases h
   ·rw [h2] at h; cases h
  ·rw [h1] at h; cases h
theorem AW {neg : Bool} {ts : List Tok} {p : Int × List Tok} (h : jG neg ts = .ok p) : p.2 <:+ ts := by
 cases ts with
 | nil => simp [jG] at h
 | cons t ts' =>
  simp only [jG] at h
  cases h1 : (t.1 != 2)
  ·rw [h1] at h; cases h; exact List.suffix_cons _ _
  ·rw [h1] at h; cases h
theorem xz {ts : List Tok} {p : Int × List Tok} (h : db ts = .ok p) : p.2 <:+ ts := by
 unfold db at h
 cases hc : isH 3 [45] ts
 ·rw [hc] at h; exact AW h
 ·rw [hc] at h; exact (AW h).trans (List.tail_suffix _)
theorem vd {want : Int} {names : List Str} {ts : List Tok} {p : Ex × List Tok} (he : Pa.Ends ts) (h : bW want names ts = .ok p) : p.2 <:+ ts := (jJ he h).2.1.suf _ rfl
theorem Hv {names : List Str} : ∀ (f : Nat) (acc : List (Int × Ex)) (ts : List Tok) (p : List (Int × Ex) × List Tok), Pa.Ends ts → cD names f acc ts = .ok p → p.2 <:+ ts := by
 intro f
 induction f with
 | zero => intro _ _ _ _ h; simp [cD] at h
 | succ f ih =>
  intro acc ts p he h
  obtain ⟨t, r, rfl⟩ := he.ne
  simp only [cD] at h
  cases h1 : (t.1 != 1)
  case true => rw [h1] at h; cases h
  rw [h1] at h
  simp only [cond_false] at h
  cases h2 : (decide (cn names t.2.1 < 0) || nH acc (cn names t.2.1))
  case true => rw [h2] at h; cases h
  rw [h2] at h
  simp only [cond_false] at h
  have ht : t.1 = 1 := by simpa using h1
  have he1 := he.tail (by omega)
  cases h3 : aV [61] r with
  | error e => rw [h3] at h; cases h
  | ok r1 =>
   rw [h3] at h
   simp only at h
   have s1 := gi he1 h3
   cases h4 : bW 1 names r1 with
   | error e => rw [h4] at h; cases h
   | ok q =>
    obtain ⟨x, r2⟩ := q
    rw [h4] at h
    simp only at h
    have s2 : cj r1 r2 := (jJ s1.1 h4).1
    have f12 : r2 <:+ t :: r := ((vd s1.1 h4).trans (ll h3)).trans (List.suffix_cons _ _)
    cases h5 : isH 3 [44] r2
    ·rw [h5] at h; cases h; exact f12
    ·rw [h5] at h
     simp only [cond_true] at h
     exact ((ih _ _ _ (ij s2.1 (by decide) h5).1 h).trans (List.tail_suffix _)).trans f12
theorem A4 {want : Int} {names : List Str} {ts : List Tok} {x : Ex} {r : List Tok} (hT : fP ts) (h : bW want names ts = .ok (x, r)) :
  dM (names.length : Int) x = true ∧ ((rt x).2.1 = 0 ∧ (rt x).1 = want) ∧ x.sz ≤ 65537 := by
 obtain ⟨sh, hp, h1, h2⟩ := jJ hT.2.1 h
 have hsz := hp.size _ rfl
 simp only [szJ, Nat.add_zero] at hsz
 exact ⟨hp.may trivial hT.1 rfl _ rfl, ⟨h1, h2⟩, by have := hT.2.2; omega⟩
theorem NY {names : List Str} {v : Str} (h : ¬ cn names v < 0) : 0 ≤ cn names v ∧ cn names v < names.length := by
 unfold cn at h ⊢
 cases ha : at_ names v with
 | none => rw [ha] at h; simp at h
 | some i => have := Mh ha; simp only; omega
theorem G3 {names : List Str} : ∀ (f : Nat) (acc : List (Int × Ex)) (ts : List Tok) (p : List (Int × Ex) × List Tok), fP ts → cD names f acc ts = .ok p →
  (∀ s ∈ acc, BA names.length s) → acc.Pairwise (fun a b => a.1 ≠ b.1) → acc.length + ts.length ≤ 65537 → (∀ s ∈ p.1, BA names.length s) ∧ p.1.Pairwise (fun a b => a.1 ≠ b.1) ∧ p.1.length ≤ 65537 ∧ 1 ≤ p.1.length := by
 intro f
 induction f with
 | zero => intro _ _ _ _ h; simp [cD] at h
 | succ f ih =>
  intro acc ts p hT h hacc hpw hlen
  obtain ⟨t, r, rfl⟩ := hT.2.1.ne
  have he := hT.2.1
  simp only [cD] at h
  cases h1 : (t.1 != 1)
  case true => rw [h1] at h; cases h
  rw [h1] at h
  simp only [cond_false] at h
  cases h2 : (decide (cn names t.2.1 < 0) || nH acc (cn names t.2.1))
  case true => rw [h2] at h; cases h
  rw [h2] at h
  simp only [cond_false] at h
  have ht : t.1 = 1 := by simpa using h1
  have he1 := he.tail (by omega)
  simp only [Bool.or_eq_false_iff, decide_eq_false_iff_not] at h2
  cases h3 : aV [61] r with
  | error e => rw [h3] at h; cases h
  | ok r1 =>
   rw [h3] at h
   simp only at h
   have s1 := gi he1 h3
   have s1l := s1.2
   have hTr : fP r := ⟨fun t' h' => hT.1 t' (List.mem_cons_of_mem _ h'), he1, by have := hT.2.2; simp only [List.length_cons] at this; omega⟩
   have hT1 : fP r1 := hTr.of s1 (ll h3)
   cases h4 : bW 1 names r1 with
   | error e => rw [h4] at h; cases h
   | ok q =>
    obtain ⟨x, r2⟩ := q
    rw [h4] at h
    simp only at h
    have s2 : cj r1 r2 := (jJ s1.1 h4).1
    have s2l := s2.2
    have hT2 : fP r2 := hT1.of s2 (vd s1.1 h4)
    obtain ⟨g1, g2, g3⟩ := A4 hT1 h4
    have hi := NY h2.1
    have hnew : ∀ s ∈ acc ++ [(cn names t.2.1, x)], BA names.length s := fun s hs => by
     rcases List.mem_append.1 hs with hs | hs
     ·exact hacc s hs
     ·rw [List.mem_singleton.1 hs]; exact ⟨hi, g1, g2, g3⟩
    have hpw' : (acc ++ [(cn names t.2.1, x)]).Pairwise (fun a b => a.1 ≠ b.1) := by
     rw [List.pairwise_append]
     refine ⟨hpw, List.pairwise_singleton _ _, fun a ha b hb => ?_⟩
     rw [List.mem_singleton.1 hb]
     intro e
     have : nH acc (cn names t.2.1) = true := by
      unfold nH
      rw [List.any_eq_true]
      exact ⟨a, ha, by simpa using e⟩
     rw [this] at h2; cases h2.2
    simp only [List.length_cons] at hlen
    cases h5 : isH 3 [44] r2
    ·rw [h5] at h
     cases h
     exact ⟨hnew, hpw', by simp; omega, by simp⟩
    ·rw [h5] at h
     simp only [cond_true] at h
     obtain ⟨e1, e2⟩ := ij s2.1 (by decide) h5
     have hT3 : fP r2.tail := ⟨fun t' h' => hT2.1 t' ((List.tail_suffix _).mem h'), e1, by have := hT2.2.2; omega⟩
     exact ih _ _ _ hT3 h hnew hpw' (by simp; omega)
theorem HM {m : Mdl} {ts : List Tok} {p : Mdl × List Tok} (hT : fP ts) (hm : Part m) (h : gF m ts = .ok p) : Part p.1 ∧ fP p.2 ∧ p.2.length < ts.length := by
 obtain ⟨sh, g, r1, r2, sets, r3, h256, h1, hE2, h3, hp, q2, q4⟩ := Ab hT.2.1 h
 have s1 : cj ts r1 := (jJ hT.2.1 h1).1
 have hT1 : fP r1 := hT.of s1 (vd hT.2.1 h1)
 have s2 := gi s1.1 q2
 have hT2 : fP r2 := hT1.of s2 (ll q2)
 have s3 : cj r2 r3 := Ed _ _ _ _ s2.1 h3
 have hT3 : fP r3 := hT2.of s3 (Hv _ _ _ _ s2.1 h3)
 have s4 := gi s3.1 q4
 have hT4 : fP p.2 := hT3.of s4 (ll q4)
 obtain ⟨g1, g2, g3⟩ := A4 hT h1
 obtain ⟨t1, t2, t3, t4⟩ := G3 _ _ _ _ hT2 h3 (fun s hs => by cases hs) List.Pairwise.nil (by have := hT2.2.2; simpa using this)
 refine ⟨?_, hT4, by have := s1.2; have := s2.2; have := s3.2; have := s4.2; omega⟩
 rw [hp]
 refine ⟨hm.names, hm.schema, hm.init, hm.fields, hm.first, by simp; omega, fun c hc => ?_⟩
 rcases List.mem_append.1 hc with hc | hc
 ·exact hm.cmd c hc
 ·rw [List.mem_singleton.1 hc]
  exact ⟨g1, g2, g3, t1, t4, t3, t2⟩
theorem Ge : ∀ (f : Nat) (m : Mdl) (ts : List Tok) (p : Mdl × List Tok), fP ts → Part m → fN f m ts = .ok p → Part p.1 ∧ fP p.2 := by
 intro f
 induction f with
 | zero => intro _ _ _ _ _ h; simp [fN] at h
 | succ f ih =>
  intro m ts p hT hm h
  simp only [fN] at h
  cases hc : isH 3 [125] ts
  ·rw [hc] at h
   simp only [cond_false] at h
   cases h1 : gF m ts with
   | error e => rw [h1] at h; cases h
   | ok q =>
    obtain ⟨m', r⟩ := q
    rw [h1] at h
    simp only at h
    obtain ⟨g1, g2, _⟩ := HM hT hm h1
    exact ih m' r p g2 g1 h
  ·rw [hc] at h
   cases h
   obtain ⟨h1, h2⟩ := ij hT.2.1 (by decide) hc
   exact ⟨hm, fun t ht => hT.1 t ((List.tail_suffix _).mem ht), h1, by have := hT.2.2; show ts.tail.length ≤ _; omega⟩
theorem Hi {m : Mdl} {ts : List Tok} {p : Mdl × List Tok} (hT : fP ts) (hm : Part m) (h : kO m ts = .ok p) : Part p.1 ∧ fP p.2 := by
 unfold kO at h
 cases h1 : cS false m.1 m.2.2.2.1 ts with
 | error e => rw [h1] at h; cases h
 | ok q1 =>
  obtain ⟨name, r1⟩ := q1
  rw [h1] at h
  simp only at h
  have s1 : cj ts r1 := (xo hT.2.1 h1).1
  have hT1 : fP r1 := hT.of s1 (Ag h1)
  cases h2 : aV [123] r1 with
  | error e => rw [h2] at h; cases h
  | ok r2 =>
   rw [h2] at h
   simp only at h
   have s2 := gi s1.1 h2
   exact Ge _ (m.1, m.2.1, m.2.2.1, m.2.2.2.1 ++ [name], m.2.2.2.2) _ _ (hT1.of s2 (ll h2)) ⟨hm.names, hm.schema, hm.init, hm.fields, hm.first, hm.cmds, hm.cmd⟩ h
theorem Jt {m : Mdl} {ts : List Tok} {p : Mdl × List Tok} (h : jg m ts = .ok p) : p.2 <:+ ts := by
 unfold jg at h
 cases h1 : cS (decide (16 ≤ (m.1.length : Int))) m.1 m.2.2.2.1 ts with
 | error e => rw [h1] at h; cases h
 | ok q1 =>
  obtain ⟨name, ts1⟩ := q1
  rw [h1] at h
  simp only at h
  have s1 : ts1 <:+ ts := Ag h1
  cases h2 : db ts1 with
  | error e => rw [h2] at h; cases h
  | ok q2 =>
   obtain ⟨lo, ts2⟩ := q2
   rw [h2] at h
   simp only at h
   have s2 : ts2 <:+ ts1 := xz h2
   cases h3 : db ts2 with
   | error e => rw [h3] at h; cases h
   | ok q3 =>
    obtain ⟨hi, ts3⟩ := q3
    rw [h3] at h
    simp only at h
    have s3 : ts3 <:+ ts2 := xz h3
    cases h4 : db ts3 with
    | error e => rw [h4] at h; cases h
    | ok q4 =>
     obtain ⟨first, ts4⟩ := q4
     rw [h4] at h
     simp only at h
     have s4 : ts4 <:+ ts3 := xz h4
     cases h5 : aV [59] ts4 with
     | error e => rw [h5] at h; cases h
     | ok ts5 =>
      rw [h5] at h
      simp only at h
      have s5 := ll h5
      cases h6 : (!(jU lo hi) || decide (first < lo) || decide (hi < first))
      ·rw [h6] at h
       cases h
       exact (((s5.trans s4).trans s3).trans s2).trans s1
      ·rw [h6] at h; cases h
theorem HQ {m : Mdl} {ts : List Tok} {p : Mdl × List Tok} (hT : fP ts) (hm : Part m) (h : jg m ts = .ok p) : Part p.1 ∧ fP p.2 ∧ 1 ≤ p.1.1.length := by
 obtain ⟨sh, name, lo, hi, first, hp, hr, h1, h2, h16, _⟩ := EZ hT.2.1 h
 refine ⟨?_, hT.of sh (Jt h), by rw [hp]; simp⟩
 rw [hp]
 have hs := hm.schema
 have hi' := hm.init
 refine ⟨by simp; omega, by simp [hs], by simp [hi'], fun f hf => ?_, fun i f v hf hv => ?_, hm.cmds, fun c hc => (hm.cmd c hc).le (by simp)⟩
 ·rcases List.mem_append.1 hf with hf | hf
  ·exact hm.fields f hf
  ·rw [List.mem_singleton.1 hf]; exact I9 hr
 ·simp only at hf hv
  rcases Nat.lt_or_ge i m.2.1.length with hlt | hge
  ·rw [List.getElem?_append_left hlt] at hf
   rw [List.getElem?_append_left (by omega)] at hv
   exact hm.first i f v hf hv
  ·rw [List.getElem?_append_right hge] at hf
   rw [List.getElem?_append_right (by omega)] at hv
   rw [show i - m.2.2.1.length = i - m.2.1.length by omega] at hv
   cases hd : i - m.2.1.length with
   | zero =>
    rw [hd] at hf hv
    simp only [List.getElem?_cons_zero, Option.some.injEq] at hf hv
    subst hf; subst hv
    exact ⟨h1, h2⟩
   | succ k => rw [hd] at hf; simp at hf
theorem EA : ∀ (f : Nat) (m : Mdl) (ts : List Tok) (p : Mdl), fP ts → Part m → iH f m ts = .ok p → Wf p := by
 intro f
 induction f with
 | zero => intro _ _ _ _ _ h; simp [iH] at h
 | succ f ih =>
  intro m ts p hT hm h
  obtain ⟨t, r, rfl⟩ := hT.2.1.ne
  have he := hT.2.1
  simp only [iH] at h
  cases c4 : (t.1 == 4)
  ·rw [c4] at h
   simp only [cond_false] at h
   have hTr : fP r := ⟨fun t' h' => hT.1 t' (List.mem_cons_of_mem _ h'), he.tail (by simpa using c4), by have := hT.2.2; simp only [List.length_cons] at this; omega⟩
   cases cv : isT 1 [118, 97, 114] t
   ·rw [cv] at h
    simp only [cond_false] at h
    cases cp : isT 1 [112, 114, 111, 99] t
    ·rw [cp] at h; cases h
    ·rw [cp] at h
     simp only [cond_true] at h
     cases h1 : kO m r with
     | error e => rw [h1] at h; cases h
     | ok q =>
      obtain ⟨m', r'⟩ := q
      rw [h1] at h
      simp only at h
      obtain ⟨g1, g2⟩ := Hi hTr hm h1
      exact ih m' r' p g2 g1 h
   ·rw [cv] at h
    simp only [cond_true] at h
    cases h1 : jg m r with
    | error e => rw [h1] at h; cases h
    | ok q =>
     obtain ⟨m', r'⟩ := q
     rw [h1] at h
     simp only at h
     obtain ⟨g1, g2, _⟩ := HQ hTr hm h1
     exact ih m' r' p g2 g1 h
  ·rw [c4] at h
   simp only [cond_true] at h
   cases hne : m.1.isEmpty
   ·rw [hne] at h
    cases h
    refine ⟨hm, ?_⟩
    cases hm1 : m.1 with
    | nil => rw [hm1] at hne; simp at hne
    | cons x r => simp
   ·rw [hne] at h; cases h
theorem H3 {text : Str} {m : Mdl} (h : xl text = .ok m) : Wf m := by
 unfold xl at h
 split at h
 ·cases h
 ·rename_i hl
  cases hx : Lx.lex text with
  | error e => rw [hx] at h; cases h
  | ok l =>
   rw [hx] at h
   have hg := CE hx
   exact EA _ _ _ _ ⟨hg.num, hg.ends, by have := hg.len; omega⟩ ⟨by simp, rfl, rfl, (fun f hf => by cases hf), (fun i f v hf => by simp at hf), by simp, (fun c hc => by cases hc)⟩ h
end Sy
end Go.Proofs.YtpnogcmollnjeaaGreatDoor
namespace Go.Proofs.YtpnogcmollnjeaaGreatDoor
namespace Ls
/-! formulas -/
noncomputable def ve (e : Ex) : Bool := ((ty e).2.1 == 0) && ((ty e).1 == 2)
structure Fm (vars : Int) (e : Ex) : Prop where
 may : dM vars e = true
 ok : (ty e).2.1 = 0
 ne : (ty e).1 ≠ 1
 sz : e.sz < 4611686018427387904
theorem wG {op a : Int} {i b t : Bool} (h : (ml op a i b t).1 = 3) : 15 ≤ op ∧ t = true := by
 unfold ml at h
 cases h1 : decide (op ≤ 6) && i <;> rw [h1] at h
 ·cases h2 : decide (6 < op) && decide (op ≤ 12) && i || op == 13 || op == 14 || decide (15 ≤ op) && decide (op ≤ 19) && b <;> rw [h2] at h
  ·cases h3 : decide (15 ≤ op) && t <;> rw [h3] at h
   ·cases h
   ·simpa using h3
  ·cases h
 ·cases h
theorem Ah {op a : Int} : ∀ {l : List Ex} {i b t : Bool}, (tyA op a l i b t).1 = 3 → 15 ≤ op ∧ t = true ∧ ∀ x ∈ l, (ty x).2.1 = 0 ∧ (ty x).1 ≠ 1
 | [], i, b, t, h => ⟨(wG h).1, (wG h).2, fun x hx => by cases hx⟩
 | y :: r, i, b, t, h => by
  simp only [tyA] at h
  cases h1 : (ty y).2.1 != 0
  ·rw [h1, cond_false] at h
   obtain ⟨h2, h3, h4⟩ := Ah h
   simp only [Bool.and_eq_true, bne_iff_ne, ne_eq] at h3
   refine ⟨h2, h3.1, fun x hx => ?_⟩
   rcases List.mem_cons.1 hx with rfl | hx
   ·exact ⟨by simpa using h1, h3.2⟩
   ·exact h4 x hx
  ·rw [h1, cond_true] at h; cases h
theorem Fm.three {vars : Int} {e : Ex} (h : Fm vars e) (hl : ve e = false) : (ty e).1 = 3 := by
 rcases I8 e h.ok with k | k | k
 ·exact absurd k h.ne
 ·unfold ve at hl; rw [h.ok, k] at hl; cases hl
 ·exact k
structure PC (vars : Int) (e : Ex) : Prop where
 lo : 15 ≤ e.op
 hi : e.op ≤ 24
 len : (e.l.length : Int) = fC e.op
 fm : ∀ x ∈ e.l, Fm vars x
theorem Fm.parts {vars : Int} {e : Ex} (h : Fm vars e) (hl : ve e = false) : PC vars e := by
 have h3 := h.three hl
 rw [Bv] at h3
 obtain ⟨a1, _, a2⟩ := Ah h3
 obtain ⟨b1, b2, _, _, b5⟩ := AK h.may
 exact ⟨a1, b1.2, b2, fun x hx => ⟨b5 x hx, (a2 x hx).1, (a2 x hx).2, by have := iB hx; have := h.sz; omega⟩⟩
theorem O7 {e : Ex} (h : e.sz < 4611686018427387904) : sA e = some (ve e) := by
 unfold sA
 rw [N0 e h, ai]
 rfl
/-! rows -/
noncomputable def row (n : Nat) (g : Nat → Bool) : List Bool := (List.range n).map g
noncomputable def rd (r : List Bool) (i : Nat) : Bool := r.getD i false
theorem dO {n : Nat} {g : Nat → Bool} : (row n g).length = n := by simp [row]
theorem yC {n i : Nat} {g : Nat → Bool} (h : i < n) : rd (row n g) i = g i := by
 simp [rd, row, List.getD, h]
theorem J3 {n : Nat} {g : Nat → Bool} : row (n + 1) g = row n g ++ [g n] := by simp [row, List.range_succ]
theorem N7 {n : Nat} {r : List Bool} (h : r.length = n) : row n (rd r) = r := by
 apply List.ext_getElem
 ·rw [dO, h]
 ·intro i h1 h2
  simp [row, rd, List.getD, h2]
theorem eS {r : List Bool} {i : Nat} (h : i < r.length) : idx r (i : Int) = some (rd r i) := by
 unfold idx rd
 rw [if_pos (by omega), show ((i : Int)).toNat = i from rfl, List.getD, List.getElem?_eq_getElem h]
 rfl
noncomputable def ji (n : Int) (c : Int → Option Bool) (again : List Bool × Int → Option (List Bool)) (s : List Bool × Int) : Option (List Bool) :=
 bif decide (s.2 < (List.length (List.replicate (Int.toNat n) false) : Int)) then (c s.2).bind fun r => (idx s.1 s.2).bind fun _ => again (List.set s.1 (Int.toNat s.2) r, IntKind.i64.wrap (s.2 + 1)) else some s.1
theorem FN (n : Nat) (hn : n < 1000000) (c : Int → Option Bool) (g : Nat → Bool) (hc : ∀ i, i < n → c (i : Int) = some (g i)) :
  ∀ (k i : Nat) (l : List Bool) (M : Nat), i + k = n → l.length = n → l.take i = row i g → k < M → al (ji (n : Int) c) M (l, (i : Int)) = some (row n g)
 | 0, i, l, M, hi, hl, ht, hM => by
  obtain ⟨m, rfl⟩ : ∃ m, M = m + 1 := ⟨M - 1, by omega⟩
  obtain rfl : i = n := by omega
  rw [ao, ji]
  simp only [List.length_replicate, Int.toNat_natCast, Int.lt_irrefl, decide_false, cond_false]
  rw [← ht, List.take_of_length_le (by omega)]
 | k + 1, i, l, M, hi, hl, ht, hM => by
  obtain ⟨m, rfl⟩ : ∃ m, M = m + 1 := ⟨M - 1, by omega⟩
  rw [ao, ji]
  have h1 : i < l.length := by omega
  simp only [List.length_replicate, Int.toNat_natCast, hc i (by omega), ai, eS h1]
  rw [decide_eq_true (show ((i : Int) < (n : Int)) by omega), cond_true, Pa.bU (show i < 4611686018427387904 by omega)]
  refine FN n hn c g hc k (i + 1) (l.set i (g i)) m (by omega) (by simpa using hl) ?_ (by omega)
  rw [J3, ← ht, List.take_add_one, List.take_set_of_le (Nat.le_refl i)]
  simp [h1]
theorem iK {n : Nat} (hn : n < 1000000) {c : Int → Option Bool} {g : Nat → Bool} (hc : ∀ i, i < n → c (i : Int) = some (g i)) :
  (chk (decide (0 ≤ (n : Int))) <| chk (az (Int.toNat (n : Int)) 1) <| al (ji (n : Int) c) aq (List.replicate (Int.toNat (n : Int)) false, 0)) = some (row n g) := by
 rw [decide_eq_true (show (0 : Int) ≤ (n : Int) by omega), Sy.cQ rfl, Sy.cQ (Sy.cJ (by simp; omega) (by simp; omega))]
 have := FN n hn c g hc n 0 (List.replicate n false) aq (by omega) (by simp) (by simp [row]) (by show n < 2 ^ 64; omega)
 exact this
/-! the place behind a place -/
noncomputable def nx (n lp i : Nat) : Nat := if i + 1 = n then lp else i + 1
theorem F8 {n lp i : Nat} (h : lp < n) (hi : i < n) : nx n lp i < n := by unfold nx; split <;> omega
theorem zc {V : List (List Int)} {lp i : Nat} (h : i < 1000000) : mW (V, (lp : Int)) (i : Int) = some ((nx V.length lp i : Nat) : Int) := by
 unfold mW nx
 rw [Pa.bU (show i < 4611686018427387904 by omega)]
 by_cases h1 : i + 1 = V.length
 ·rw [if_pos h1, show (((i + 1 : Nat) : Int) == (List.length V : Int)) = true by rw [h1]; simp, cond_true]
 ·rw [if_neg h1, show (((i + 1 : Nat) : Int) == (List.length V : Int)) = false by simp; omega, cond_false]
/-! until it stays -/
noncomputable def bP (f : List Bool → List Bool) : Nat → List Bool → List Bool
 | 0, on => on
 | K + 1, on => if on = f on then on else bP f K (f on)
theorem yG {f : List Bool → List Bool} {n : Nat} (hf : ∀ on, (f on).length = n) : ∀ (K : Nat) (on : List Bool), on.length = n → (bP f K on).length = n
 | 0, on, h => h
 | K + 1, on, h => by
  unfold bP
  split
  ·exact h
  ·exact yG hf K _ (hf on)
noncomputable def uC (r : List Bool) : Nat := r.countP id
theorem zu (r : List Bool) : uC r ≤ r.length := List.countP_le_length
noncomputable def Le (a b : List Bool) : Prop := ∀ i, rd a i = true → rd b i = true
theorem C8 : ∀ {a b : List Bool}, a.length = b.length → Le a b → uC a ≤ uC b ∧ (a ≠ b → uC a < uC b)
 | [], [], _, _ => ⟨Nat.le_refl _, fun h => absurd rfl h⟩
 | [], _ :: _, h, _ => by simp at h
 | _ :: _, [], h, _ => by simp at h
 | x :: a, y :: b, h, hle => by
  obtain ⟨h1, h2⟩ := C8 (a := a) (b := b) (by simpa using h) (fun i hi => by have := hle (i + 1) (by simpa [rd, List.getD] using hi); simpa [rd, List.getD] using this)
  have h0 := hle 0
  simp only [rd, List.getD, List.getElem?_cons_zero, Option.getD_some] at h0
  unfold uC at *
  rw [List.countP_cons, List.countP_cons]
  cases x <;> cases y
  ·simp only [id, Bool.false_eq_true, if_false]
   exact ⟨by omega, fun hne => by have := h2 (fun e => hne (by rw [e])); omega⟩
  ·simp only [id, Bool.false_eq_true, if_false, if_true]
   exact ⟨by omega, fun _ => by omega⟩
  ·exact absurd (h0 rfl) (by simp)
  ·simp only [id, if_true]
   exact ⟨by omega, fun hne => by have := h2 (fun e => hne (by rw [e])); omega⟩
theorem wM {n : Nat} {f : List Bool → List Bool} {G : (List Bool → Option (List Bool)) → List Bool → Option (List Bool)} (hG : ∀ again on, on.length = n → G again on = bif !(on == f on) then again (f on) else some on)
  (hf : ∀ on, (f on).length = n) {inv : List Bool → Prop} {μ : List Bool → Nat} (hi : ∀ on, on.length = n → inv on → inv (f on) ∧ (on ≠ f on → μ (f on) < μ on)) :
  ∀ (K M : Nat) (on : List Bool), on.length = n → inv on → μ on < K → μ on < M → al G M on = some (bP f K on)
 | 0, M, on, h, hin, hK, hM => by omega
 | K + 1, M, on, h, hin, hK, hM => by
  obtain ⟨m, rfl⟩ : ∃ m, M = m + 1 := ⟨M - 1, by omega⟩
  rw [ao, hG _ on h, bP]
  by_cases e : on = f on
  ·rw [if_pos e, show (on == f on) = true by rw [← e]; simp]; rfl
  ·rw [if_neg e, show (on == f on) = false by simpa using e]
   obtain ⟨h1, h2⟩ := hi on h hin
   have := h2 e
   exact wM hG hf hi K m (f on) (hf on) h1 (by omega) (by omega)
theorem A3 (a b : List Bool) (hl : a.length = b.length) (ha : a.length < 1000000000) : ∀ (r pre s : List Bool), a = pre ++ r → b = pre ++ s → ∀ M, r.length < M → al (cB a b) M (pre.length : Int) = some (r == s)
 | [], pre, s, h, h2, M, hM => by
  obtain ⟨m, rfl⟩ : ∃ m, M = m + 1 := ⟨M - 1, by simp at hM; omega⟩
  rw [ao]
  have : s = [] := List.eq_nil_of_length_eq_zero (by rw [h, h2] at hl; simp only [List.length_append, List.length_nil] at hl; omega)
  subst this
  simp only [cB, Sy.j9 h, cond_false]
  rfl
 | x :: r, pre, [], h, h2, M, hM => by rw [h, h2] at hl; simp at hl
 | x :: r, pre, y :: s, h, h2, M, hM => by
  obtain ⟨m, rfl⟩ : ∃ m, M = m + 1 := ⟨M - 1, by omega⟩
  rw [ao]
  have hlen : pre.length + r.length + 1 = a.length := by rw [h]; simp; omega
  simp only [cB, Sy.iz h, cond_true, Sy.mid h, Sy.mid h2, ai]
  by_cases e : x = y
  ·subst e
   have ih := A3 a b hl ha r (pre ++ [x]) s (by rw [h]; simp) (by rw [h2]; simp) m (by simp at hM; omega)
   rw [show ((pre ++ [x]).length : Int) = ((pre.length + 1 : Nat) : Int) by simp] at ih
   rw [show (x != x) = false by simp, cond_false, Pa.bU (show pre.length < 4611686018427387904 by omega), ih]
   simp
  ·rw [show (x != y) = true by simpa using e, cond_true, show ((x :: r) == (y :: s)) = false by simp [e]]
theorem E8 {n : Nat} {a b : List Bool} (ha : a.length = n) (hb : b.length = n) (hn : n < 1000000) : bY a b = some (a == b) := by
 unfold bY
 rw [show ((List.length a : Int) != (List.length b : Int)) = false by rw [ha, hb]; simp, cond_false]
 exact A3 a b (by omega) (by omega) a [] b rfl rfl aq (by show _ < 2 ^ 64; omega)
noncomputable def jo (n lp : Nat) (a b on : List Bool) : List Bool := row n fun i => rd b i || (rd a i && rd on (nx n lp i))
noncomputable def pL (n lp : Nat) (a b on : List Bool) : List Bool := row n fun i => rd b i && (rd a i || rd on (nx n lp i))
noncomputable def yy (n lp : Nat) (a b : List Bool) : List Bool := bP (jo n lp a b) (n + 1) (row n fun _ => false)
noncomputable def Gm (n lp : Nat) (a b : List Bool) : List Bool := bP (pL n lp a b) (n + 1) (row n fun _ => true)
theorem xG {n i : Nat} {g : Nat → Bool} (h : ¬ i < n) : rd (row n g) i = false := by simp [rd, row, List.getD, h]
theorem Hm {n lp : Nat} {a b on on' : List Bool} (h : Le on on') : Le (jo n lp a b on) (jo n lp a b on') := fun i hi => by
 by_cases hn : i < n
 ·unfold jo at hi ⊢
  rw [yC hn] at hi ⊢
  simp only [Bool.or_eq_true, Bool.and_eq_true] at hi ⊢
  exact hi.imp_right (fun k => ⟨k.1, h _ k.2⟩)
 ·unfold jo at hi; rw [xG hn] at hi; cases hi
theorem JH {n lp : Nat} {a b on on' : List Bool} (h : Le on on') : Le (pL n lp a b on) (pL n lp a b on') := fun i hi => by
 by_cases hn : i < n
 ·unfold pL at hi ⊢
  rw [yC hn] at hi ⊢
  simp only [Bool.or_eq_true, Bool.and_eq_true] at hi ⊢
  exact ⟨hi.1, hi.2.imp_right (fun k => h _ k)⟩
 ·unfold pL at hi; rw [xG hn] at hi; cases hi
section
variable {V : List (List Int)} {lp : Nat} (hn : V.length < 1000000) (hp : lp < V.length)
include hn
theorem s9 {first : Bool} : kH (V.length : Int) first = some (row V.length fun _ => first) := by
 unfold kH
 rw [show sk (V.length : Int) first = ji (V.length : Int) (fun i => qb i first) from rfl]
 exact iK hn (fun i _ => rfl)
theorem s8 {is_ : Bool} : mL is_ (V.length : Int) = some (row V.length fun _ => is_) := by
 unfold mL rv
 rw [show sa (V.length : Int) is_ = ji (V.length : Int) (fun i => od i is_) from rfl, iK (g := fun _ => is_) hn (fun i _ => rfl), ai]
include hp
theorem D5 {a b : List Bool} (ha : a.length = V.length) (hb : b.length = V.length) : nS (V, (lp : Int)) a b = some (yy V.length lp a b) := by
 unfold nS uR yy
 simp only
 rw [s9 hn, ai]
 have hG : ∀ again on, on.length = V.length → pR (V, (lp : Int)) b a V (lp : Int) again on = bif !(on == jo V.length lp a b on) then again (jo V.length lp a b on) else some on := fun again on ho => by
  unfold pR qm
  simp only
  rw [show q7 (V.length : Int) on b a V (lp : Int) = ji (V.length : Int) (fun i => lP i on b a V (lp : Int)) from rfl, iK (g := fun i => rd b i || (rd a i && rd on (nx V.length lp i))) hn (fun i hi => ?_), ai]
  ·rw [E8 (n := V.length) ho dO hn, ai]
   rfl
  ·have hx := F8 hp hi
   unfold lP l8
   simp only [eS (show i < b.length by omega), eS (show i < a.length by omega), zc (show i < 1000000 by omega), ai, aM, pq]
   cases h1 : rd b i <;> cases h2 : rd a i <;> simp [cN, jR, eS (show nx V.length lp i < on.length by omega)]
 have := wM (f := jo V.length lp a b) (n := V.length) hG (fun on => dO) (inv := fun on => Le on (jo V.length lp a b on)) (μ := fun on => V.length - uC on)
  (fun on ho hin => ⟨Hm hin, fun hne => by
   have h1 := (C8 (b := jo V.length lp a b on) (by rw [ho]; exact dO.symm) hin).2 hne
   have h2 := zu (jo V.length lp a b on)
   have h3 : (jo V.length lp a b on).length = V.length := dO
   omega⟩) (V.length + 1) aq (row V.length fun _ => false) dO (fun i hi => by
   by_cases h : i < V.length
   ·rw [yC h] at hi; cases hi
   ·rw [xG h] at hi; cases hi) (by omega) (by show _ < 2 ^ 64; omega)
 rw [this, ai]
theorem Iw {a b : List Bool} (ha : a.length = V.length) (hb : b.length = V.length) : kE (V, (lp : Int)) a b = some (Gm V.length lp a b) := by
 unfold kE pY Gm
 simp only
 rw [s9 hn, ai]
 have hG : ∀ again on, on.length = V.length → mN (V, (lp : Int)) b a V (lp : Int) again on = bif !(on == pL V.length lp a b on) then again (pL V.length lp a b on) else some on := fun again on ho => by
  unfold mN pZ
  simp only
  rw [show qI (V.length : Int) on b a V (lp : Int) = ji (V.length : Int) (fun i => jE i on b a V (lp : Int)) from rfl, iK (g := fun i => rd b i && (rd a i || rd on (nx V.length lp i))) hn (fun i hi => ?_), ai]
  ·rw [E8 (n := V.length) ho dO hn, ai]
   rfl
  ·have hx := F8 hp hi
   unfold jE km
   simp only [eS (show i < b.length by omega), eS (show i < a.length by omega), zc (show i < 1000000 by omega), ai, aM, pq]
   cases h1 : rd b i <;> cases h2 : rd a i <;> simp [cN, jR, eS (show nx V.length lp i < on.length by omega)]
 have := wM (f := pL V.length lp a b) (n := V.length) hG (fun on => dO) (inv := fun on => Le (pL V.length lp a b on) on) (μ := fun on => uC on)
  (fun on ho hin => ⟨JH hin, fun hne => (C8 (a := pL V.length lp a b on) (by rw [ho]; exact dO) hin).2 (fun e => hne e.symm)⟩) (V.length + 1) aq (row V.length fun _ => true) dO (fun i hi => by
   by_cases h : i < V.length
   ·rw [yC h]
   ·unfold pL at hi; rw [xG h] at hi; cases hi) (by
    have := zu (row V.length fun _ => true)
    rw [dO] at this
    omega) (by
    have := zu (row V.length fun _ => true)
    rw [dO] at this
    show _ < 2 ^ 64; omega)
 rw [this, ai]
end
/-! what a formula says of each place -/
noncomputable def comb (n lp : Nat) (op : Int) (a b : List Bool) : List Bool :=
 if op = 15 then row n fun i => !rd a i
 else if op = 16 then row n fun i => rd a i && rd b i
 else if op = 17 then row n fun i => rd a i || rd b i
 else if op = 18 then row n fun i => !rd a i || rd b i
 else if op = 19 then row n fun i => rd a i == rd b i
 else if op = 20 then row n fun i => rd a (nx n lp i)
 else if op = 21 then yy n lp (row n fun _ => true) a
 else if op = 22 then Gm n lp (row n fun _ => false) a
 else if op = 23 then yy n lp a b
 else Gm n lp a b
theorem JQ {n lp : Nat} {op : Int} {a b : List Bool} : (comb n lp op a b).length = n := by
 unfold comb
 repeat' split
 all_goals first | exact dO | exact yG (fun _ => dO) _ _ dO
mutual
noncomputable def sm (V : List (List Int)) (lp : Nat) : Ex → List Bool
 | .mk op n a l => bif ve (.mk op n a l) then V.map (fun v => ev v (.mk op n a l) == 1) else comb V.length lp op (sm0 V lp l) (sm1 V lp l)
noncomputable def sm0 (V : List (List Int)) (lp : Nat) : List Ex → List Bool
 | [] => []
 | x :: _ => sm V lp x
noncomputable def sm1 (V : List (List Int)) (lp : Nat) : List Ex → List Bool
 | [] => []
 | _ :: r => sm0 V lp r
end
theorem Mc (V : List (List Int)) (lp : Nat) (e : Ex) : sm V lp e = bif ve e then V.map (fun v => ev v e == 1) else comb V.length lp e.op (sm0 V lp e.l) (sm1 V lp e.l) := by
 cases e; simp only [sm, Ex.op, Ex.l]
theorem yq (V : List (List Int)) (lp : Nat) (e : Ex) : (sm V lp e).length = V.length := by
 rw [Mc]
 cases ve e
 ·exact JQ
 ·simp
theorem Ma {V : List (List Int)} {lp : Nat} (hn : V.length < 1000000) (hp : lp < V.length) {e : Ex} {a b : List Bool} (ha : a.length = V.length) (hb : b.length = V.length ∨ e.op = 15 ∨ e.op = 20 ∨ e.op = 21 ∨ e.op = 22) :
  oQ e (V, (lp : Int)) a b = some (comb V.length lp e.op a b) := by
 unfold oQ comb
 simp only
 by_cases h15 : e.op = 15
 ·rw [if_pos h15, show (e.op == 15) = true by simpa using h15, cond_true]
  unfold ra
  rw [show rS (V.length : Int) a = ji (V.length : Int) (fun i => oI i a) from rfl, iK (g := fun i => !rd a i) hn (fun i hi => by unfold oI; rw [eS (by omega), ai]), ai]
 rw [if_neg h15, show (e.op == 15) = false by simpa using h15, cond_false]
 by_cases h16 : e.op = 16
 ·have hb : b.length = V.length := by omega
  rw [if_pos h16, show (e.op == 16) = true by simpa using h16, cond_true]
  unfold rb
  rw [show sG (V.length : Int) a b = ji (V.length : Int) (fun i => oW i a b) from rfl, iK (g := fun i => rd a i && rd b i) hn (fun i hi => by
   unfold oW
   simp only [eS (show i < a.length by omega), eS (show i < b.length by omega), ai, aM, pq]
   cases rd a i <;> rfl), ai]
 rw [if_neg h16, show (e.op == 16) = false by simpa using h16, cond_false]
 by_cases h17 : e.op = 17
 ·have hb : b.length = V.length := by omega
  rw [if_pos h17, show (e.op == 17) = true by simpa using h17, cond_true]
  unfold rA
  rw [show rY (V.length : Int) a b = ji (V.length : Int) (fun i => o9 i a b) from rfl, iK (g := fun i => rd a i || rd b i) hn (fun i hi => by
   unfold o9
   simp only [eS (show i < a.length by omega), eS (show i < b.length by omega), ai, aM, pq]
   cases rd a i <;> rfl), ai]
 rw [if_neg h17, show (e.op == 17) = false by simpa using h17, cond_false]
 by_cases h18 : e.op = 18
 ·have hb : b.length = V.length := by omega
  rw [if_pos h18, show (e.op == 18) = true by simpa using h18, cond_true]
  unfold rq
  rw [show sn (V.length : Int) a b = ji (V.length : Int) (fun i => pg i a b) from rfl, iK (g := fun i => !rd a i || rd b i) hn (fun i hi => by
   unfold pg
   simp only [eS (show i < a.length by omega), eS (show i < b.length by omega), ai, aM, pq]
   cases rd a i <;> rfl), ai]
 rw [if_neg h18, show (e.op == 18) = false by simpa using h18, cond_false]
 by_cases h19 : e.op = 19
 ·have hb : b.length = V.length := by omega
  rw [if_pos h19, show (e.op == 19) = true by simpa using h19, cond_true]
  unfold rH
  rw [show sb (V.length : Int) a b = ji (V.length : Int) (fun i => oR i a b) from rfl, iK (g := fun i => rd a i == rd b i) hn (fun i hi => by
   unfold oR
   simp only [eS (show i < a.length by omega), eS (show i < b.length by omega), ai]), ai]
 rw [if_neg h19, show (e.op == 19) = false by simpa using h19, cond_false]
 by_cases h20 : e.op = 20
 ·rw [if_pos h20, show (e.op == 20) = true by simpa using h20, cond_true]
  unfold ru
  rw [show sf (V.length : Int) a V (lp : Int) = ji (V.length : Int) (fun i => oz i a V (lp : Int)) from rfl, iK (g := fun i => rd a (nx V.length lp i)) hn (fun i hi => by
   unfold oz
   have := F8 hp hi
   rw [zc (by omega), ai, eS (by omega), ai]), ai]
 rw [if_neg h20, show (e.op == 20) = false by simpa using h20, cond_false]
 by_cases h21 : e.op = 21
 ·rw [if_pos h21, show (e.op == 21) = true by simpa using h21, cond_true, s8 hn, ai, D5 hn hp dO ha, ai]
 rw [if_neg h21, show (e.op == 21) = false by simpa using h21, cond_false]
 by_cases h22 : e.op = 22
 ·rw [if_pos h22, show (e.op == 22) = true by simpa using h22, cond_true, s8 hn, ai, Iw hn hp dO ha, ai]
 rw [if_neg h22, show (e.op == 22) = false by simpa using h22, cond_false]
 have hb : b.length = V.length := by omega
 by_cases h23 : e.op = 23
 ·rw [if_pos h23, show (e.op == 23) = true by simpa using h23, cond_true, D5 hn hp ha hb, ai]
 ·rw [if_neg h23, show (e.op == 23) = false by simpa using h23, cond_false, Iw hn hp ha hb, ai]
theorem OH {α : Type} {x : α} {r : List α} : idx (x :: r) 0 = some x := rfl
theorem all_some {vars : Int} {V : List (List Int)} {lp : Nat} (hn : V.length < 1000000) (hp : lp < V.length) : ∀ (N : Nat) (e : Ex), e.sz ≤ N → Fm vars e → al (fun k (s : Ex × List (List Int) × Int) => j3 k s.1 s.2) N (e, (V, (lp : Int))) = some (sm V lp e) := by
 intro N
 induction N with
 | zero => intro e h; have := kC e; omega
 | succ N ih =>
  intro e h hf
  rw [ao]
  show j3 (al (fun k (s : Ex × List (List Int) × Int) => j3 k s.1 s.2) N) e (V, (lp : Int)) = _
  generalize al (fun k (s : Ex × List (List Int) × Int) => j3 k s.1 s.2) N = k at ih
  unfold j3
  rw [O7 hf.sz, ai, Mc]
  cases hl : ve e
  ·rw [cond_false, cond_false]
   have P := hf.parts hl
   have hlo := P.lo
   have hhi := P.hi
   have hw := P.len
   have hsz := fun x (hx : x ∈ e.l) => iB hx
   have hfm := P.fm
   generalize e.l = L at hw hsz hfm ⊢
   match L, hw, hsz, hfm with
   | [], hw, _, _ =>
    exfalso
    unfold fC at hw
    rw [show ((e.op == 1) || (e.op == 2) || (e.op == 13) || (e.op == 14)) = false by simp; omega, cond_false] at hw
    cases h : (e.op == 6) || (e.op == 15) || (e.op == 20) || (e.op == 21) || (e.op == 22) <;> rw [h] at hw <;> simp at hw
   | [x], hw, hsz, hfm =>
    rw [OH, ai, ih x (by have := hsz x (by simp); omega) (hfm x (by simp)), ai]
    have hop : e.op = 15 ∨ e.op = 20 ∨ e.op = 21 ∨ e.op = 22 := by
     unfold fC at hw
     rw [show ((e.op == 1) || (e.op == 2) || (e.op == 13) || (e.op == 14)) = false by simp; omega, cond_false] at hw
     cases h : (e.op == 6) || (e.op == 15) || (e.op == 20) || (e.op == 21) || (e.op == 22)
     ·rw [h] at hw; simp at hw
     ·simp at h; omega
    simp only [aM]
    rw [show (decide ((1 : Int) < (List.length [x] : Int))) = false by simp, cond_false, Ma hn hp (yq V lp x) (.inr hop)]
    rfl
   | x :: y :: r, hw, hsz, hfm =>
    rw [OH, ai, ih x (by have := hsz x (by simp); omega) (hfm x (by simp)), ai]
    simp only [aM]
    rw [show (decide ((1 : Int) < (List.length (x :: y :: r) : Int))) = true by simp; omega, cond_true, show idx (x :: y :: r) 1 = some y from rfl, ai, ih y (by have := hsz y (by simp); omega) (hfm y (by simp)), ai,
     Ma hn hp (yq V lp x) (.inl (yq V lp y))]
    rfl
  ·rw [cond_true, cond_true]
   unfold sS
   have hsz := hf.sz
   have hg : ∀ i, i < V.length → lR (i : Int) e.op e.n e.at_ e.l V (lp : Int) = some (rd (V.map fun v => ev v e == 1) i) := fun i hi => by
    unfold lR
    have h1 : idx V (i : Int) = some V[i] := by
     unfold idx
     rw [if_pos (by omega), show ((i : Int)).toNat = i from rfl, List.getElem?_eq_getElem hi]
    rw [h1, ai, Ex.eta, zb e hsz, ai]
    simp [rd, List.getD, hi]
   simp only
   rw [show wc (V.length : Int) e.op e.n e.at_ e.l V (lp : Int) = ji (V.length : Int) (fun i => lR i e.op e.n e.at_ e.l V (lp : Int)) from rfl, iK hn hg, ai, N7 (by simp)]
theorem OS {vars : Int} {V : List (List Int)} {lp : Nat} (hn : V.length < 1000000) (hp : lp < V.length) {e : Ex} (h : Fm vars e) : vt e (V, (lp : Int)) = some (sm V lp e) := all_some hn hp aq e (by have := h.sz; show _ ≤ 2 ^ 64; omega) h
theorem K4 {vars : Int} {V : List (List Int)} {lp : Nat} (hn : V.length < 1000000) (hp : lp < V.length) {e : Ex} (h : Fm vars e) : nT e (V, (lp : Int)) = some (rd (sm V lp e) 0) := by
 unfold nT
 rw [OS hn hp h, ai]
 have := eS (r := sm V lp e) (i := 0) (by rw [yq]; omega)
 rw [show ((0 : Nat) : Int) = 0 from rfl] at this
 rw [this, ai]
end Ls
end Go.Proofs.YtpnogcmollnjeaaGreatDoor
namespace Go.Proofs.YtpnogcmollnjeaaGreatDoor
theorem FL (name : Str) : ez name = some (kb.contains name) := by
 unfold ez l5 kb
 simp only [List.contains_cons, List.contains_nil, Bool.or_false]
 cases (name == [116, 114, 117, 101])
 case true => rfl
 cases (name == [102, 97, 108, 115, 101])
 case true => rfl
 cases (name == [88])
 case true => rfl
 cases (name == [70])
 case true => rfl
 cases (name == [71])
 case true => rfl
 cases (name == [85])
 case true => rfl
 cases (name == [82])
 case true => rfl
 cases (name == [118, 97, 114])
 case true => rfl
 cases (name == [112, 114, 111, 99]) <;> rfl
end Go.Proofs.YtpnogcmollnjeaaGreatDoor
namespace Go.Proofs.YtpnogcmollnjeaaGreatDoor
namespace Pa
open Job
noncomputable def sR (w : Bool) (x : Str) : Bool := match x with
 | [] => false
 | c :: _ => isLet c == w && kb.contains x == w
theorem Cc {t : Tok} (h : dH t) {x : Str} (hx : sR true x = true) : (sgn t && (x == t.2.1)) = ((t.1 == 1) && (t.2.1 == x)) := by
 obtain ⟨k, y, n, p⟩ := t
 simp only [dH] at h
 simp only [sgn, key]
 by_cases he : y = x
 ·subst he
  rcases h with ⟨rfl, c, s, hy, hc⟩ | rfl | ⟨rfl, h3⟩ | rfl
  ·subst hy
   simp only [sR, Bool.and_eq_true, beq_iff_eq] at hx
   rw [hx.2]; simp
  ·simp
  ·cases y with
   | nil => cases hx
   | cons c s =>
    simp only [sR, Bool.and_eq_true, beq_iff_eq] at hx
    rw [h3 c s rfl] at hx; cases hx.1
  ·simp
 ·have e1 : (x == y) = false := beq_eq_false_iff_ne.2 (fun e => he e.symm)
  have e2 : (y == x) = false := beq_eq_false_iff_ne.2 he
  rw [e1, e2]; simp
theorem O6 {t : Tok} (h : dH t) {x : Str} (hx : sR false x = true) : (sgn t && (x == t.2.1)) = ((t.1 == 3) && (t.2.1 == x)) := by
 obtain ⟨k, y, n, p⟩ := t
 simp only [dH] at h
 simp only [sgn, key]
 by_cases he : y = x
 ·subst he
  rcases h with ⟨rfl, c, s, hy, hc⟩ | rfl | ⟨rfl, h3⟩ | rfl
  ·subst hy
   simp only [sR, Bool.and_eq_true, beq_iff_eq] at hx
   rw [hx.1] at hc; cases hc
  ·simp
  ·simp
  ·simp
 ·have e1 : (x == y) = false := beq_eq_false_iff_ne.2 (fun e => he e.symm)
  have e2 : (y == x) = false := beq_eq_false_iff_ne.2 he
  rw [e1, e2]; simp
noncomputable def eN (t : Tok) : Bool := (t.1 != 2) && (t.1 != 4)
theorem hit {t : Tok} (h : dH t) {x : Str} {w : Bool} (hx : sR w x = true) : (sgn t && (x == t.2.1)) = (eN t && (t.2.1 == x)) := by
 by_cases he : t.2.1 = x
 ·rcases h with ⟨h1, c, s, hy, hc⟩ | h2 | ⟨h3, h4⟩ | h4
  ·rw [he] at hy
   have hk : kb.contains x = true := by
    subst hy
    simp only [sR, Bool.and_eq_true, beq_iff_eq] at hx
    rw [hx.2, ← hx.1]; exact hc
   have hm : x ∈ kb := by simpa using hk
   simp [sgn, key, eN, h1, he, hm]
  ·simp [sgn, eN, h2]
  ·simp [sgn, eN, h3, he]
  ·simp [sgn, eN, h4]
 ·have e1 : (x == t.2.1) = false := beq_eq_false_iff_ne.2 (fun e => he e.symm)
  have e2 : (t.2.1 == x) = false := beq_eq_false_iff_ne.2 he
  rw [e1, e2]; simp
theorem iD (t : Tok) : fnd [] t = none := by unfold fnd; cases sgn t <;> rfl
theorem gf (o : Int) (l : List Int) (t : Tok) : fnd (o :: l) t = bif (sgn t && (aU o == t.2.1)) then some o else fnd l t := by
 unfold fnd
 cases sgn t
 ·rfl
 ·simp only [cond_true, List.find?_cons, Bool.true_and]
  cases aU o == t.2.1 <;> rfl
noncomputable def opt (o : Option Int) : Int := o.getD 0
theorem P5 {t : Tok} (h : dH t) : bk t 1 = some (opt (bF 1 t)) := by
 have e := hit h (x := aU 19) (w := false) rfl
 simp only [bF, ops, gf, iD, e]
 show (bif eN t then (bif (t.2.1 == aU 19) then some 19 else some 0) else some 0) = _
 cases eN t <;> cases (t.2.1 == aU 19) <;> rfl
theorem PZ {t : Tok} (h : dH t) : bk t 2 = some (opt (bF 2 t)) := by
 have e := hit h (x := aU 18) (w := false) rfl
 simp only [bF, ops, gf, iD, e]
 show (bif eN t then (bif (t.2.1 == aU 18) then some 18 else some 0) else some 0) = _
 cases eN t <;> cases (t.2.1 == aU 18) <;> rfl
theorem Qa {t : Tok} (h : dH t) : bk t 3 = some (opt (bF 3 t)) := by
 have e := hit h (x := aU 17) (w := false) rfl
 simp only [bF, ops, gf, iD, e]
 show (bif eN t then (bif (t.2.1 == aU 17) then some 17 else some 0) else some 0) = _
 cases eN t <;> cases (t.2.1 == aU 17) <;> rfl
theorem P1 {t : Tok} (h : dH t) : bk t 4 = some (opt (bF 4 t)) := by
 have e := hit h (x := aU 16) (w := false) rfl
 simp only [bF, ops, gf, iD, e]
 show (bif eN t then (bif (t.2.1 == aU 16) then some 16 else some 0) else some 0) = _
 cases eN t <;> cases (t.2.1 == aU 16) <;> rfl
theorem P0 {t : Tok} (h : dH t) : bk t 5 = some (opt (bF 5 t)) := by
 have e := hit h (x := aU 23) (w := true) rfl
 have e2 := hit h (x := aU 24) (w := true) rfl
 simp only [bF, ops, gf, iD, e, e2]
 show (bif eN t then (bif (t.2.1 == aU 23) then some 23 else (bif (t.2.1 == aU 24) then some 24 else some 0)) else some 0) = _
 cases eN t <;> cases (t.2.1 == aU 23) <;> cases (t.2.1 == aU 24) <;> rfl
theorem Qe {t : Tok} (h : dH t) : bk t 8 = some (opt (bF 8 t)) := by
 have e := hit h (x := aU 3) (w := false) rfl
 have e2 := hit h (x := aU 4) (w := false) rfl
 simp only [bF, ops, gf, iD, e, e2]
 show (bif eN t then (bif (t.2.1 == aU 3) then some 3 else (bif (t.2.1 == aU 4) then some 4 else some 0)) else some 0) = _
 cases eN t <;> cases (t.2.1 == aU 3) <;> cases (t.2.1 == aU 4) <;> rfl
theorem Qf {t : Tok} (h : dH t) : bk t 9 = some (opt (bF 9 t)) := by
 have e := hit h (x := aU 5) (w := false) rfl
 simp only [bF, ops, gf, iD, e]
 show (bif eN t then (bif (t.2.1 == aU 5) then some 5 else some 0) else some 0) = _
 cases eN t <;> cases (t.2.1 == aU 5) <;> rfl
theorem P8 {t : Tok} (h : dH t) : bk t 7 = some (opt (bF 7 t)) := by
 have e1 := hit h (x := aU 7) (w := false) rfl
 have e2 := hit h (x := aU 8) (w := false) rfl
 have e3 := hit h (x := aU 9) (w := false) rfl
 have e4 := hit h (x := aU 10) (w := false) rfl
 have e5 := hit h (x := aU 11) (w := false) rfl
 have e6 := hit h (x := aU 12) (w := false) rfl
 simp only [bF, ops, gf, iD, e1, e2, e3, e4, e5, e6]
 obtain ⟨m, hm⟩ : ∃ m, aq = m + 7 := ⟨18446744073709551609, rfl⟩
 unfold bk
 rw [hm]
 clear hm
 have hq : (ab (t.1 != 2) fun b5 => ab (t.1 != 4) fun b7 => ab (b5 && b7) fun b9 => bif b9 then al (aC t) (m + 7) 0 else some 0) = (bif eN t then al (aC t) (m + 7) 0 else some 0) := rfl
 refine Eq.trans (b := bif eN t then al (aC t) (m + 7) 0 else some 0) rfl ?_
 clear hq
 have s0 : al (aC t) (m + 7) 0 = bif (t.2.1 == aU 7) then some 7 else al (aC t) (m + 6) 1 := rfl
 have s1 : al (aC t) (m + 6) 1 = bif (t.2.1 == aU 8) then some 8 else al (aC t) (m + 5) 2 := rfl
 have s2 : al (aC t) (m + 5) 2 = bif (t.2.1 == aU 9) then some 9 else al (aC t) (m + 4) 3 := rfl
 have s3 : al (aC t) (m + 4) 3 = bif (t.2.1 == aU 10) then some 10 else al (aC t) (m + 3) 4 := rfl
 have s4 : al (aC t) (m + 3) 4 = bif (t.2.1 == aU 11) then some 11 else al (aC t) (m + 2) 5 := rfl
 have s5 : al (aC t) (m + 2) 5 = bif (t.2.1 == aU 12) then some 12 else al (aC t) (m + 1) 6 := rfl
 have s6 : al (aC t) (m + 1) 6 = some 0 := rfl
 rw [s0, s1, s2, s3, s4, s5, s6]
 cases eN t
 ·rfl
 cases (t.2.1 == aU 7)
 case true => rfl
 cases (t.2.1 == aU 8)
 case true => rfl
 cases (t.2.1 == aU 9)
 case true => rfl
 cases (t.2.1 == aU 10)
 case true => rfl
 cases (t.2.1 == aU 11)
 case true => rfl
 cases (t.2.1 == aU 12) <;> rfl
theorem L3 {t : Tok} (h : dH t) {s : Nat} (h1 : 1 ≤ s) (h9 : s ≤ 9) (h6 : s ≠ 6) : bk t (s : Int) = some (opt (bF s t)) := by
 have : s = 1 ∨ s = 2 ∨ s = 3 ∨ s = 4 ∨ s = 5 ∨ s = 7 ∨ s = 8 ∨ s = 9 := by omega
 rcases this with rfl | rfl | rfl | rfl | rfl | rfl | rfl | rfl
 ·exact P5 h
 ·exact PZ h
 ·exact Qa h
 ·exact P1 h
 ·exact P0 h
 ·exact P8 h
 ·exact Qe h
 ·exact Qf h
theorem xf {s : Nat} {t : Tok} {k : Int} (h : bF s t = some k) : (k == 0) = false := by
 have key : ∀ l : List Int, (l.all fun o => o != 0) = true → fnd l t = some k → (k == 0) = false := fun l hl h => by
  unfold fnd at h
  cases hs : sgn t
  ·rw [hs] at h; cases h
  ·rw [hs] at h
   have := List.mem_of_find?_eq_some h
   have := List.all_eq_true.1 hl k this
   simpa using this
 refine key (ops s) ?_ h
 match s with
 | 0 => rfl
 | 1 => rfl
 | 2 => rfl
 | 3 => rfl
 | 4 => rfl
 | 5 => rfl
 | 6 => rfl
 | 7 => rfl
 | 8 => rfl
 | 9 => rfl
 | 10 => rfl
 | 11 => rfl
 | n + 12 => rfl
/-! what the parser hands back -/
abbrev R4 := Ex × Int × Int × Int
abbrev LF := (Int × Int × List Tok × Int × List Str × Int × Int) → Option R4
noncomputable def RR (l : List Tok) (r : Out) (m : Option R4) : Prop := match r with
 | .ok (x, ts) => ∃ a : Nat, l.drop a = ts ∧ m = some (x, (a : Int), 0, 0)
 | .error (b, p) => ∃ x a, m = some (x, a, b, p)
theorem rT {names : List Str} {j : Job} {d : Int} {ts : List Tok} {b p : Int} (h : P names j d ts (.error (b, p))) : (b != 0) = true := by
 rcases h.err _ rfl with h | h | h <;> (simp only at h; subst h; rfl)
theorem vr {l : List Tok} {a : Nat} {t : Tok} (h : idx l (a : Int) = some t) (b : Int) (names : List Str) (p : Int) : aL b l (a : Int) names 0 p = some (.mk 0 0 0 [], b, t.2.2.2) := by
 unfold aL
 rw [h]; rfl
noncomputable def eQ (names : List Str) (v : Str) (i : Nat) : Option Nat := ((names.drop i).findIdx? (fun x => v == x)).map (· + i)
theorem wg (names : List Str) (v : Str) : eQ names v 0 = at_ names v := by
 unfold eQ at_
 simp
theorem Lj {l : List Tok} {a : Nat} {t : Tok} {names : List Str} (hn : names.length < 4611686018427387904) (ha : a < 4611686018427387904) (ht : idx l (a : Int) = some t) :
  ∀ (m i M : Nat), names.length - i ≤ m → i ≤ names.length → m < M →
   al (ca l (a : Int) names 0 0 t) M (i : Int) =
    match eQ names t.2.1 i with
    | some j => some (.mk 2 (j : Int) t.2.2.2 [], ((a + 1 : Nat) : Int), 0, 0)
    | none => some (.mk 0 0 0 [], (a : Int), 3, t.2.2.2) := by
 intro m
 induction m with
 | zero =>
  intro i M h1 h2 h3
  obtain ⟨M, rfl⟩ : ∃ k, M = k + 1 := ⟨M - 1, by omega⟩
  have hi : i = names.length := by omega
  subst hi
  rw [ao]
  have e : eQ names t.2.1 names.length = none := by unfold eQ; simp
  rw [e]
  simp only [ca, decide_eq_false (show ¬ ((names.length : Int) < (List.length names : Int)) by omega), cond_false, vr ht, ai]
 | succ m ih =>
  intro i M h1 h2 h3
  obtain ⟨M, rfl⟩ : ∃ k, M = k + 1 := ⟨M - 1, by omega⟩
  rw [ao]
  by_cases hi : i < names.length
  ·have hd : names.drop i = names[i] :: names.drop (i + 1) := List.drop_eq_getElem_cons hi
   have hx : idx names (i : Int) = some names[i] := by simp [idx, List.getElem?_eq_getElem hi]
   simp only [ca, decide_eq_true (show ((i : Nat) : Int) < (List.length names : Int) by omega), cond_true, hx, ai, bU ha, bU (show i < 4611686018427387904 by omega)]
   have e : eQ names t.2.1 i = bif (names[i] == t.2.1) then some i else eQ names t.2.1 (i + 1) := by
    unfold eQ
    rw [hd, List.findIdx?_cons]
    have : (t.2.1 == names[i]) = (names[i] == t.2.1) := by
     by_cases h : t.2.1 = names[i]
     ·rw [h]
     ·rw [beq_eq_false_iff_ne.2 h, beq_eq_false_iff_ne.2 (fun e => h e.symm)]
    rw [this]
    cases (names[i] == t.2.1)
    ·simp only [cond_false, Bool.false_eq_true, if_false, Option.map_map]
     congr 1
     funext x
     simp only [Function.comp]; omega
    ·simp
   rw [e]
   cases (names[i] == t.2.1)
   ·simp only [cond_false]
    exact ih (i + 1) M (by omega) (by omega) (by omega)
   ·rfl
  ·have hi : i = names.length := by omega
   subst hi
   have e : eQ names t.2.1 names.length = none := by unfold eQ; simp
   rw [e]
   simp only [ca, decide_eq_false (show ¬ ((names.length : Int) < (List.length names : Int)) by omega), cond_false, vr ht, ai]
noncomputable def SR (names : List Str) (l : List Tok) (k : LF) (s : Nat) (d : Int) (a : Nat) : Prop := ∃ r, P names (line s) d (l.drop a) r ∧ RR l r (k ((s : Int), d, l, (a : Int), names, 0, 0))
theorem Pc {names : List Str} (hn : names.length < 4611686018427387904) {l : List Tok} (hl : l.length < 4611686018427387904) (htok : ∀ t ∈ l, dH t) {k : LF} {d : Int} {a : Nat} (he : Ends (l.drop a))
  (hk : Ends (l.drop (a + 1)) → SR names l k 1 d (a + 1)) : ∃ r, P names (line 11) d (l.drop a) r ∧ RR l r (bX k d l (a : Int) names 0 0) := by
 obtain ⟨t, ts, hts⟩ := he.ne
 obtain ⟨hx, hd1, hlt, hmem⟩ := jr hts
 have hok := htok t hmem
 have ha : a < 4611686018427387904 := by omega
 have eT := Cc hok (x := aU 13) rfl
 have eF := Cc hok (x := aU 14) rfl
 have h11 : bF 11 t = bif ((t.1 == 1) && (t.2.1 == aU 13)) then some 13 else bif ((t.1 == 1) && (t.2.1 == aU 14)) then some 14 else none := by
  simp only [bF, ops, gf, iD, eT, eF]
 rw [hts]
 unfold bX
 simp only [hx, ai, aM, FL, bU ha]
 cases h2 : (t.1 == 2)
 case true =>
  have h1 : (t.1 == 1) = false := by have := beq_iff_eq.1 h2; rw [this]; rfl
  exact ⟨_, .oNum rfl (by rw [h11, h1]; rfl) h2, a + 1, hd1, rfl⟩
 simp only [cond_false]
 cases hT : ((t.1 == 1) && (t.2.1 == aU 13))
 case true =>
  rw [show ((t.1 == 1) && (t.2.1 == [116, 114, 117, 101])) = true from hT]
  exact ⟨_, .oWord rfl (by rw [h11, hT]; rfl), a + 1, hd1, rfl⟩
 rw [show ((t.1 == 1) && (t.2.1 == [116, 114, 117, 101])) = false from hT]
 simp only [cond_false]
 cases hF : ((t.1 == 1) && (t.2.1 == aU 14))
 case true =>
  rw [show ((t.1 == 1) && (t.2.1 == [102, 97, 108, 115, 101])) = true from hF]
  exact ⟨_, .oWord rfl (by rw [h11, hT, hF]; rfl), a + 1, hd1, rfl⟩
 rw [show ((t.1 == 1) && (t.2.1 == [102, 97, 108, 115, 101])) = false from hF]
 simp only [cond_false]
 have hno : bF 11 t = none := by rw [h11, hT, hF]; rfl
 cases hN : ((t.1 == 1) && !(kb.contains t.2.1))
 case true =>
  have hname : oO t = true := hN
  simp only [cond_true]
  have := Lj hn ha hx names.length 0 aq (by omega) (by omega) (by show names.length < 2 ^ 64; omega)
  rw [show ((0 : Nat) : Int) = 0 from rfl, wg] at this
  rw [this]
  cases hat : at_ names t.2.1 with
  | some j => exact ⟨_, .oVar rfl hno h2 hname hat, a + 1, hd1, rfl⟩
  | none => exact ⟨_, .oName rfl hno h2 hname hat, _, _, rfl⟩
 have hname : oO t = false := hN
 simp only [cond_false]
 cases hO : (((t.1 != 3) || (t.2.1 != [40])) : Bool)
 case true =>
  have hop : open_ t = false := by
   unfold open_
   simp only [Bool.or_eq_true, bne_iff_ne] at hO
   rcases hO with h | h
   ·rw [beq_eq_false_iff_ne.2 h]; rfl
   ·rw [beq_eq_false_iff_ne.2 h, Bool.and_false]
  simp only [cond_true, vr hx, ai]
  exact ⟨_, .oForm rfl hno h2 hname hop, _, _, rfl⟩
 have h3 : t.1 = 3 ∧ t.2.1 = [40] := by
  simp only [Bool.or_eq_false_iff, bne_eq_false_iff_eq] at hO
  exact hO
 have hop : open_ t = true := by unfold open_; rw [h3.1, h3.2]; rfl
 have he1 : Ends ts := by rw [hts] at he; exact he.tail (by rw [h3.1]; decide)
 obtain ⟨r, hr, hm⟩ := hk (by rw [hd1]; exact he1)
 rw [hd1] at hr
 simp only [cond_false]
 match r, hr, hm with
 | .error (b, p), hr, ⟨x, a', hm⟩ =>
  have hb := rT hr
  rw [show ((1 : Nat) : Int) = 1 from rfl] at hm
  rw [hm, ai]
  simp only [hb, cond_true]
  exact ⟨_, .oErr rfl hno h2 hname hop hr, _, _, rfl⟩
 | .ok (x, ts'), hr, ⟨a', ha', hm⟩ =>
  rw [show ((1 : Nat) : Int) = 1 from rfl] at hm
  obtain ⟨he', hsh⟩ := hr.ends he1 _ rfl
  obtain ⟨c, ts2, hc⟩ := he'.ne
  simp only at hc
  subst hc
  obtain ⟨hxc, hdc, hltc, hmemc⟩ := jr ha'
  rw [hm, ai]
  simp only [bne_self_eq_false, cond_false, hxc, ai, bU (show a' < 4611686018427387904 by omega)]
  by_cases hc3 : c.1 = 3
  ·have e3 : (c.1 != 3) = false := by rw [hc3]; rfl
   simp only [e3, Bool.not_false, cN, ai, Bool.false_or]
   cases hcl : (c.2.1 != [41])
   ·have : close_ c = true := by
     unfold close_
     rw [hc3, bne_eq_false_iff_eq.1 hcl]; rfl
    exact ⟨_, .oOpen rfl hno h2 hname hop hr this, a' + 1, hdc, rfl⟩
   ·have : close_ c = false := by
     unfold close_
     rw [beq_eq_false_iff_ne.2 (bne_iff_ne.1 hcl), Bool.and_false]
    simp only [cond_true, vr hxc, ai]
    exact ⟨_, .oClose rfl hno h2 hname hop hr this, _, _, rfl⟩
  ·have e3 : (c.1 != 3) = true := bne_iff_ne.2 hc3
   have : close_ c = false := by
    unfold close_
    rw [beq_eq_false_iff_ne.2 hc3]; rfl
   simp only [e3, Bool.not_true, jR, Bool.true_or, cond_true, vr hxc, ai]
   exact ⟨_, .oClose rfl hno h2 hname hop hr this, _, _, rfl⟩
end Pa
end Go.Proofs.YtpnogcmollnjeaaGreatDoor
namespace Go.Proofs.YtpnogcmollnjeaaGreatDoor
namespace Pa
open Job
theorem xY (e : Ex) : Ex.mk e.op e.n e.at_ e.l = e := by cases e; rfl
theorem EW (m : Option R4) : (m.bind fun r => some (r.1, r.2.1, r.2.2.1, r.2.2.2)) = m := by cases m <;> rfl
theorem RR.one {l : List Tok} {r : Out} {m : Option R4} (h : RR l r m) (ko pl : Int) : RR l (Ot ko pl r) (m.bind fun r => some (.mk ko 0 pl [r.1], r.2.1, r.2.2.1, r.2.2.2)) := by
 match r, h with
 | .ok (x, ts), ⟨a, h1, h2⟩ => subst h2; exact ⟨a, h1, rfl⟩
 | .error (b, p), ⟨x, a, h2⟩ => subst h2; exact ⟨_, _, rfl⟩
theorem RR.two {l : List Tok} {r : Out} {m : Option R4} (h : RR l r m) (ko pl : Int) (y : Ex) : RR l (Oo ko pl y r) (m.bind fun r => some (.mk ko 0 pl [y, r.1], r.2.1, r.2.2.1, r.2.2.2)) := by
 match r, h with
 | .ok (x, ts), ⟨a, h1, h2⟩ => subst h2; exact ⟨a, h1, rfl⟩
 | .error (b, p), ⟨x, a, h2⟩ => subst h2; exact ⟨_, _, rfl⟩
theorem Iq {s : Nat} (h1 : 1 ≤ s) (h : s ≤ 10) : fH (s : Int) = some (j8 s) := by
 have : s = 1 ∨ s = 2 ∨ s = 3 ∨ s = 4 ∨ s = 5 ∨ s = 6 ∨ s = 7 ∨ s = 8 ∨ s = 9 ∨ s = 10 := by omega
 rcases this with rfl | rfl | rfl | rfl | rfl | rfl | rfl | rfl | rfl | rfl <;> rfl
theorem P2 {k : LF} {s : Nat} (h1 : 1 ≤ s) (h : s ≤ 10) {d : Int} (h0 : 0 ≤ d) (h3 : d ≤ 320) (l : List Tok) (a : Int) (names : List Str) :
  bH k (s : Int) d l a names 0 0 = eK k (s : Int) l a names 0 0 (j8 s) (dn s d) := by
 unfold bH
 simp only [bne_self_eq_false, cond_false, Iq h1 h, ai]
 have hw : IntKind.i64.wrap (d + 1) = d + 1 := w64 (by omega)
 unfold dn
 rw [hw]
 cases j8 s <;> rfl
theorem Mj (s : Nat) (d : Int) : (j8 s && decide (320 < dn s d)) = jj s d := by
 unfold jj dn
 cases j8 s
 ·rfl
 ·simp only [cond_true, Bool.true_and]
  by_cases h : 320 ≤ d
  ·rw [decide_eq_true h, decide_eq_true (by omega)]
  ·rw [decide_eq_false h, decide_eq_false (by omega)]
theorem Pv {s : Nat} {d : Int} (h0 : 0 ≤ d) (h3 : d ≤ 320) (hd : jj s d = false) : 0 ≤ dn s d ∧ dn s d ≤ 320 := by
 unfold jj at hd
 unfold dn
 cases hc : j8 s
 ·simpa using ⟨h0, h3⟩
 ·rw [hc] at hd
  simp only [Bool.true_and, decide_eq_false_iff_not] at hd
  simp only [cond_true]; omega
section
variable {names : List Str} {l : List Tok} {k : LF} {N : Nat}
variable (hn : names.length < 4611686018427387904) (hl : l.length < 4611686018427387904) (htok : ∀ t ∈ l, dH t)
variable (hk : ∀ (s : Nat) (d : Int) (a : Nat), 1 ≤ s → s ≤ 10 → 0 ≤ d → d ≤ 320 → Ends (l.drop a) → 12 * (l.drop a).length + (11 - s) < N → SR names l k s d a)
include hn hl htok hk
theorem pre6 {d : Int} {a : Nat} {t : Tok} {ts : List Tok} (hts : l.drop a = t :: ts) (he : Ends (t :: ts)) (h0 : 0 ≤ dn 6 d) (h3 : dn 6 d ≤ 320) (hd : jj 6 d = false) (hN : 12 * (l.drop a).length + 5 < N + 1) :
  ∃ r, P names (line 6) d (t :: ts) r ∧ RR l r (bC k l (a : Int) names 0 0 (dn 6 d) t (bif ((t.1 == 3) && (t.2.1 == [33])) then 15 else 0)) := by
 have _ := hn
 obtain ⟨hx, hd1, hlt, hmem⟩ := jr hts
 have hok := htok t hmem
 have e15 := O6 hok (x := aU 15) rfl
 have e20 := Cc hok (x := aU 20) rfl
 have e21 := Cc hok (x := aU 21) rfl
 have e22 := Cc hok (x := aU 22) rfl
 have hop : bF 6 t = bif ((t.1 == 3) && (t.2.1 == aU 15)) then some 15 else bif ((t.1 == 1) && (t.2.1 == aU 20)) then some 20 else bif ((t.1 == 1) && (t.2.1 == aU 21)) then some 21 else bif ((t.1 == 1) && (t.2.1 == aU 22)) then some 22 else none := by
  simp only [bF, ops, gf, iD, e15, e20, e21, e22]
 have hK : bC k l (a : Int) names 0 0 (dn 6 d) t (bif ((t.1 == 3) && (t.2.1 == [33])) then 15 else 0) = eD k l (a : Int) names 0 0 (dn 6 d) t (opt (bF 6 t)) := by
  rw [hop]
  unfold bC iu ir
  simp only [aM]
  rw [show aU 15 = [33] from rfl, show aU 20 = [88] from rfl, show aU 21 = [70] from rfl, show aU 22 = [71] from rfl]
  by_cases q1 : t.1 = 1
  ·rw [q1]
   by_cases q : t.2.1 = [88]
   ·rw [q]; rfl
   ·by_cases q2 : t.2.1 = [70]
    ·rw [q2]; rfl
    ·by_cases q3 : t.2.1 = [71]
     ·rw [q3]; rfl
     ·rw [beq_eq_false_iff_ne.2 q, beq_eq_false_iff_ne.2 q2, beq_eq_false_iff_ne.2 q3]; rfl
  ·rw [beq_eq_false_iff_ne.2 q1]
   cases ((t.1 == 3) && (t.2.1 == [33])) <;> rfl
 rw [hK]
 unfold eD
 have hlen : (l.drop a).length = ts.length + 1 := by rw [hts]; rfl
 cases ho : bF 6 t with
 | none =>
  obtain ⟨r, hr, hm⟩ := hk 7 (dn 6 d) a (by omega) (by omega) h0 h3 (by rw [hts]; exact he) (by omega)
  rw [hts] at hr
  refine ⟨r, .other rfl hd ho hr, ?_⟩
  show RR l r ((k (7, dn 6 d, l, (a : Int), names, 0, 0)).bind fun r45 => some (r45.1, r45.2.1, r45.2.2.1, r45.2.2.2))
  rw [EW]
  exact hm
 | some ko =>
  have hke := xf ho
  have he1 : Ends ts := he.tail (qN ho)
  obtain ⟨r, hr, hm⟩ := hk 6 (dn 6 d) (a + 1) (by omega) (by omega) h0 h3 (by rw [hd1]; exact he1) (by rw [hd1]; omega)
  rw [hd1] at hr
  refine ⟨_, .pre rfl hd ho hr, ?_⟩
  simp only [opt, Option.getD_some, hke, cond_false, bU (show a < 4611686018427387904 by omega)]
  exact hm.one ko t.2.2.2
theorem Px {d : Int} {a : Nat} {t : Tok} {ts : List Tok} (hts : l.drop a = t :: ts) (he : Ends (t :: ts)) (h0 : 0 ≤ dn 10 d) (h3 : dn 10 d ≤ 320) (hd : jj 10 d = false) (hN : 12 * (l.drop a).length + 1 < N + 1) :
  ∃ r, P names (line 10) d (t :: ts) r ∧ RR l r (bif ((t.1 != 3) || (t.2.1 != [45])) then ((bX k (dn 10 d) l (a : Int) names 0 0).bind fun r99 => some (r99.1, r99.2.1, r99.2.2.1, r99.2.2.2))
   else ((k (10, dn 10 d, l, (IntKind.i64.wrap ((a : Int) + 1)), names, 0, 0)).bind fun r106 => some ((Ex.mk 6 0 t.2.2.2 ([r106.1] : List Ex)), r106.2.1, r106.2.2.1, r106.2.2.2))) := by
 obtain ⟨hx, hd1, hlt, hmem⟩ := jr hts
 have hok := htok t hmem
 have e6 := O6 hok (x := aU 6) rfl
 have hop : bF 10 t = bif ((t.1 == 3) && (t.2.1 == aU 6)) then some 6 else none := by
  simp only [bF, ops, gf, iD, e6]
 have hlen : (l.drop a).length = ts.length + 1 := by rw [hts]; rfl
 have hb : ((t.1 != 3) || (t.2.1 != [45])) = !((t.1 == 3) && (t.2.1 == aU 6)) := by
  show ((!(t.1 == 3)) || (!(t.2.1 == [45]))) = _
  rw [show aU 6 = [45] from rfl, Bool.not_and]
 rw [hb]
 cases ho : ((t.1 == 3) && (t.2.1 == aU 6))
 ·rw [ho] at hop
  simp only [Bool.not_false, cond_true, EW]
  obtain ⟨r, hr, hm⟩ := Pc hn hl htok (k := k) (d := dn 10 d) (a := a) (by rw [hts]; exact he) (fun he1 => hk 1 (dn 10 d) (a + 1) (by omega) (by omega) h0 h3 he1 (by rw [hd1]; omega))
  rw [hts] at hr
  exact ⟨r, .other rfl hd hop hr, hm⟩
 ·rw [ho] at hop
  have hop : bF 10 t = some 6 := hop
  have he1 : Ends ts := he.tail (qN hop)
  simp only [Bool.not_true, cond_false, bU (show a < 4611686018427387904 by omega)]
  obtain ⟨r, hr, hm⟩ := hk 10 (dn 10 d) (a + 1) (by omega) (by omega) h0 h3 (by rw [hd1]; exact he1) (by rw [hd1]; omega)
  rw [hd1] at hr
  exact ⟨_, .pre rfl hd hop hr, hm.one 6 t.2.2.2⟩
theorem HG {s : Nat} (h1 : 1 ≤ s) (h9 : s ≤ 9) (h6 : s ≠ 6) (_hkd : kd s = 2) {D : Int} (h0 : 0 ≤ D) (h3 : D ≤ 320) (hq : ((((s : Int) == 1) || ((s : Int) == 2)) || ((s : Int) == 5)) = false) (hq7 : ((s : Int) == 7) = false) :
  ∀ (n a M : Nat) (x : Ex), (l.drop a).length ≤ n → n < M → Ends (l.drop a) → 12 * (l.drop a).length ≤ N →
   ∃ r, P names (loop s x) D (l.drop a) r ∧ RR l r (al (bE k (s : Int) l names D) M ((a : Int), 0, 0, x.op, x.n, x.at_, x.l)) := by
 have _ := hn
 intro n
 induction n with
 | zero =>
  intro a M x h1 h2 he _
  obtain ⟨t, ts, hts⟩ := he.ne
  rw [hts] at h1; simp at h1
 | succ n ih =>
  intro a M x hln hM he hN
  obtain ⟨M, rfl⟩ : ∃ m, M = m + 1 := ⟨M - 1, by omega⟩
  obtain ⟨t, ts, hts⟩ := he.ne
  obtain ⟨hx, hd1, hlt, hmem⟩ := jr hts
  have hok := htok t hmem
  have hlen : (l.drop a).length = ts.length + 1 := by rw [hts]; rfl
  rw [ao]
  simp only [bE, beq_self_eq_true, cond_true, hx, ai, L3 hok h1 h9 h6, aM, hq, cond_false, hq7]
  cases ho : bF s t with
  | none =>
   refine ⟨.ok (x, l.drop a), by rw [hts]; exact .lpEnd ho, a, rfl, ?_⟩
   simp only [opt, Option.getD_none, beq_self_eq_true, cond_true, xY]
  | some ko =>
   have hke := xf ho
   have he1 : Ends ts := by rw [hts] at he; exact he.tail (qN ho)
   have hs1 : IntKind.i64.wrap ((s : Int) + 1) = ((s + 1 : Nat) : Int) := by rw [w64 (by omega)]; omega
   simp only [opt, Option.getD_some, hke, cond_false, bU (show a < 4611686018427387904 by omega), hs1]
   obtain ⟨r, hr, hm⟩ := hk (s + 1) D (a + 1) (by omega) (by omega) h0 h3 (by rw [hd1]; exact he1) (by rw [hd1]; omega)
   rw [hd1] at hr
   match r, hr, hm with
   | .error (b, p), hr, ⟨y, a', hm⟩ =>
    have hb := rT hr
    have hb0 : (b == 0) = false := by simpa using hb
    rw [hm, ai]
    have hpos : 0 < M := by
     have := hN
     have : 1 ≤ (l.drop a).length := by omega
     omega
    obtain ⟨M, rfl⟩ : ∃ m, M = m + 1 := ⟨M - 1, by omega⟩
    rw [ao]
    simp only [bE, hb0, cond_false]
    rw [hts]
    exact ⟨_, .lpErr ho hr, _, _, rfl⟩
   | .ok (y, ts'), hr, ⟨a', ha', hm⟩ =>
    obtain ⟨he', hsh⟩ := hr.ends he1 _ rfl
    simp only [shorter] at hsh he'
    rw [hm, ai]
    obtain ⟨r2, hr2, hm2⟩ := ih a' M (.mk ko 0 t.2.2.2 [x, y]) (by rw [ha']; omega) (by omega) (by rw [ha']; exact he') (by rw [ha']; omega)
    rw [ha'] at hr2
    refine ⟨r2, by rw [hts]; exact .lpGo ho hr hr2, ?_⟩
    simp only [xY]
    exact hm2
theorem I6 {s : Nat} (h1 : 1 ≤ s) (h10 : s ≤ 10) {d : Int} (h0 : 0 ≤ d) (h3 : d ≤ 320) {a : Nat} (he : Ends (l.drop a)) (hN : 12 * (l.drop a).length + (11 - s) < N + 1) :
  ∃ r, P names (line s) d (l.drop a) r ∧ RR l r (bH k (s : Int) d l (a : Int) names 0 0) := by
 obtain ⟨t, ts, hts⟩ := he.ne
 obtain ⟨hx, hd1, hlt, hmem⟩ := jr hts
 rw [P2 h1 h10 h0 h3]
 unfold eK
 simp only [aM, Mj]
 cases hd : jj s d
 case true =>
  rw [hts]
  simp only [cond_true, vr hx, ai]
  exact ⟨_, .big hd, _, _, rfl⟩
 obtain ⟨hD0, hD3⟩ := Pv h0 h3 hd
 simp only [cond_false, hx, ai]
 rw [hts] at he
 by_cases h6 : s = 6
 ·subst h6
  have := pre6 hn hl htok hk hts he hD0 hD3 hd (by omega)
  rw [hts]
  obtain ⟨r, hr, hm⟩ := this
  refine ⟨r, hr, ?_⟩
  show RR l r (bif ((t.1 == 3) && (t.2.1 == [33])) then bC k l (a : Int) names 0 0 (dn 6 d) t 15 else bC k l (a : Int) names 0 0 (dn 6 d) t 0)
  cases hb : ((t.1 == 3) && (t.2.1 == [33])) <;> rw [hb] at hm <;> exact hm
 by_cases hs10 : s = 10
 ·subst hs10
  obtain ⟨r, hr, hm⟩ := Px hn hl htok hk hts he hD0 hD3 hd (by omega)
  rw [hts]
  exact ⟨r, hr, hm⟩
 have b6 : ((s : Int) == 6) = false := beq_eq_false_iff_ne.2 (by omega)
 have b10 : ((s : Int) == 10) = false := beq_eq_false_iff_ne.2 (by omega)
 have hs1 : IntKind.i64.wrap ((s : Int) + 1) = ((s + 1 : Nat) : Int) := by rw [w64 (by omega)]; omega
 simp only [b6, b10, cond_false, hs1]
 obtain ⟨r, hr, hm⟩ := hk (s + 1) (dn s d) a (by omega) (by omega) hD0 hD3 (by rw [hts]; exact he) (by omega)
 have hlen : (l.drop a).length = ts.length + 1 := by rw [hts]; rfl
 have hkd : kd s = 1 ∨ kd s = 2 := by
  have : s = 1 ∨ s = 2 ∨ s = 3 ∨ s = 4 ∨ s = 5 ∨ s = 7 ∨ s = 8 ∨ s = 9 := by omega
  rcases this with rfl | rfl | rfl | rfl | rfl | rfl | rfl | rfl <;> simp [kd]
 match r, hr, hm with
 | .error (b, p), hr, ⟨y, a', hm⟩ =>
  have hb := rT hr
  have hb0 : (b == 0) = false := by simpa using hb
  rw [hm, ai]
  obtain ⟨m, hF⟩ : ∃ m, aq = m + 1 := ⟨18446744073709551615, rfl⟩
  rw [hF, ao]
  simp only [bE, hb0, cond_false]
  rcases hkd with h | h
  ·exact ⟨_, .rErr h hd hr, _, _, rfl⟩
  ·refine ⟨.error (b, p), .lErr h (d := d) ?_, _, _, rfl⟩
   have : dn s d = d := by
    have : s = 3 ∨ s = 4 ∨ s = 8 ∨ s = 9 := by
     have : s = 1 ∨ s = 2 ∨ s = 3 ∨ s = 4 ∨ s = 5 ∨ s = 7 ∨ s = 8 ∨ s = 9 := by omega
     rcases this with rfl | rfl | rfl | rfl | rfl | rfl | rfl | rfl <;> simp [kd] at h <;> simp
    rcases this with rfl | rfl | rfl | rfl <;> rfl
   rw [this] at hr; exact hr
 | .ok (x, ts'), hr, ⟨a', ha', hm⟩ =>
  rw [hts] at hr
  obtain ⟨he', hsh⟩ := hr.ends he _ rfl
  simp only [shorter, List.length_cons] at hsh he'
  rw [hm, ai]
  rcases hkd with h | h
  · -- once
   obtain ⟨t2, ts2, ht2⟩ := he'.ne
   subst ht2
   obtain ⟨hx2, hd2, hlt2, hmem2⟩ := jr ha'
   have hok2 := htok t2 hmem2
   obtain ⟨m, hF⟩ : ∃ m, aq = m + 1 := ⟨18446744073709551615, rfl⟩
   rw [hF, ao, hts]
   simp only [bE, beq_self_eq_true, cond_true, hx2, ai, L3 hok2 h1 (by omega) h6, aM]
   cases ho : bF s t2 with
   | none =>
    refine ⟨_, .rOne h hd hr ho, a', ha', ?_⟩
    simp only [opt, Option.getD_none, beq_self_eq_true, cond_true, xY]
   | some ko =>
    have hke := xf ho
    have he2 : Ends ts2 := he'.tail (qN ho)
    simp only [opt, Option.getD_some, hke, cond_false, bU (show a' < 4611686018427387904 by omega), hs1, xY]
    simp only [List.length_cons] at hsh
    have hc : s = 1 ∨ s = 2 ∨ s = 5 ∨ s = 7 := by
     have : s = 1 ∨ s = 2 ∨ s = 3 ∨ s = 4 ∨ s = 5 ∨ s = 7 ∨ s = 8 ∨ s = 9 := by omega
     rcases this with rfl | rfl | rfl | rfl | rfl | rfl | rfl | rfl <;> simp [kd] at h <;> simp
    by_cases h7 : s = 7
    ·subst h7
     obtain ⟨r2, hr2, hm2⟩ := hk 8 (dn 7 d) (a' + 1) (by omega) (by omega) hD0 hD3 (by rw [hd2]; exact he2) (by rw [hd2]; omega)
     rw [hd2] at hr2
     exact ⟨_, .rTwo h hd hr ho hr2, hm2.two ko t2.2.2.2 x⟩
    ·obtain ⟨r2, hr2, hm2⟩ := hk s (dn s d) (a' + 1) (by omega) (by omega) hD0 hD3 (by rw [hd2]; exact he2) (by rw [hd2]; omega)
     rw [hd2] at hr2
     have hnx : nx s = s := by unfold nx; rw [beq_eq_false_iff_ne.2 h7]; rfl
     refine ⟨_, .rTwo h hd hr ho (by rw [hnx]; exact hr2), ?_⟩
     have hb : ((((s : Int) == 1) || ((s : Int) == 2)) || ((s : Int) == 5)) = true := by
      rcases hc with rfl | rfl | rfl | rfl
      ·rfl
      ·rfl
      ·rfl
      ·exact absurd rfl h7
     rw [hb]
     exact hm2.two ko t2.2.2.2 x
  · -- from the left
   have hc : s = 3 ∨ s = 4 ∨ s = 8 ∨ s = 9 := by
    have : s = 1 ∨ s = 2 ∨ s = 3 ∨ s = 4 ∨ s = 5 ∨ s = 7 ∨ s = 8 ∨ s = 9 := by omega
    rcases this with rfl | rfl | rfl | rfl | rfl | rfl | rfl | rfl <;> simp [kd] at h <;> simp
   have hdn : dn s d = d := by rcases hc with rfl | rfl | rfl | rfl <;> rfl
   have hq : ((((s : Int) == 1) || ((s : Int) == 2)) || ((s : Int) == 5)) = false := by rcases hc with rfl | rfl | rfl | rfl <;> rfl
   have hq7 : ((s : Int) == 7) = false := by rcases hc with rfl | rfl | rfl | rfl <;> rfl
   have hle : (l.drop a').length ≤ l.length := by simp
   obtain ⟨r2, hr2, hm2⟩ := HG hn hl htok hk h1 (by omega) h6 h (D := dn s d) hD0 hD3 hq hq7 l.length a' aq x hle (by show l.length < 2 ^ 64; omega) (by rw [ha']; exact he') (by rw [ha']; omega)
   rw [ha'] at hr2
   rw [hts]
   rw [hdn] at hr hr2
   exact ⟨r2, .lGo h hr hr2, hm2⟩
end
theorem Jb {names : List Str} {l : List Tok} (hn : names.length < 4611686018427387904) (hl : l.length < 4611686018427387904) (htok : ∀ t ∈ l, dH t) :
  ∀ (N : Nat) (s : Nat) (d : Int) (a : Nat), 1 ≤ s → s ≤ 10 → 0 ≤ d → d ≤ 320 → Ends (l.drop a) → 12 * (l.drop a).length + (11 - s) < N →
   SR names l (al (fun k (s : (Int × Int × (List (Int × Str × Int × Int)) × Int × (List Str) × Int × Int)) => bH k s.1 s.2.1 s.2.2.1 s.2.2.2.1 s.2.2.2.2.1 s.2.2.2.2.2.1 s.2.2.2.2.2.2) N) s d a := by
 intro N
 induction N with
 | zero => intro s d a _ _ _ _ _ h; omega
 | succ N ih =>
  intro s d a h1 h10 h0 h3 he hN
  unfold SR
  rw [ao]
  exact I6 hn hl htok ih h1 h10 h0 h3 he hN
theorem HH {names : List Str} {l : List Tok} (hn : names.length < 4611686018427387904) (hl : l.length < 1152921504606846976) (htok : ∀ t ∈ l, dH t) {a : Nat} (he : Ends (l.drop a)) :
  ∃ r, P names (line 1) 0 (l.drop a) r ∧ match r with
   | .ok (x, ts) => ∃ a' : Nat, l.drop a' = ts ∧ cI l (a : Int) names = some (x, (a' : Int), 0, 0)
   | .error (b, p) => cI l (a : Int) names = some (.mk 0 0 0 [], 0, b, p) := by
 have hle : (l.drop a).length ≤ l.length := by simp
 obtain ⟨r, hr, hm⟩ := Jb hn (by omega) htok aq 1 0 a (by omega) (by omega) (by omega) (by omega) he (by show _ < 2 ^ 64; omega)
 refine ⟨r, hr, ?_⟩
 unfold cI dI
 match r, hr, hm with
 | .ok (x, ts), hr, ⟨a', ha', hm⟩ =>
  refine ⟨a', ha', ?_⟩
  rw [show ((1 : Nat) : Int) = 1 from rfl] at hm
  rw [hm]; rfl
 | .error (b, p), hr, ⟨x, a', hm⟩ =>
  have hb := rT hr
  rw [show ((1 : Nat) : Int) = 1 from rfl] at hm
  rw [hm, ai]
  simp only [hb, cond_true]
end Pa
end Go.Proofs.YtpnogcmollnjeaaGreatDoor
namespace Go.Proofs.YtpnogcmollnjeaaGreatDoor
theorem tg (k : Ex → Option (Int × Int × Int)) (e : Ex) (hk : ∀ x ∈ e.l, k x = some (rt x)) (hl : e.l.length < 1152921504606846976) :
  ∀ (r pre : List Ex), e.l = pre ++ r → ∀ (M : Nat) (i b t : Int), 0 ≤ i ∧ i ≤ pre.length → 0 ≤ b ∧ b ≤ pre.length → 0 ≤ t ∧ t ≤ pre.length → r.length < M →
   al (cT k e) M (i, b, t, (pre.length : Int)) = some (rtA e.op e.at_ (e.l.length : Int) r i b t)
 | [], pre, h, M, i, b, t, hi, hb, ht, hM => by
  obtain ⟨m, rfl⟩ : ∃ m, M = m + 1 := ⟨M - 1, by simp at hM; omega⟩
  rw [ao]
  have hlen : pre.length < 1152921504606846976 := by rw [h] at hl; simp at hl; omega
  have hw : IntKind.i64.wrap (b + t) = b + t := w64 (by omega)
  simp only [cT, DJ h, cond_false, aM, rtA, BD, hw]
  generalize (decide (e.op ≤ 6) && (i == (e.l.length : Int))) = c1
  generalize (decide (7 ≤ e.op) && decide (e.op ≤ 12) && (i == (e.l.length : Int)) || e.op == 13 || e.op == 14) = c2
  generalize (decide (15 ≤ e.op) && decide (e.op ≤ 19) && (b == (e.l.length : Int))) = c3
  generalize (decide (15 ≤ e.op) && (b + t == (e.l.length : Int))) = c4
  cases c1 <;> cases c2 <;> cases c3 <;> cases c4 <;> rfl
 | x :: r, pre, h, M, i, b, t, hi, hb, ht, hM => by
  obtain ⟨m, rfl⟩ : ∃ m, M = m + 1 := ⟨M - 1, by omega⟩
  rw [ao]
  have hx : k x = some (rt x) := hk x (by rw [h]; simp)
  have hlen : pre.length < 1152921504606846976 := by rw [h] at hl; simp at hl; omega
  have ih := fun i b t hi hb ht => tg k e hk hl r (pre ++ [x]) (by rw [h]; simp) m i b t hi hb ht (by simp at hM; omega)
  have hp : ((pre ++ [x]).length : Int) = ((pre.length + 1 : Nat) : Int) := by simp
  rw [hp] at ih
  have wi : IntKind.i64.wrap (i + 1) = i + 1 := w64 (by omega)
  have wb : IntKind.i64.wrap (b + 1) = b + 1 := w64 (by omega)
  have wt : IntKind.i64.wrap (t + 1) = t + 1 := w64 (by omega)
  simp only [cT, iS, lq, Cn h, cond_true, sB h, ai, hx, aM, sg (show pre.length < 4611686018427387904 by omega), rtA, wi, wb, wt]
  cases (rt x).2.1 != 0
  ·simp only [cond_false]
   cases (rt x).1 == 1 <;> cases (rt x).1 == 2 <;> cases (rt x).1 == 3 <;> simp only [cond_false, cond_true] <;> exact ih _ _ _ (by omega) (by omega) (by omega)
  ·rfl
theorem Hn : ∀ (N : Nat) (e : Ex), e.sz ≤ N → e.sz < 1152921504606846976 → al (fun k s => ey k s) N e = some (rt e) := by
 intro N
 induction N with
 | zero => intro e h; have := kC e; omega
 | succ N ih =>
  intro e h hb
  rw [ao]
  show al (cT _ e) aq (0, 0, 0, 0) = _
  have hl := sJ e
  rw [rt_eq]
  exact tg (al (fun k s => ey k s) N) e (fun x hx => ih x (by have := iB hx; omega) (by have := iB hx; omega)) (by omega) e.l [] rfl aq 0 0 0 (by simp) (by simp) (by simp) (by show e.l.length < 2 ^ 64; omega)
theorem Dp (e : Ex) (h : e.sz < 1152921504606846976) : cf e = some (rt e) := Hn aq e (by show e.sz ≤ 2 ^ 64; omega) h
end Go.Proofs.YtpnogcmollnjeaaGreatDoor
namespace Go.Proofs.YtpnogcmollnjeaaGreatDoor
namespace Sy
open Pa
/-! types -/
theorem MB (e : Ex) : dQ e = ey cf e := rfl
theorem GZ (e : Ex) (h : e.sz < 1152921504606846976) : dQ e = some (rt e) := by
 rw [MB]
 have hl := sJ e
 show al (cT _ e) aq (0, 0, 0, 0) = _
 rw [rt_eq]
 exact tg cf e (fun x hx => Dp x (by have := iB hx; omega)) (by omega) e.l [] rfl aq 0 0 0 (by simp) (by simp) (by simp) (by show e.l.length < 2 ^ 64; omega)
/-! names -/
theorem oN {names : List Str} {v : Str} (hn : names.length < 4611686018427387904) : ∀ (m i M : Nat), names.length - i ≤ m → i ≤ names.length → m < M →
  al (cR names v) M (i : Int) = some (match eQ names v i with | some j => (j : Int) | none => -1) := by
 intro m
 induction m with
 | zero =>
  intro i M h1 h2 h3
  obtain ⟨M, rfl⟩ : ∃ k, M = k + 1 := ⟨M - 1, by omega⟩
  have hi : i = names.length := by omega
  subst hi
  rw [ao]
  have e : eQ names v names.length = none := by unfold eQ; simp
  rw [e]
  simp only [cR, decide_eq_false (show ¬ ((names.length : Int) < (List.length names : Int)) by omega), cond_false]
 | succ m ih =>
  intro i M h1 h2 h3
  obtain ⟨M, rfl⟩ : ∃ k, M = k + 1 := ⟨M - 1, by omega⟩
  rw [ao]
  by_cases hi : i < names.length
  ·have hd : names.drop i = names[i] :: names.drop (i + 1) := List.drop_eq_getElem_cons hi
   have hx : idx names (i : Int) = some names[i] := by simp [idx, List.getElem?_eq_getElem hi]
   simp only [cR, decide_eq_true (show ((i : Nat) : Int) < (List.length names : Int) by omega), cond_true, hx, ai, bU (show i < 4611686018427387904 by omega)]
   have e : eQ names v i = bif (names[i] == v) then some i else eQ names v (i + 1) := by
    unfold eQ
    rw [hd, List.findIdx?_cons]
    have : (v == names[i]) = (names[i] == v) := by
     by_cases h : v = names[i]
     ·rw [h]
     ·rw [beq_eq_false_iff_ne.2 h, beq_eq_false_iff_ne.2 (fun e => h e.symm)]
    rw [this]
    cases (names[i] == v)
    ·simp only [cond_false, Bool.false_eq_true, if_false, Option.map_map]
     congr 1
     funext x
     simp only [Function.comp]; omega
    ·simp
   rw [e]
   cases (names[i] == v)
   ·simp only [cond_false]
    exact ih (i + 1) M (by omega) (by omega) (by omega)
   ·rfl
  ·have hi : i = names.length := by omega
   subst hi
   have e : eQ names v names.length = none := by unfold eQ; simp
   rw [e]
   simp only [cR, decide_eq_false (show ¬ ((names.length : Int) < (List.length names : Int)) by omega), cond_false]
theorem xg {names : List Str} (hn : names.length < 4611686018427387904) (v : Str) : bp names v = some (cn names v) := by
 have := oN (v := v) hn names.length 0 aq (by omega) (by omega) (by show names.length < 2 ^ 64; omega)
 rw [show ((0 : Nat) : Int) = 0 from rfl, wg] at this
 unfold bp cn
 refine this.trans ?_
 cases at_ names v <;> rfl
theorem Fs {names : List Str} {v : Str} : at_ names v = none ↔ names.contains v = false := by
 unfold at_
 rw [List.findIdx?_eq_none_iff]
 constructor
 ·intro h
  cases hc : names.contains v
  ·rfl
  ·have := List.contains_iff_mem.1 hc
   have := h v this
   simp at this
 ·intro h x hx
  cases hv : (v == x)
  ·rfl
  ·have : v = x := by simpa using hv
   subst this
   have : names.contains v = true := List.contains_iff_mem.2 hx
   rw [this] at h; cases h
theorem tV (names : List Str) (v : Str) : decide (0 ≤ cn names v) = names.contains v := by
 unfold cn
 cases h : at_ names v with
 | some i =>
  simp only
  have : names.contains v = true := by
   cases hc : names.contains v
   ·rw [Fs.2 hc] at h; cases h
   ·rfl
  rw [this]; simp
 | none => rw [Fs.1 h]; rfl
/-! the state of the reader -/
noncomputable def aO (st : Except Err (List Tok)) (f : List Tok → Except Err (List Tok)) : Except Err (List Tok) := match st with
 | .ok ts => f ts
 | .error e => .error e
noncomputable def rest {α : Type} : Except Err (α × List Tok) → Except Err (List Tok)
 | .ok p => .ok p.2
 | .error e => .error e
noncomputable def aD {α : Type} (st : Except Err (List Tok)) (f : List Tok → Except Err (α × List Tok)) : Except Err (List Tok) := aO st fun ts => rest (f ts)
noncomputable def St (l : List Tok) (st : Except Err (List Tok)) (a b p : Int) : Prop := match st with
 | .ok ts => ∃ k : Nat, a = (k : Int) ∧ l.drop k = ts ∧ Pa.Ends ts ∧ b = 0 ∧ p = 0
 | .error e => (∃ t, idx l a = some t) ∧ (e.1 == 0) = false ∧ b = e.1 ∧ p = e.2
noncomputable def isS (k : Int) (x : Str) : Except Err (List Tok) → Bool
 | .ok ts => isH k x ts
 | .error _ => false
noncomputable def Val {α : Type} (st : Except Err (List Tok)) (f : List Tok → Except Err (α × List Tok)) (x : α) : Prop := ∀ ts y r, st = .ok ts → f ts = .ok (y, r) → x = y
section
variable {l : List Tok} (hl : l.length < 1099511627776) (htok : ∀ t ∈ l, dH t) (hnum : ∀ t ∈ l, oT t)
variable {st : Except Err (List Tok)} {a b p : Int} (N : List Str) (S_ : List (Int × Int)) (I : List Int) (Q : List Str) (C : List Cmd)
theorem St.at {st : Except Err (List Tok)} {a b p : Int} (h : St l st a b p) : ∃ t, idx l a = some t := by
 cases st with
 | ok ts =>
  obtain ⟨k, rfl, hd, he, _⟩ := h
  obtain ⟨t, r, rfl⟩ := he.ne
  exact ⟨t, (jr hd).1⟩
 | error e => exact h.1
theorem St.ok {ts : List Tok} (h : St l (.ok ts) a b p) : ∃ (k : Nat) (t : Tok) (r : List Tok), a = (k : Int) ∧ ts = t :: r ∧ l.drop k = t :: r ∧ Pa.Ends (t :: r) ∧ b = 0 ∧ p = 0 ∧ idx l a = some t ∧ t ∈ l ∧ l.drop (k + 1) = r ∧ k < l.length := by
 obtain ⟨k, rfl, hd, he, hb, hp⟩ := h
 obtain ⟨t, r, rfl⟩ := he.ne
 obtain ⟨h1, h2, h3, h4⟩ := jr hd
 exact ⟨k, t, r, rfl, rfl, hd, he, hb, hp, h1, h4, h2, h3⟩
theorem jO (c q x : Int) : ar c q l x N S_ I Q C 0 0 = some (c, q) := rfl
theorem pG {b : Int} (hb : (b == 0) = false) (c q x p : Int) : ar c q l x N S_ I Q C b p = some (b, p) := by
 unfold ar; rw [hb]; rfl
theorem sT (h : St l st a b p) (k : Int) (x : Str) : aW k x l a N S_ I Q C b p = some (isS k x st) := by
 cases st with
 | ok ts =>
  obtain ⟨k', t, r, rfl, rfl, hd, he, rfl, rfl, hx, _⟩ := h.ok
  unfold aW
  simp only [aM, beq_self_eq_true, cN, hx, ai, Bool.true_and, isS, isH, isT]
  cases (t.1 == k)
  ·rfl
  ·simp only [cN, ai, Bool.true_and]
 | error e =>
  obtain ⟨_, he, rfl, rfl⟩ := h
  unfold aW
  simp only [aM, he, jR, Bool.false_and, isS]
theorem FD (h : St l st a b p) : ∃ q, aB l a N S_ I Q C b p = some q ∧ ∀ ts, st = .ok ts → q = vw ts := by
 obtain ⟨t, ht⟩ := h.at
 refine ⟨t.2.2.2, by unfold aB; rw [ht]; rfl, fun ts hts => ?_⟩
 subst hts
 obtain ⟨k', t', r, rfl, rfl, hd, he, rfl, rfl, hx, _⟩ := h.ok
 rw [hx] at ht; cases ht; rfl
include hl in
theorem pn (h : St l st a b p) (x : Str) : ∃ a' b' p', aS x l a N S_ I Q C b p = some (a', b', p') ∧ St l (aO st (aV x)) a' b' p' := by
 have hi := sT N S_ I Q C h 3 x
 unfold aS
 rw [hi, ai]
 cases st with
 | ok ts =>
  obtain ⟨k, t, r, rfl, rfl, hd, he, rfl, rfl, hx, hm, hd1, hk⟩ := h.ok
  simp only [isS, isH, aO, aV]
  cases hc : isT 3 x t
  ·simp only [Bool.not_false, cond_true, aB, hx, ai, jO]
   exact ⟨_, _, _, rfl, ⟨t, hx⟩, rfl, rfl, rfl⟩
  ·simp only [Bool.not_true, cond_false, cond_true, bU (show k < 4611686018427387904 by omega)]
   exact ⟨_, _, _, rfl, k + 1, rfl, hd1, he.tail (Da hc (by decide)), rfl, rfl⟩
 | error e =>
  obtain ⟨⟨t, hx⟩, he, rfl, rfl⟩ := h
  simp only [isS, Bool.not_false, cond_true, aB, hx, ai, pG N S_ I Q C he, aO]
  exact ⟨_, _, _, rfl, ⟨t, hx⟩, he, rfl, rfl⟩
include hl in
theorem E6 (h : St l st a b p) (hN : N.length < 1099511627776) (hQ : Q.length < 1099511627776) (full : Bool) : ∃ s a' b' p', dq full l a N S_ I Q C b p = some (s, a', b', p') ∧ St l (aD st (cS full N Q)) a' b' p' ∧ Val st (cS full N Q) s := by
 obtain ⟨t, ht⟩ := h.at
 have iN := xg (names := N) (by omega) t.2.1
 have iQ := xg (names := Q) (by omega) t.2.1
 unfold dq
 simp only [ht, ai, FL, aM]
 cases st with
 | ok ts =>
  obtain ⟨k, t', r, rfl, rfl, hd, he, rfl, rfl, hx, hm, hd1, hk⟩ := h.ok
  rw [hx] at ht; cases ht
  simp only [aD, aO]
  have hs : cS full N Q (t :: r) = (bif t.1 != 1 then .error (2, t.2.2.2) else bif key t.2.1 || N.contains t.2.1 || Q.contains t.2.1 then .error (3, t.2.2.2) else bif full then .error (9, t.2.2.2) else .ok (t.2.1, r)) := rfl
  cases h1 : (t.1 != 1)
  case true =>
   rw [h1] at hs
   simp only [cond_true] at hs
   simp only [cond_true, jO, ai, hs, rest]
   exact ⟨_, _, _, _, rfl, ⟨⟨t, hx⟩, rfl, rfl, rfl⟩, fun ts y r' h2 h3 => by cases h2; rw [hs] at h3; cases h3⟩
  rw [h1] at hs
  simp only [cond_false] at hs ⊢
  have hc : (key t.2.1 || N.contains t.2.1 || Q.contains t.2.1) = (kb.contains t.2.1 || decide (0 ≤ cn N t.2.1) || decide (0 ≤ cn Q t.2.1)) := by rw [tV, tV]; rfl
  rw [hc] at hs
  have fin : ∀ c : Bool, (kb.contains t.2.1 || decide (0 ≤ cn N t.2.1) || decide (0 ≤ cn Q t.2.1)) = c →
    ∃ s a' b' p', (bif c then ((ar 3 t.2.2.2 l (k : Int) N S_ I Q C 0 0).bind fun r43 => some (t.2.1, (k : Int), r43.1, r43.2)) else (bif full then ((ar 9 t.2.2.2 l (k : Int) N S_ I Q C 0 0).bind fun r47 => some (t.2.1, (k : Int), r47.1, r47.2)) else (bif ((0 : Int) == 0) then some (t.2.1, (IntKind.i64.wrap ((k : Int) + 1)), 0, 0) else some (t.2.1, (k : Int), 0, 0)))) = some (s, a', b', p') ∧
     St l (rest (cS full N Q (t :: r))) a' b' p' ∧ Val (.ok (t :: r)) (cS full N Q) s := by
   intro c hcc
   rw [hcc] at hs
   cases c
   ·cases full
    ·simp only [cond_false] at hs
     refine ⟨_, _, _, _, rfl, ?_, fun ts y r' h2 h3 => by cases h2; rw [hs] at h3; cases h3; rfl⟩
     rw [hs, bU (show k < 4611686018427387904 by omega)]
     have : t.1 = 1 := by simpa using h1
     exact ⟨k + 1, rfl, hd1, he.tail (by omega), rfl, rfl⟩
    ·simp only [cond_false, cond_true] at hs
     exact ⟨_, _, _, _, rfl, by rw [hs]; exact ⟨⟨t, hx⟩, rfl, rfl, rfl⟩, fun ts y r' h2 h3 => by cases h2; rw [hs] at h3; cases h3⟩
   ·simp only [cond_true] at hs
    exact ⟨_, _, _, _, rfl, by rw [hs]; exact ⟨⟨t, hx⟩, rfl, rfl, rfl⟩, fun ts y r' h2 h3 => by cases h2; rw [hs] at h3; cases h3⟩
  have := fin _ rfl
  cases hk1 : kb.contains t.2.1
  ·simp only [Bool.not_false, cN, iN, ai, Bool.false_or, hk1] at this ⊢
   cases hk2 : decide (0 ≤ cn N t.2.1)
   ·simp only [Bool.not_false, cN, iQ, ai, Bool.false_or, hk2] at this ⊢
    exact this
   ·simp only [Bool.not_true, jR, Bool.true_or, hk2] at this ⊢
    exact this
  ·simp only [Bool.not_true, jR, Bool.true_or, hk1] at this ⊢
   exact this
 | error e =>
  obtain ⟨_, he, rfl, rfl⟩ := h
  simp only [aD, aO]
  have V : ∀ s, Val (.error e) (cS full N Q) s := fun s ts y r h => by cases h
  have hS : St l (.error e) a e.1 e.2 := ⟨⟨t, ht⟩, he, rfl, rfl⟩
  have iN' : ∀ g : Bool, ∃ z, ∀ k : Int → Option (Str × Int × Int × Int), aH g default (bp N t.2.1) k = k z := fun g => by
   cases g
   ·exact ⟨default, fun k => rfl⟩
   ·exact ⟨cn N t.2.1, fun k => by rw [cN, iN]; rfl⟩
  have iQ' : ∀ g : Bool, ∃ z, ∀ k : Int → Option (Str × Int × Int × Int), aH g default (bp Q t.2.1) k = k z := fun g => by
   cases g
   ·exact ⟨default, fun k => rfl⟩
   ·exact ⟨cn Q t.2.1, fun k => by rw [cN, iQ]; rfl⟩
  cases h1 : (t.1 != 1)
  case true =>
   simp only [cond_true, pG N S_ I Q C he, ai]
   exact ⟨_, _, _, _, rfl, hS, V _⟩
  simp only [cond_false]
  obtain ⟨z1, e1⟩ := iN' (!(kb.contains t.2.1))
  rw [e1]
  obtain ⟨z2, e2⟩ := iQ' (!(kb.contains t.2.1 || decide (0 ≤ z1)))
  rw [e2]
  cases (kb.contains t.2.1 || decide (0 ≤ z1) || decide (0 ≤ z2))
  ·cases full
   ·simp only [cond_false, he]
    exact ⟨_, _, _, _, rfl, hS, V _⟩
   ·simp only [cond_true, cond_false, pG N S_ I Q C he, ai]
    exact ⟨_, _, _, _, rfl, hS, V _⟩
  ·simp only [cond_true, pG N S_ I Q C he, ai]
   exact ⟨_, _, _, _, rfl, hS, V _⟩
include hl in
theorem Af (neg : Bool) (h : St l st a b p) : ∃ n a' b' p', eW l N S_ I Q C b p neg a = some (n, a', b', p') ∧ St l (aD st (jG neg)) a' b' p' ∧ Val st (jG neg) n := by
 obtain ⟨t, ht⟩ := h.at
 unfold eW
 rw [ht, ai]
 cases st with
 | ok ts =>
  obtain ⟨k, t', r, rfl, rfl, hd, he, rfl, rfl, hx, hm, hd1, hk⟩ := h.ok
  rw [hx] at ht; cases ht
  simp only [aD, aO, jG, rest, Val]
  cases h1 : (t.1 != 2)
  ·simp only [cond_false, dj, bU (show k < 4611686018427387904 by omega)]
   have ht2 : t.1 = 2 := by simpa using h1
   have hE : Pa.Ends r := he.tail (by omega)
   cases neg
   ·exact ⟨_, _, _, _, rfl, ⟨k + 1, rfl, hd1, hE, rfl, rfl⟩, fun ts y r' h2 h3 => by cases h2; simp only [h1, cond_false] at h3; cases h3; rfl⟩
   ·exact ⟨_, _, _, _, rfl, ⟨k + 1, rfl, hd1, hE, rfl, rfl⟩, fun ts y r' h2 h3 => by cases h2; simp only [h1, cond_false, cond_true] at h3; cases h3; rfl⟩
  ·simp only [cond_true, jO, ai, dj]
   exact ⟨_, _, _, _, rfl, ⟨⟨t, hx⟩, rfl, rfl, rfl⟩, fun ts y r' h2 h3 => by cases h2; simp only [h1, cond_true] at h3; cases h3⟩
 | error e =>
  obtain ⟨_, he, rfl, rfl⟩ := h
  have hb : (e.1 != 0) = true := by simp only [bne, he, Bool.not_false]
  simp only [aD, aO, pG N S_ I Q C he, ai, dj, aM, hb, cond_true]
  have hS : St l (.error e) a e.1 e.2 := ⟨⟨t, ht⟩, he, rfl, rfl⟩
  cases (t.1 != 2) <;> exact ⟨_, _, _, _, rfl, hS, fun ts y r h => by cases h⟩
include hl in
theorem CZ (h : St l st a b p) : ∃ n a' b' p', bV l a N S_ I Q C b p = some (n, a', b', p') ∧ St l (aD st db) a' b' p' ∧ Val st db n := by
 unfold bV
 rw [sT N S_ I Q C h 3 [45], ai]
 cases st with
 | ok ts =>
  simp only [isS]
  cases hc : isH 3 [45] ts
  ·simp only [cond_false]
   obtain ⟨n, a', b', p', h1, h2, h3⟩ := Af hl N S_ I Q C false h
   have e : db ts = jG false ts := by unfold db; rw [hc]; rfl
   exact ⟨n, a', b', p', h1, by simpa only [aD, aO, e] using h2, fun ts' y r h4 h5 => h3 ts' y r h4 (by cases h4; rw [← e]; exact h5)⟩
  ·simp only [cond_true]
   obtain ⟨k, t, r, rfl, rfl, hd, he, rfl, rfl, hx, hm, hd1, hk⟩ := h.ok
   have hE : Pa.Ends r := (ij he (by decide) hc).1
   have hS : St l (.ok r) (IntKind.i64.wrap ((k : Int) + 1)) 0 0 := by rw [bU (show k < 4611686018427387904 by omega)]; exact ⟨k + 1, rfl, hd1, hE, rfl, rfl⟩
   obtain ⟨n, a', b', p', h1, h2, h3⟩ := Af hl N S_ I Q C true hS
   have e : db (t :: r) = jG true r := by unfold db; rw [hc]; rfl
   exact ⟨n, a', b', p', h1, by simpa only [aD, aO, e] using h2, fun ts' y r' h4 h5 => h3 r y r' rfl (by cases h4; rw [← e]; exact h5)⟩
 | error e =>
  simp only [isS, cond_false]
  obtain ⟨n, a', b', p', h1, h2, h3⟩ := Af hl N S_ I Q C false h
  exact ⟨n, a', b', p', h1, h2, fun ts' y r h4 => by cases h4⟩
include hl htok hnum in
theorem FH (h : St l st a b p) (hN : N.length < 1099511627776) (want : Int) : ∃ x a' b' p', bf want l a N S_ I Q C b p = some (x, a', b', p') ∧ St l (aD st (bW want N)) a' b' p' ∧ Val st (bW want N) x := by
 have _ := hnum
 unfold bf
 cases st with
 | ok ts =>
  obtain ⟨k, t, r0, rfl, rfl, hd, he, rfl, rfl, hx, hm, hd1, hk⟩ := h.ok
  simp only [bne_self_eq_false, cond_false]
  obtain ⟨r, hr, hP⟩ := HH (names := N) (by omega) (by omega) htok (a := k) (by rw [hd]; exact he)
  rw [hd] at hr
  have hre := KC hr
  match r, hr, hP, hre with
  | .error (b, p), hr, hP, hre =>
   have hb := rT hr
   have hb0 : (b == 0) = false := by simpa using hb
   rw [hP, ai]
   simp only [hb, cond_true, jO, ai, aD, aO, bW, hre, rest]
   exact ⟨_, _, _, _, rfl, ⟨⟨t, hx⟩, hb0, rfl, rfl⟩, fun ts y r' h2 h3 => by cases h2; simp only [bW, hre] at h3; cases h3⟩
  | .ok (x, ts'), hr, ⟨k', hk', hP⟩, hre =>
   have hsz := hr.size _ rfl
   simp only [szJ, Nat.add_zero] at hsz
   have hlen : (t :: r0).length ≤ l.length := by rw [← hd]; simp
   have hends := (hr.ends he _ rfl).1
   rw [hP, ai]
   simp only [bne_self_eq_false, cond_false, GZ x (by omega), ai, aD, aO, bW, hre, rest, Val, gm]
   have hat : ∃ t', idx l (k' : Int) = some t' := by
    obtain ⟨t', r', hh⟩ := hends.ne
    simp only at hh
    rw [hh] at hk'
    exact ⟨t', (jr hk').1⟩
   cases h1 : ((rt x).2.1 != 0)
   case true =>
    have h10 : ((rt x).2.1 == 0) = false := by simpa using h1
    simp only [cond_true, jO, ai]
    exact ⟨_, _, _, _, rfl, ⟨hat, h10, rfl, rfl⟩, fun ts y r' h2 h3 => by cases h2; simp only [hre, h1, cond_true] at h3; cases h3⟩
   simp only [cond_false]
   cases h2 : ((rt x).1 != want)
   case true =>
    simp only [cond_true, jO, ai]
    exact ⟨_, _, _, _, rfl, ⟨hat, rfl, rfl, rfl⟩, fun ts y r' h4 h3 => by cases h4; simp only [hre, h1, cond_false, h2, cond_true] at h3; cases h3⟩
   simp only [cond_false]
   exact ⟨_, _, _, _, rfl, ⟨k', rfl, hk', hends, rfl, rfl⟩, fun ts y r' h4 h3 => by cases h4; simp only [hre, h1, cond_false, h2] at h3; cases h3; rfl⟩
 | error e =>
  obtain ⟨ht, he, rfl, rfl⟩ := h
  have hb : (e.1 != 0) = true := by simp only [bne, he, Bool.not_false]
  simp only [hb, cond_true, aD, aO]
  exact ⟨_, _, _, _, rfl, ⟨ht, he, rfl, rfl⟩, fun ts y r h => by cases h⟩
end
end Sy
end Go.Proofs.YtpnogcmollnjeaaGreatDoor
namespace Go.Proofs.YtpnogcmollnjeaaGreatDoor
namespace Sy
open Pa
theorem KX (lo hi : Int) : gw ([(lo, hi)] : List (Int × Int)) = some (jU lo hi) := by
 have e : gw ([(lo, hi)] : List (Int × Int)) = al (il [(lo, hi)]) aq 0 := rfl
 rw [e]
 obtain ⟨m, hm⟩ : ∃ m, aq = m + 2 := ⟨18446744073709551614, rfl⟩
 rw [hm, show m + 2 = (m + 1) + 1 from rfl, ao]
 have i0 : idx ([(lo, hi)] : List (Int × Int)) 0 = some (lo, hi) := rfl
 have d0 : decide ((0 : Int) < (List.length ([(lo, hi)] : List (Int × Int)) : Int)) = true := rfl
 have w0 : IntKind.i64.wrap (0 + 1) = 1 := rfl
 simp only [il, d0, cond_true, i0, ai, aM, w0]
 unfold jU
 cases decide (hi < lo)
 case true => rfl
 simp only [Bool.not_false, cN, ai, Bool.false_or, Bool.true_and]
 cases decide (lo < -1073741824)
 case true => rfl
 simp only [Bool.not_false, cN, ai, Bool.false_or, Bool.true_and]
 cases decide (1073741824 < hi)
 case true => rfl
 simp only [Bool.not_false, cN, ai, Bool.false_or, Bool.true_and]
 cases decide (65535 < IntKind.i64.wrap (hi - lo))
 ·rw [ao]; rfl
 ·rfl
section
variable {l : List Tok} (hl : l.length < 1099511627776) (htok : ∀ t ∈ l, dH t) (hnum : ∀ t ∈ l, oT t)
variable {st : Except Err (List Tok)} {a b p : Int} (N : List Str) (S_ : List (Int × Int)) (I : List Int) (Q : List Str) (C : List Cmd)
variable (hN : N.length < 1099511627776) (hS : S_.length < 1099511627776) (hI : I.length < 1099511627776) (hQ : Q.length < 1099511627776) (hC : C.length < 1099511627776)
include hl hN hS hI hQ in
theorem Ol (h : St l st a b p) : ∃ a' N' S' I' b' p', dA l a N S_ I Q C b p = some (a', N', S', I', b', p') ∧ St l (aD st (jg (N, S_, I, Q, C))) a' b' p' ∧
  (∀ ts m r, st = .ok ts → jg (N, S_, I, Q, C) ts = .ok (m, r) → m = (N', S', I', Q, C)) := by
 obtain ⟨name, a1, b1, p1, e1, s1, v1⟩ := E6 hl N S_ I Q C h hN hQ (decide (16 ≤ (List.length N : Int)))
 obtain ⟨q, e0, v0⟩ := FD N S_ I Q C s1
 obtain ⟨lo, a2, b2, p2, e2, s2, v2⟩ := CZ hl N S_ I Q C s1
 obtain ⟨hi, a3, b3, p3, e3, s3, v3⟩ := CZ hl N S_ I Q C s2
 obtain ⟨fi, a4, b4, p4, e4, s4, v4⟩ := CZ hl N S_ I Q C s3
 obtain ⟨a5, b5, p5, e5, s5⟩ := pn hl N S_ I Q C s4 [59]
 have k1 : az (List.length N + List.length ([name] : List Str)) 16 = true := cJ (by simp; omega) (by simp; omega)
 have k2 : az (List.length S_ + List.length ([(lo, hi)] : List (Int × Int))) 16 = true := cJ (by simp; omega) (by simp; omega)
 have k3 : az (List.length I + List.length ([fi] : List Int)) 8 = true := cJ (by simp; omega) (by simp; omega)
 have hK : ∀ c42 c43, ed N S_ I (name, a1, b1, p1) (lo, a2, b2, p2) (hi, a3, b3, p3) (fi, a4, b4, p4) (a5, b5, p5) c42 c43 = some (a5, N ++ [name], S_ ++ [(lo, hi)], I ++ [fi], c42, c43) := fun c42 c43 => by
  unfold ed
  rw [cQ k1, cQ k2, cQ k3]
 unfold dA
 simp only [e1, ai, e0, e2, e3, e4, e5, KX, aM, hK]
 -- where it is wrong
 have bad : ∀ e : Err, aO (aD (aD (aD (aD st (cS (decide (16 ≤ (List.length N : Int))) N Q)) db) db) db) (aV [59]) = .error e →
   (aD st (jg (N, S_, I, Q, C))) = .error e := by
  intro e he
  cases st with
  | error e' => simp only [aD, aO] at he ⊢; exact he
  | ok ts =>
   simp only [aD, aO, jg] at he ⊢
   cases h1 : cS (decide (16 ≤ (List.length N : Int))) N Q ts with
   | error e1 => rw [h1] at he; simp only [rest] at he ⊢; exact he
   | ok q1 =>
    rw [h1] at he; simp only [rest] at he ⊢
    cases h2 : db q1.2 with
    | error e1 => rw [h2] at he; simp only [] at he ⊢; exact he
    | ok q2 =>
     rw [h2] at he; simp only [] at he ⊢
     cases h3 : db q2.2 with
     | error e1 => rw [h3] at he; simp only [] at he ⊢; exact he
     | ok q3 =>
      rw [h3] at he; simp only [] at he ⊢
      cases h4 : db q3.2 with
      | error e1 => rw [h4] at he; simp only [] at he ⊢; exact he
      | ok q4 =>
       rw [h4] at he; simp only [] at he ⊢
       rw [he]
 cases hst : aO (aD (aD (aD (aD st (cS (decide (16 ≤ (List.length N : Int))) N Q)) db) db) db) (aV [59]) with
 | error e =>
  have hb := bad e hst
  rw [hst] at s5
  have hfail := pG (l := l) N S_ I Q C (b := b5) (by rw [s5.2.2.1]; exact s5.2.1) 5 q a5 p5
  rw [hb]
  have V : ∀ N' S' I', ∀ ts m r, st = .ok ts → jg (N, S_, I, Q, C) ts = .ok (m, r) → m = (N', S', I', Q, C) := fun N' S' I' ts m r h1 h2 => by
   subst h1
   simp only [aD, aO, h2, rest] at hb
   cases hb
  cases (!(jU lo hi) || decide (fi < lo) || decide (hi < fi))
  ·simp only [cond_false]; exact ⟨_, _, _, _, _, _, rfl, s5, V _ _ _⟩
  ·simp only [cond_true, hfail, ai]; exact ⟨_, _, _, _, _, _, rfl, s5, V _ _ _⟩
 | ok ts5 =>
  rw [hst] at s5
  cases st with
  | error e' => simp only [aD, aO] at hst; cases hst
  | ok ts =>
   simp only [aD, aO] at hst
   cases h1 : cS (decide (16 ≤ (List.length N : Int))) N Q ts with
   | error e1 => rw [h1] at hst; cases hst
   | ok q1 =>
    obtain ⟨name', ts1⟩ := q1
    rw [h1] at hst; simp only [rest] at hst
    have en : name = name' := v1 _ _ _ rfl h1
    have t1 : aD (.ok ts) (cS (decide (16 ≤ (List.length N : Int))) N Q) = .ok ts1 := by simp only [aD, aO, h1, rest]
    have eq : q = vw ts1 := v0 _ t1
    cases h2 : db ts1 with
    | error e1 => rw [h2] at hst; cases hst
    | ok q2 =>
     obtain ⟨lo', ts2⟩ := q2
     rw [h2] at hst; simp only at hst
     have e2' : lo = lo' := v2 _ _ _ t1 h2
     have t2 : aD (aD (.ok ts) (cS (decide (16 ≤ (List.length N : Int))) N Q)) db = .ok ts2 := by rw [t1]; simp only [aD, aO, h2, rest]
     cases h3 : db ts2 with
     | error e1 => rw [h3] at hst; cases hst
     | ok q3 =>
      obtain ⟨hi', ts3⟩ := q3
      rw [h3] at hst; simp only at hst
      have e3' : hi = hi' := v3 _ _ _ t2 h3
      have t3 : aD (aD (aD (.ok ts) (cS (decide (16 ≤ (List.length N : Int))) N Q)) db) db = .ok ts3 := by rw [t2]; simp only [aD, aO, h3, rest]
      cases h4 : db ts3 with
      | error e1 => rw [h4] at hst; cases hst
      | ok q4 =>
       obtain ⟨fi', ts4⟩ := q4
       rw [h4] at hst; simp only at hst
       have e4' : fi = fi' := v4 _ _ _ t3 h4
       have hv : jg (N, S_, I, Q, C) ts = (bif !(jU lo hi) || decide (fi < lo) || decide (hi < fi) then .error (5, vw ts1) else .ok ((N ++ [name], S_ ++ [(lo, hi)], I ++ [fi], Q, C), ts5)) := by
        simp only [jg, h1, h2, h3, h4, hst, en, e2', e3', e4']
       simp only [aD, aO, hv]
       obtain ⟨k5, e5a, e5b, e5c, rfl, rfl⟩ := s5
       cases hq : (!(jU lo hi) || decide (fi < lo) || decide (hi < fi))
       ·simp only [cond_false, rest]
        exact ⟨_, _, _, _, _, _, rfl, ⟨k5, e5a, e5b, e5c, rfl, rfl⟩, fun ts' m r h5 h6 => by cases h5; rw [hv, hq] at h6; simp only [cond_false] at h6; cases h6; rfl⟩
       ·simp only [cond_true, jO, ai, rest]
        refine ⟨_, _, _, _, _, _, rfl, ?_, fun ts' m r h5 h6 => by cases h5; rw [hv, hq] at h6; simp only [cond_true] at h6; cases h6⟩
        have hat := St.at (l := l) (st := .ok ts5) (a := a5) (b := 0) (p := 0) ⟨k5, e5a, e5b, e5c, rfl, rfl⟩
        exact ⟨hat, rfl, rfl, eq⟩
end
end Sy
end Go.Proofs.YtpnogcmollnjeaaGreatDoor
namespace Go.Proofs.YtpnogcmollnjeaaGreatDoor
namespace Sy
open Pa
section
variable {l : List Tok} (hl : l.length < 1099511627776) (htok : ∀ t ∈ l, dH t) (hnum : ∀ t ∈ l, oT t)
variable {st : Except Err (List Tok)} {a b p : Int} (N : List Str) (S_ : List (Int × Int)) (I : List Int) (Q : List Str) (C : List Cmd)
variable (hN : N.length < 1099511627776) (hQ : Q.length < 1099511627776) (hC : C.length < 1099511627776)
theorem xJ (acc : List (Int × Ex)) (hacc : acc.length < 4611686018427387904) (again) (e : Tok) (i : Int) (a b p : Int) : ∀ (r pre : List (Int × Ex)), acc = pre ++ r → ∀ (M : Nat) (tw : Bool), r.length < M →
  al (bg l N S_ I Q C a b p acc again e i) M (tw, (pre.length : Int)) = bg l N S_ I Q C a b p acc again e i (fun _ => none) (tw || nH r i, (acc.length : Int))
 | [], pre, h, M, tw, hM => by
  obtain ⟨m, rfl⟩ : ∃ m, M = m + 1 := ⟨M - 1, by simp at hM; omega⟩
  rw [ao]
  have e1 : pre = acc := by simpa using h.symm
  subst e1
  simp only [bg, decide_eq_false (show ¬ ((pre.length : Int) < (List.length pre : Int)) by omega), cond_false, nH, List.any_nil, Bool.or_false]
 | x :: r, pre, h, M, tw, hM => by
  obtain ⟨m, rfl⟩ : ∃ m, M = m + 1 := ⟨M - 1, by omega⟩
  rw [ao]
  have hlen : pre.length < 4611686018427387904 := by rw [h] at hacc; simp at hacc; omega
  have ih := fun tw => xJ acc hacc again e i a b p r (pre ++ [x]) (by rw [h]; simp) m tw (by simp at hM; omega)
  rw [show ((pre ++ [x]).length : Int) = ((pre.length + 1 : Nat) : Int) by simp] at ih
  have hg : ∀ k : (Int × Ex) → Option (Int × List Cmd × Int × Int), aH (!tw) (0, Ex.mk 0 0 0 []) (some x) k = k (bif tw then (0, Ex.mk 0 0 0 []) else x) := fun k => by cases tw <;> rfl
  refine Eq.trans (b := bif decide ((pre.length : Int) < (List.length acc : Int)) then (aH (!tw) (0, (Ex.mk 0 0 0 [])) (idx acc (pre.length : Int)) fun e55 => al (bg l N S_ I Q C a b p acc again e i) m (tw || (e55.1 == i), IntKind.i64.wrap ((pre.length : Int) + 1))) else none) ?_ ?_
  ·simp only [bg, iz h, cond_true, aM]
  ·rw [iz h, cond_true, mid h, hg, bU hlen, ih]
   congr 2
   simp only [nH, List.any_cons]
   cases tw <;> simp
include hl hC in
theorem zm (g5 : Ex × Int × Int × Int) (acc : List (Int × Ex)) (more : Bool) (M : Nat) (h : St l st a b p) (hm : (more && (b == 0)) = false) :
  ∃ a' b' p', al (bD l N S_ I Q C g5) (M + 1) (a, b, p, acc, more) = some (a', C ++ [(IntKind.i64.wrap ((Q.length : Int) - 1), g5.1, acc)], b', p') ∧ St l (aO st (aV [59])) a' b' p' := by
 obtain ⟨a', b', p', e1, s1⟩ := pn hl N S_ I Q C h [59]
 rw [ao]
 simp only [bD, aM, hm, cond_false, e1, ai]
 have k1 : ∀ x : Cmd, az (List.length C + List.length ([x] : List Cmd)) 80 = true := fun x => cJ (by simp; omega) (by simp; omega)
 rw [cQ (k1 _)]
 exact ⟨_, _, _, rfl, s1⟩
include hl htok hnum hN in
theorem PD (acc : List (Int × Ex)) (hacc : acc.length < 1099511627776) (again) (i : Int) (h : St l st a b p) :
  ∃ x a' b' p', cX l N S_ I Q C acc again i b p a = again (a', b', p', acc ++ [(i, x)], isS 3 [44] (aD (aO st (aV [61])) (bW 1 N))) ∧
   St l (match aD (aO st (aV [61])) (bW 1 N) with | .ok ts => (bif isH 3 [44] ts then .ok ts.tail else .ok ts) | .error e => .error e) a' b' p' ∧ Val (aO st (aV [61])) (bW 1 N) x := by
 obtain ⟨a1, b1, p1, e1, s1⟩ := pn hl N S_ I Q C h [61]
 obtain ⟨x, a2, b2, p2, e2, s2, v2⟩ := FH hl htok hnum N S_ I Q C s1 hN 1
 have e3 := sT N S_ I Q C s2 3 [44]
 have k1 : az (List.length acc + List.length ([(i, x)] : List (Int × Ex))) 56 = true := cJ (by simp; omega) (by simp; omega)
 unfold cX
 simp only [e1, ai, e2, cQ k1, e3]
 cases hst : aD (aO st (aV [61])) (bW 1 N) with
 | error e =>
  rw [hst] at s2
  simp only [isS, cond_false]
  exact ⟨x, _, _, _, rfl, s2, v2⟩
 | ok ts =>
  rw [hst] at s2
  simp only [isS]
  cases hc : isH 3 [44] ts
  ·simp only [cond_false]
   exact ⟨x, _, _, _, rfl, s2, v2⟩
  ·simp only [cond_true]
   obtain ⟨k, t, r, rfl, rfl, hd, he, rfl, rfl, hx, hm, hd1, hk⟩ := s2.ok
   refine ⟨x, _, _, _, rfl, ?_, v2⟩
   rw [bU (show k < 4611686018427387904 by omega)]
   exact ⟨k + 1, rfl, hd1, (ij he (by decide) hc).1, rfl, rfl⟩
include hl htok hnum hN hC in
theorem Ns (g5 : Ex × Int × Int × Int) : ∀ (n : Nat) (ts : List Tok) (acc : List (Int × Ex)) (a : Int) (M f : Nat), ts.length ≤ n → n + 2 ≤ M → ts.length < f → acc.length + ts.length < 1099511627776 → St l (.ok ts) a 0 0 →
  ∃ a' C' b' p', al (bD l N S_ I Q C g5) M (a, 0, 0, acc, true) = some (a', C', b', p') ∧ St l (aO (rest (cD N f acc ts)) (aV [59])) a' b' p' ∧
   (∀ sets r, cD N f acc ts = .ok (sets, r) → C' = C ++ [(IntKind.i64.wrap ((Q.length : Int) - 1), g5.1, sets)]) := by
 intro n
 induction n with
 | zero =>
  intro ts acc a M f h1 _ _ _ hs
  obtain ⟨k, t, r, _, rfl, _⟩ := hs.ok
  simp at h1
 | succ n ih =>
  intro ts acc a M f h1 h2 h3 h4 hs
  obtain ⟨M, rfl⟩ : ∃ m, M = m + 1 := ⟨M - 1, by omega⟩
  obtain ⟨f, rfl⟩ : ∃ m, f = m + 1 := ⟨f - 1, by omega⟩
  obtain ⟨k, t, r, rfl, rfl, hd, he, _, _, hx, hm, hd1, hk⟩ := hs.ok
  rw [ao]
  generalize hag : al (bD l N S_ I Q C g5) M = again
  simp only [bD, aM, beq_self_eq_true, Bool.and_self, cond_true, hx, ai, xg (show N.length < 4611686018427387904 by omega)]
  have htw := xJ (l := l) N S_ I Q C acc (by omega) again t (cn N t.2.1) (k : Int) 0 0 acc [] rfl aq false (by show acc.length < 2 ^ 64; omega)
  rw [show (([] : List (Int × Ex)).length : Int) = 0 from rfl, Bool.false_or] at htw
  rw [htw]
  simp only [bg, decide_eq_false (show ¬ ((acc.length : Int) < (List.length acc : Int)) by omega), cond_false, aM, jO, ai]
  -- the state behind the name
  have step : ∀ (st1 : Except Err (List Tok)) (c b p : Int), St l st1 c b p → (st1 = .ok r ∨ ∃ e, st1 = .error e) →
    cD N (f + 1) acc (t :: r) = (match st1 with
     | .error e => .error e
     | .ok r0 => match aV [61] r0 with
      | .error e => .error e
      | .ok r1 => match bW 1 N r1 with
       | .error e => .error e
       | .ok (x, r2) => bif isH 3 [44] r2 then cD N f (acc ++ [(cn N t.2.1, x)]) r2.tail else .ok (acc ++ [(cn N t.2.1, x)], r2)) →
    ∃ a' C' b' p', cX l N S_ I Q C acc again (cn N t.2.1) b p c = some (a', C', b', p') ∧ St l (aO (rest (cD N (f + 1) acc (t :: r))) (aV [59])) a' b' p' ∧
     (∀ sets r', cD N (f + 1) acc (t :: r) = .ok (sets, r') → C' = C ++ [(IntKind.i64.wrap ((Q.length : Int) - 1), g5.1, sets)]) := by
   intro st1 c b p hst1 hsh hse
   obtain ⟨x, a1, b1, p1, e1, s1, v1⟩ := PD hl htok hnum N S_ I Q C hN acc (by omega) again (cn N t.2.1) hst1
   rw [e1, ← hag]
   have hM1 : 1 ≤ M := by omega
   obtain ⟨M', rfl⟩ : ∃ m, M = m + 1 := ⟨M - 1, by omega⟩
   cases hX : aD (aO st1 (aV [61])) (bW 1 N) with
   | error e =>
    rw [hX] at s1
    simp only [isS] at s1 ⊢
    obtain ⟨a2, b2, p2, e2, s2⟩ := zm hl N S_ I Q C hC g5 (acc ++ [(cn N t.2.1, x)]) false M' s1 rfl
    have hse' : cD N (f + 1) acc (t :: r) = .error e := by
     rw [hse]
     cases st1 with
     | error e' => simp only [aD, aO] at hX ⊢; cases hX; rfl
     | ok r0 =>
      simp only [aD, aO] at hX ⊢
      cases q1 : aV [61] r0 with
      | error e' => rw [q1] at hX; simp only at hX ⊢; cases hX; rfl
      | ok r1 =>
       rw [q1] at hX; simp only at hX ⊢
       cases q2 : bW 1 N r1 with
       | error e' => rw [q2] at hX; simp only [rest] at hX ⊢; cases hX; rfl
       | ok q => rw [q2] at hX; simp only [rest] at hX; cases hX
    rw [hse']
    exact ⟨_, _, _, _, e2, s2, fun sets r' h => by cases h⟩
   | ok r2 =>
    rw [hX] at s1
    simp only [isS] at s1 ⊢
    obtain ⟨r0, r1, x', hr0, hr1, hr2⟩ : ∃ r0 r1 x', st1 = .ok r0 ∧ aV [61] r0 = .ok r1 ∧ bW 1 N r1 = .ok (x', r2) := by
     cases st1 with
     | error e' => simp only [aD, aO] at hX; cases hX
     | ok r0 =>
      simp only [aD, aO] at hX
      cases q1 : aV [61] r0 with
      | error e' => rw [q1] at hX; cases hX
      | ok r1 =>
       rw [q1] at hX; simp only at hX
       cases q2 : bW 1 N r1 with
       | error e' => rw [q2] at hX; cases hX
       | ok q => rw [q2] at hX; simp only [rest] at hX; cases hX; exact ⟨r0, r1, q.1, rfl, q1, q2⟩
    have hx' : x = x' := v1 r1 x' r2 (by rw [hr0]; simp only [aO, hr1]) hr2
    subst hx'
    rw [hr0] at hse
    simp only [hr1, hr2] at hse
    have hr0r : r0 = r := by rcases hsh with h | ⟨e, h⟩ <;> rw [hr0] at h <;> cases h; rfl
    subst hr0r
    have heR : Pa.Ends r0 := by
     rw [hr0] at hst1
     exact (hst1.ok).choose_spec.choose_spec.choose_spec.2.2.2.1 |> fun h => by
      have := (hst1.ok).choose_spec.choose_spec.choose_spec.2.1
      rw [this]; exact h
    have q1 := gi heR hr1
    have q2 := (jJ q1.1 hr2).1
    have q2' : r2.length < r1.length := q2.2
    have q1' : r1.length < r0.length := q1.2
    cases hc : isH 3 [44] r2
    ·rw [hc] at s1 hse
     simp only [cond_false] at s1 hse
     obtain ⟨a2, b2, p2, e2, s2⟩ := zm hl N S_ I Q C hC g5 (acc ++ [(cn N t.2.1, x)]) false M' s1 rfl
     rw [hse]
     exact ⟨_, _, _, _, e2, s2, fun sets r' h => by cases h; rfl⟩
    ·rw [hc] at s1 hse
     simp only [cond_true] at s1 hse
     obtain ⟨t1, t2⟩ := ij q2.1 (by decide) hc
     have t2' : r2.tail.length + 1 = r2.length := t2
     have hlen : (acc ++ [(cn N t.2.1, x)]).length = acc.length + 1 := by simp
     simp only [List.length_cons] at h1 h3 h4
     have hb1 : b1 = 0 ∧ p1 = 0 := by obtain ⟨_, _, _, _, h5, h6⟩ := s1; exact ⟨h5, h6⟩
     obtain ⟨rfl, rfl⟩ := hb1
     obtain ⟨a2, C2, b2, p2, e2, s2, v2⟩ := ih r2.tail (acc ++ [(cn N t.2.1, x)]) a1 (M' + 1) f (by omega) (by omega) (by omega) (by rw [hlen]; omega) s1
     rw [hse]
     exact ⟨_, _, _, _, e2, s2, v2⟩
  cases c1 : (t.1 != 1)
  case true =>
   simp only [cond_true, cV, show ((2 : Int) == 0) = false from rfl, cond_false]
   refine step (.error (2, t.2.2.2)) (k : Int) 2 t.2.2.2 ⟨⟨t, hx⟩, rfl, rfl, rfl⟩ (.inr ⟨_, rfl⟩) ?_
   simp only [cD, c1, cond_true]
  simp only [cond_false]
  cases c2 : (decide (cn N t.2.1 < 0) || nH acc (cn N t.2.1))
  case true =>
   simp only [cond_true, cV, show ((3 : Int) == 0) = false from rfl, cond_false]
   refine step (.error (3, t.2.2.2)) (k : Int) 3 t.2.2.2 ⟨⟨t, hx⟩, rfl, rfl, rfl⟩ (.inr ⟨_, rfl⟩) ?_
   simp only [cD, c1, cond_false, c2, cond_true]
  simp only [cond_false, cV, beq_self_eq_true, cond_true, bU (show k < 4611686018427387904 by omega)]
  have ht1 : t.1 = 1 := by simpa using c1
  refine step (.ok r) ((k + 1 : Nat) : Int) 0 0 ⟨k + 1, rfl, hd1, he.tail (by omega), rfl, rfl⟩ (.inl rfl) ?_
  simp only [cD, c1, cond_false, c2]
  all_goals
   cases aV [61] r with
   | error e => rfl
   | ok r1 =>
    simp only
    cases bW 1 N r1 <;> rfl
include hl htok hnum hN hC in
theorem HN (h : St l st a b p) : ∃ a' C' b' p', cW l a N S_ I Q C b p = some (a', C', b', p') ∧
  St l (aO (aO (aD st (bW 2 N)) (aV [58])) (fun r2 => aO (rest (cD N (r2.length + 1) [] r2)) (aV [59]))) a' b' p' ∧
  (∀ ts g r1 r2 sets r3, st = .ok ts → bW 2 N ts = .ok (g, r1) → aV [58] r1 = .ok r2 → cD N (r2.length + 1) [] r2 = .ok (sets, r3) → C' = C ++ [(IntKind.i64.wrap ((Q.length : Int) - 1), g, sets)]) := by
 obtain ⟨x, a1, b1, p1, e1, s1, v1⟩ := FH hl htok hnum N S_ I Q C h hN 2
 obtain ⟨a2, b2, p2, e2, s2⟩ := pn hl N S_ I Q C s1 [58]
 unfold cW
 simp only [e1, ai, e2]
 cases hX : aO (aD st (bW 2 N)) (aV [58]) with
 | error e =>
  rw [hX] at s2
  have hb : (false : Bool) = (b2 == 0) := by rw [s2.2.2.1]; exact s2.2.1.symm
  obtain ⟨a3, b3, p3, e3, s3⟩ := zm hl N S_ I Q C hC (x, a1, b1, p1) [] true 18446744073709551615 s2 (by rw [← hb]; rfl)
  rw [show aq = 18446744073709551615 + 1 from rfl, e3]
  refine ⟨_, _, _, _, rfl, s3, fun ts g r1 r2 sets r3 h1 h2 h3 h4 => ?_⟩
  subst h1
  simp only [aD, aO, h2, rest, h3] at hX
  cases hX
 | ok r2 =>
  rw [hX] at s2
  obtain ⟨k, rfl, hd, he, rfl, rfl⟩ := s2
  have hlen : r2.length ≤ l.length := by rw [← hd]; simp
  obtain ⟨a3, C3, b3, p3, e3, s3, v3⟩ := Ns hl htok hnum N S_ I Q C hN hC (x, a1, b1, p1) r2.length r2 [] (k : Int) aq (r2.length + 1) (Nat.le_refl _) (by show _ ≤ 2 ^ 64; omega) (by omega) (by simp; omega) ⟨k, rfl, hd, he, rfl, rfl⟩
  refine ⟨_, _, _, _, e3, s3, fun ts g r1 r2' sets r3 h1 h2 h3 h4 => ?_⟩
  subst h1
  have hx : x = g := v1 ts g r1 rfl h2
  simp only [aD, aO, h2, rest, h3] at hX
  cases hX
  have := v3 sets r3 h4
  rw [this, hx]
include hl htok hnum hN hC in
theorem Pr (h : St l st a b p) : ∃ a' C' b' p', dF l a N S_ I Q C b p = some (a', C', b', p') ∧ St l (aD st (gF (N, S_, I, Q, C))) a' b' p' ∧
  (∀ ts m r, st = .ok ts → gF (N, S_, I, Q, C) ts = .ok (m, r) → m = (N, S_, I, Q, C')) := by
 unfold dF
 have key : ∀ (st1 : Except Err (List Tok)) (b1 p1 : Int), St l st1 a b1 p1 → ((∃ e, st1 = .error e ∧ aD st (gF (N, S_, I, Q, C)) = .error e) ∨ (st1 = st ∧ decide (256 ≤ (C.length : Int)) = false)) →
   ∃ a' C' b' p', cW l a N S_ I Q C b1 p1 = some (a', C', b', p') ∧ St l (aD st (gF (N, S_, I, Q, C))) a' b' p' ∧
    (∀ ts m r, st = .ok ts → gF (N, S_, I, Q, C) ts = .ok (m, r) → m = (N, S_, I, Q, C')) := by
  intro st1 b1 p1 hs hor
  obtain ⟨a', C', b', p', e1, s1, v1⟩ := HN hl htok hnum N S_ I Q C hN hC hs
  refine ⟨a', C', b', p', e1, ?_, ?_⟩
  ·rcases hor with ⟨e, rfl, he⟩ | ⟨rfl, hd⟩
   ·rw [he]; exact s1
   ·have : aD st1 (gF (N, S_, I, Q, C)) = aO (aO (aD st1 (bW 2 N)) (aV [58])) (fun r2 => aO (rest (cD N (r2.length + 1) [] r2)) (aV [59])) := by
     cases st1 with
     | error e => rfl
     | ok ts =>
      simp only [aD, aO, gF, hd, cond_false]
      cases bW 2 N ts with
      | error e => rfl
      | ok q =>
       simp only [rest]
       cases aV [58] q.2 with
       | error e => rfl
       | ok r2 =>
        simp only
        cases cD N (r2.length + 1) [] r2 with
        | error e => rfl
        | ok q3 =>
         simp only
         cases aV [59] q3.2 <;> rfl
    rw [this]; exact s1
  ·intro ts m r h1 h2
   rcases hor with ⟨e, rfl, he⟩ | ⟨rfl, hd⟩
   ·subst h1
    simp only [aD, aO, h2, rest] at he
    cases he
   ·subst h1
    simp only [gF, hd, cond_false] at h2
    cases q1 : bW 2 N ts with
    | error e => rw [q1] at h2; cases h2
    | ok q =>
     obtain ⟨g, r1⟩ := q
     rw [q1] at h2; simp only at h2
     cases q2 : aV [58] r1 with
     | error e => rw [q2] at h2; cases h2
     | ok r2 =>
      rw [q2] at h2; simp only at h2
      cases q3 : cD N (r2.length + 1) [] r2 with
      | error e => rw [q3] at h2; cases h2
      | ok qq =>
       obtain ⟨sets, r3⟩ := qq
       rw [q3] at h2; simp only at h2
       cases q4 : aV [59] r3 with
       | error e => rw [q4] at h2; cases h2
       | ok r4 =>
        rw [q4] at h2; cases h2
        rw [v1 ts g r1 r2 sets r3 rfl q1 q2 q3]
 cases hd : decide (256 ≤ (List.length C : Int))
 ·simp only [cond_false, aM]
  exact key st b p h (.inr ⟨rfl, hd⟩)
 ·simp only [cond_true, aM]
  obtain ⟨q, e0, v0⟩ := FD N S_ I Q C h
  rw [e0, ai]
  cases st with
  | ok ts =>
   obtain ⟨k, t, r, rfl, rfl, hd', he, rfl, rfl, hx, _⟩ := h.ok
   rw [jO, ai]
   have hq : q = vw (t :: r) := v0 _ rfl
   refine key (.error (9, q)) 9 q ⟨⟨t, hx⟩, rfl, rfl, rfl⟩ (.inl ⟨_, rfl, ?_⟩)
   simp only [aD, aO, gF, hd, cond_true, rest, hq]
  | error e =>
   have he := h.2.1
   have hcopy := h
   obtain ⟨_, _, rfl, rfl⟩ := hcopy
   rw [pG N S_ I Q C he, ai]
   exact key (.error e) e.1 e.2 h (.inl ⟨e, rfl, rfl⟩)
end
end Sy
end Go.Proofs.YtpnogcmollnjeaaGreatDoor
