/-
  Own texts for the statement LassoWalks, cut down to what it needs: TrEval, ExprLex, TrPa, TrSys, TrPb, TrGen, SysT, LsA, TrRKey, TrRRead, TrRLine, TrRType, TrRSys, TrRSys2, TrRSys3, TrRSys4, TrToks, StA. (cut and joined by a program)
-/
import Derived.Test.YtpnogcmollnjeaaGreatDoorLassoWalksA
import Derived.Test.YtpnogcmollnjeaaGreatDoorLassoWalksB
import Derived.Test.YtpnogcmollnjeaaGreatDoorLassoWalksC
import Derived.Test.YtpnogcmollnjeaaGreatDoorLassoWalksD
import Derived.Test.YtpnogcmollnjeaaGreatDoorLassoWalksE
namespace Go.Proofs.YtpnogcmollnjeaaGreatDoor
theorem IU (b : Bool) : lL b = some (tr b) := by cases b <;> rfl
theorem um (k : Ex × List Int → Option Int) (e : Ex) (v : List Int) (again : Int × Int × Int → Option Int) (a b t : Int) (h : ¬ t < (List.length (bO e.l 0 (min (List.length e.l : Int) 2)) : Int)) :
  bQ k e v again (a, b, t) = some (evF e.op e.n v a b) := by
 simp only [bQ, decide_eq_false h, cond_false, bu, oI, oX, oJ, pb, oU, IU, aj, evF]
 cases c2 : (decide (e.n < 0) || decide ((List.length v : Int) ≤ e.n))
 ·have h1 : idx v e.n = some (v.getD e.n.toNat 0) := by
   simp only [Bool.or_eq_false_iff, decide_eq_false_iff_not] at c2
   unfold idx
   rw [if_pos (by omega), List.getElem?_eq_getElem (by omega)]
   simp [List.getD, List.getElem?_eq_getElem (show e.n.toNat < v.length by omega)]
  rw [h1]
  generalize (e.op == 1) = b1
  generalize (e.op == 2) = b2
  generalize (e.op == 3) = b3
  generalize (e.op == 5) = b5
  generalize (e.op == 6) = b6
  generalize (e.op == 4) = b4
  generalize (e.op == 8) = b8
  generalize (e.op == 7) = b7
  generalize (e.op == 19) = b19
  generalize (e.op == 12) = b12
  generalize (e.op == 9) = b9
  generalize (e.op == 11) = b11
  generalize (e.op == 10) = b10
  generalize (e.op == 13) = b13
  generalize (e.op == 15) = b15
  generalize (e.op == 16) = b16
  generalize (e.op == 17) = b17
  generalize (e.op == 18) = b18
  cases b1
  case true => rfl
  cases b2
  case true => rfl
  cases b3
  case true => rfl
  cases b5
  case true => rfl
  cases b6
  case true => rfl
  cases b4
  case true => rfl
  cases b8
  case true => rfl
  cases b7
  case true => rfl
  cases b19
  case true => rfl
  cases b12
  case true => rfl
  cases b9
  case true => rfl
  cases b11
  case true => rfl
  cases b10
  case true => rfl
  cases b13
  case true => rfl
  cases b15
  case true => rfl
  cases b16
  case true => rfl
  cases b17
  case true => rfl
  cases b18 <;> rfl
 ·generalize (e.op == 1) = b1
  generalize (e.op == 2) = b2
  generalize (e.op == 3) = b3
  generalize (e.op == 5) = b5
  generalize (e.op == 6) = b6
  generalize (e.op == 4) = b4
  generalize (e.op == 8) = b8
  generalize (e.op == 7) = b7
  generalize (e.op == 19) = b19
  generalize (e.op == 12) = b12
  generalize (e.op == 9) = b9
  generalize (e.op == 11) = b11
  generalize (e.op == 10) = b10
  generalize (e.op == 13) = b13
  generalize (e.op == 15) = b15
  generalize (e.op == 16) = b16
  generalize (e.op == 17) = b17
  generalize (e.op == 18) = b18
  cases b1
  case true => rfl
  cases b2
  case true => rfl
  cases b3
  case true => rfl
  cases b5
  case true => rfl
  cases b6
  case true => rfl
  cases b4
  case true => rfl
  cases b8
  case true => rfl
  cases b7
  case true => rfl
  cases b19
  case true => rfl
  cases b12
  case true => rfl
  cases b9
  case true => rfl
  cases b11
  case true => rfl
  cases b10
  case true => rfl
  cases b13
  case true => rfl
  cases b15
  case true => rfl
  cases b16
  case true => rfl
  cases b17
  case true => rfl
  cases b18 <;> rfl
theorem N4 (k : Ex × List Int → Option Int) (e : Ex) (v : List Int) (hk : ∀ x ∈ e.l, k (x, v) = some (ev v x)) : j4 k e v = some (ev v e) := by
 unfold j4
 have hc : eK 0 (min (List.length e.l : Int) 2) (List.length e.l) = true := sf.2 ⟨⟨Int.le_refl _, by omega⟩, by omega⟩
 rw [hc, GS]
 show an (bQ k e v) au (0, 0, 0) = _
 rw [show au = 18446744073709551613 + 1 + 1 + 1 from rfl]
 generalize 18446744073709551613 = N
 rw [ao]
 obtain ⟨op, n, a, l⟩ := e
 match l, hk with
 | [], _ => exact um k (.mk op n a []) v _ 0 0 0 (by show ¬ (0 : Int) < ((List.length (bO ([] : List Ex) 0 _) : Nat) : Int); simp [bO])
 | [x], hk =>
  have hx := hk x (by simp [Ex.l])
  have hl : bO [x] 0 (min (List.length [x] : Int) 2) = [x] := rfl
  have h1 : bQ k (.mk op n a [x]) v (an (bQ k (.mk op n a [x]) v) (N + 1 + 1)) (0, 0, 0) = an (bQ k (.mk op n a [x]) v) (N + 1 + 1) (ev v x, 0, 1) := by
   simp only [bQ, Ex.l, hl]
   show (k (x, v)).bind _ = _
   rw [hx]
   rfl
  rw [h1, ao]
  exact um k (.mk op n a [x]) v _ (ev v x) 0 1 (by show ¬ (1 : Int) < (List.length (bO [x] 0 (min (List.length [x] : Int) 2)) : Int); rw [hl]; simp)
 | x :: y :: r, hk =>
  have hx := hk x (by simp [Ex.l])
  have hy := hk y (by simp [Ex.l])
  have hm : min (List.length (x :: y :: r) : Int) 2 = 2 := by simp only [List.length_cons]; omega
  have hl : bO (x :: y :: r) 0 2 = [x, y] := rfl
  have h1 : bQ k (.mk op n a (x :: y :: r)) v (an (bQ k (.mk op n a (x :: y :: r)) v) (N + 1 + 1)) (0, 0, 0) = an (bQ k (.mk op n a (x :: y :: r)) v) (N + 1 + 1) (ev v x, 0, 1) := by
   show (bif decide ((0 : Int) < (List.length (bO (x :: y :: r) 0 (min (List.length (x :: y :: r) : Int) 2)) : Int)) then (idx (bO (x :: y :: r) 0 (min (List.length (x :: y :: r) : Int) 2)) 0).bind _ else _) = _
   rw [hm, hl]
   show (k (x, v)).bind _ = _
   rw [hx]
   rfl
  have h2 : bQ k (.mk op n a (x :: y :: r)) v (an (bQ k (.mk op n a (x :: y :: r)) v) (N + 1)) (ev v x, 0, 1) = an (bQ k (.mk op n a (x :: y :: r)) v) (N + 1) (ev v x, ev v y, 2) := by
   show (bif decide ((1 : Int) < (List.length (bO (x :: y :: r) 0 (min (List.length (x :: y :: r) : Int) 2)) : Int)) then (idx (bO (x :: y :: r) 0 (min (List.length (x :: y :: r) : Int) 2)) 1).bind _ else _) = _
   rw [hm, hl]
   show (k (y, v)).bind _ = _
   rw [hy]
   rfl
  rw [h1, ao, h2, ao]
  exact um k (.mk op n a (x :: y :: r)) v _ (ev v x) (ev v y) 2 (by show ¬ (2 : Int) < (List.length (bO (x :: y :: r) 0 (min (List.length (x :: y :: r) : Int) 2)) : Int); rw [hm, hl]; simp)
theorem Ho : ∀ (N : Nat) (e : Ex) (v : List Int), e.sz ≤ N → an (fun k (s : Ex × List Int) => j4 k s.1 s.2) N (e, v) = some (ev v e) := by
 intro N
 induction N with
 | zero => intro e _ h; have := q6 e; omega
 | succ N ih =>
  intro e v h
  rw [ao]
  exact N4 _ e v (fun x hx => ih x v (by have := pS hx; omega))
theorem E4 (e : Ex) (h : e.sz < 4611686018427387904) (v : List Int) : jE e v = some (ev v e) := Ho au e v (by show e.sz ≤ 2 ^ 64; omega)
end Go.Proofs.YtpnogcmollnjeaaGreatDoor
namespace Go.Proofs.YtpnogcmollnjeaaGreatDoor
namespace Lx
theorem Nc {α : Type} (xs : List α) (k : Nat) : idx xs (k : Int) = xs[k]? := by simp [idx]
theorem Nu {α : Type} {xs : List α} {k : Nat} (h : k < xs.length) : idx xs (k : Int) = some xs[k] := by rw [Nc, List.getElem?_eq_getElem h]
theorem ao {σ ρ : Type} (F : (σ → Option ρ) → σ → Option ρ) (n : Nat) (s : σ) : an F (n + 1) s = F (an F n) s := rfl
theorem jB {ρ : Type} (k : Option ρ) : chk true k = k := rfl
theorem n6 {ρ : Type} (c : Bool) (k : Option ρ) : oO false c k = k := rfl
theorem fa {ρ : Type} (k : Option ρ) (g : Bool) : oO g true k = k := by cases g <;> rfl
theorem ja {α ρ : Type} (d : α) (m : Option α) (k : α → Option ρ) : aT true d m k = m.bind k := rfl
theorem ln {α ρ : Type} (d : α) (m : Option α) (k : α → Option ρ) : aT false d m k = k d := rfl
theorem fF {α ρ : Type} (x : α) (k : α → Option ρ) : (some x).bind k = k x := rfl
theorem fS {α ρ : Type} (x : α) (k : α → Option ρ) : ab x k = k x := rfl
theorem kl {i : Int} {n : Nat} (h0 : 0 ≤ i) (h1 : i < n) : inB i n = true := gC.2 ⟨h0, h1⟩
theorem sM {i j : Int} {n : Nat} (h0 : 0 ≤ i) (h1 : i ≤ j) (h2 : j ≤ n) : eK i j n = true := sf.2 ⟨⟨h0, h1⟩, h2⟩
theorem oa {k b : Nat} (h : k * b ≤ 140737488355328) (h2 : k ≤ 9223372036854775807) : az k b = true := by
  simp only [az, Bool.and_eq_true]; exact ⟨Nat.ble_eq_true_of_le h, Nat.ble_eq_true_of_le h2⟩
theorem yi (l : Str) (k : Nat) (h : k < l.length) : gH l (k : Int) = (l[k].toNat : Int) := by
  simp [gH, List.getD, h]
theorem Nl (l : Str) (i j : Nat) : cut l (i : Int) (j : Int) = (l.drop i).take (j - i) := rfl
theorem jR {p : Prop} [Decidable p] (h : p) : decide p = true := decide_eq_true h
theorem mQ {p : Prop} [Decidable p] (h : ¬ p) : decide p = false := decide_eq_false h
theorem oB : au = 18446744073709551616 := rfl
theorem Mi {σ ρ : Type} {F : (σ → Option ρ) → σ → Option ρ} {N : Nat} (st : Nat → σ) (n : Nat) (r : Option ρ)
    (step : ∀ again k, k < n → F again (st k) = again (st (k + 1))) (last : ∀ again, F again (st n) = r) :
    ∀ k, k ≤ n → n - k < N → an F N (st k) = r := by
  induction N with
  | zero => intro k _ h; omega
  | succ N ih =>
    intro k hk hN
    rw [ao]
    by_cases hkn : k < n
    · rw [step _ k hkn]; exact ih (k + 1) (by omega) (by omega)
    · have : k = n := by omega
      subst this; exact last _
theorem fixN_upto {σ ρ : Type} {F : (σ → Option ρ) → σ → Option ρ} {N : Nat} (st : Nat → σ) (n m : Nat) (_hm : m ≤ n) (r : Option ρ)
    (step : ∀ again k, k < m → F again (st k) = again (st (k + 1))) (last : ∀ again, F again (st m) = r) (h0 : m < N) : an F N (st 0) = r :=
  Mi st m r step last 0 (Nat.zero_le _) (by omega)
abbrev Tok := Int × Str × Int × Int
noncomputable def dG (c : UInt8) : Bool := c == 32 || c == 9 || c == 10 || c == 13
noncomputable def cH (c : UInt8) : Bool := (decide (97 ≤ c) && decide (c ≤ 122)) || (decide (65 ≤ c) && decide (c ≤ 90)) || c == 95
noncomputable def isDigit (c : UInt8) : Bool := decide (48 ≤ c) && decide (c ≤ 57)
noncomputable def bT (c : UInt8) : Bool := cH c || isDigit c
noncomputable def mS (c : UInt8) : Bool := c != 10
theorem qb (c d : UInt8) : ((c.toNat : Int) == (d.toNat : Int)) = (c == d) := by
  rw [Bool.eq_iff_iff]
  simp only [beq_iff_eq]
  constructor
  · intro h; exact UInt8.toNat_inj.1 (by omega)
  · intro h; rw [h]
theorem zi (c d : UInt8) : decide ((c.toNat : Int) ≤ (d.toNat : Int)) = decide (c ≤ d) := by
  rw [Bool.eq_iff_iff]
  simp only [decide_eq_true_eq, UInt8.le_iff_toNat_le]
  omega
/-! runs -/
theorem oM {p : UInt8 → Bool} : ∀ (l : Str) (k : Nat), (∀ i (h : i < l.length), i < k → p l[i] = true) → k ≤ l.length → (∀ h : k < l.length, p l[k] = false) → l.takeWhile p = l.take k
  | [], k, _, hk, _ => by simp
  | c :: l, 0, _, _, h2 => by
    have := h2 (by simp)
    simp at this
    simp [this]
  | c :: l, k + 1, h1, hk, h2 => by
    have hc := h1 0 (by simp) (by omega)
    simp at hc
    rw [List.takeWhile_cons, if_pos hc, List.take_succ_cons, oM l k (fun i h hik => by
      have := h1 (i + 1) (by simp; omega) (by omega)
      simpa using this) (by simpa using hk) (fun h => by
      have := h2 (by simp; omega)
      simpa using this)]
/-! numbers -/
noncomputable def dig (c : UInt8) : Int := (c.toNat : Int) - 48
noncomputable def c9 (n : Int) (s : Str) : Int := s.foldl (fun n c => 10 * n + dig c) n
noncomputable def big (n : Int) : Bool := decide (1073741824 < n)
theorem xm {c : UInt8} (h : isDigit c = true) : 0 ≤ dig c ∧ dig c ≤ 9 := by
  simp only [isDigit, Bool.and_eq_true, decide_eq_true_eq, UInt8.le_iff_toNat_le] at h
  unfold dig
  have h1 : (48 : UInt8).toNat = 48 := rfl
  have h2 : (57 : UInt8).toNat = 57 := rfl
  omega
theorem oz : ∀ (s : Str) (n : Int), 0 ≤ n → s.all isDigit = true → n ≤ c9 n s
  | [], n, _, _ => Int.le_refl _
  | c :: s, n, hn, h => by
    simp only [List.all_cons, Bool.and_eq_true] at h
    have hd := xm h.1
    have := oz s (10 * n + dig c) (by omega) h.2
    show n ≤ c9 (10 * n + dig c) s
    omega
theorem rune_digit (s : Str) (k : Nat) (h : k < s.length) (hd : isDigit s[k] = true) : tI s k = (s[k].toNat : Int) ∧ jc s k = k + 1 := by
  have hc : (s[k].toNat : Nat) < 128 := by
    simp only [isDigit, Bool.and_eq_true, decide_eq_true_eq, UInt8.le_iff_toNat_le] at hd
    have h2 : (57 : UInt8).toNat = 57 := rfl
    omega
  have hget : (⟨s.toArray⟩ : ByteArray).get! k = s[k] := by
    show s.toArray[k]! = s[k]
    simp [h]
  have hdec : Utf8.decode ⟨s.toArray⟩ k = (s[k].toNat, 1) := by
    unfold Utf8.decode
    simp only [Nat.add_zero, hget]
    rw [if_pos hc]
  exact ⟨by simp [tI, hdec], by simp [jc, hdec]⟩
/-! signs -/
noncomputable def bz : List Str := [[60, 45, 62], [45, 62], [61, 61], [33, 61], [60, 61], [62, 61], [60], [62], [61], [43], [45], [42], [40], [41], [123], [125], [59], [44], [58], [38], [124], [33]]
noncomputable def ct (s : Str) : Str := (bz.find? (fun g => g.isPrefixOf s)).getD []
/-! one step -/
inductive Step where
  | skip (k : Nat)
  | err (e : Int)
  | tok (k : Int) (t : Str) (n : Int)
noncomputable def step : Str → Step
  | [] => .skip 0
  | c :: s =>
    if dG c then .skip 1
    else if c == 35 then .skip ((c :: s).takeWhile mS).length
    else if cH c then (if 32 < ((c :: s).takeWhile bT).length then .err 9 else .tok 1 ((c :: s).takeWhile bT) 0)
    else if isDigit c then (if big (c9 0 ((c :: s).takeWhile isDigit)) then .err 9 else .tok 2 ((c :: s).takeWhile isDigit) (c9 0 ((c :: s).takeWhile isDigit)))
    else if ct (c :: s) == [] then .err 2 else .tok 3 (ct (c :: s)) 0
noncomputable def gr : Nat → Nat → Str → Except (Int × Int) (List Tok)
  | 0, _, _ => .ok []
  | _ + 1, at_, [] => .ok [(4, [], 0, (at_ : Int))]
  | f + 1, at_, c :: s =>
    match step (c :: s) with
    | .skip k => gr f (at_ + k) ((c :: s).drop k)
    | .err e => .error (e, at_)
    | .tok k t n => match gr f (at_ + t.length) ((c :: s).drop t.length) with
      | .ok l => .ok ((k, t, n, (at_ : Int)) :: l)
      | .error e => .error e
noncomputable def res : Except (Int × Int) (List Tok) → List Tok × Int × Int
  | .ok l => (l, 0, 0)
  | .error e => ([], e.1, e.2)
noncomputable def tokens (s : Str) : List Tok × Int × Int := if 65536 < s.length then ([], 9, 0) else res (gr (s.length + 1) 0 s)
theorem iY (p : UInt8 → Bool) : ∀ s : Str, (s.takeWhile p).all p = true
  | [] => rfl
  | c :: s => by
    rw [List.takeWhile_cons]
    split
    · rename_i h; simp only [List.all_cons, h, Bool.true_and]; exact iY p s
    · rfl
theorem kf (p : UInt8 → Bool) (s : Str) : (s.takeWhile p).length ≤ s.length := (List.takeWhile_prefix p).length_le
theorem gB {p : UInt8 → Bool} {c : UInt8} {s : Str} (h : p c = true) : 1 ≤ ((c :: s).takeWhile p).length := by
  rw [List.takeWhile_cons, if_pos h]; simp
theorem kq {c : UInt8} (h : cH c = true) : bT c = true := by simp [bT, h]
theorem An : ∀ g ∈ bz, 1 ≤ g.length := by decide
theorem nZ {s : Str} (h : (ct s == []) = false) : ct s ∈ bz ∧ ct s <+: s ∧ bz.find? (fun g => g.isPrefixOf s) = some (ct s) := by
  unfold ct at *
  cases hf : bz.find? (fun g => g.isPrefixOf s) with
  | none => rw [hf] at h; simp at h
  | some g =>
    refine ⟨List.mem_of_find?_eq_some hf, ?_, rfl⟩
    have := List.find?_some hf
    simpa using this
theorem step_take {c : UInt8} {s : Str} (hb : dG c = false) (hc : (c == 35) = false) {k : Int} {t : Str} {n : Int} (h : step (c :: s) = .tok k t n) : 1 ≤ t.length ∧ t <+: (c :: s) := by
  simp only [step, hb, hc, Bool.false_eq_true, if_false] at h
  cases hlet : cH c
  · simp only [hlet, Bool.false_eq_true, if_false] at h
    cases hdig : isDigit c
    · simp only [hdig, Bool.false_eq_true, if_false] at h
      cases hsg : (ct (c :: s) == [])
      · simp only [hsg, Bool.false_eq_true, if_false, Step.tok.injEq] at h
        obtain ⟨_, rfl, _⟩ := h
        obtain ⟨h1, h2, _⟩ := nZ hsg
        exact ⟨An _ h1, h2⟩
      · simp [hsg] at h
    · simp only [hdig, if_true] at h
      split at h
      · cases h
      · simp only [Step.tok.injEq] at h
        obtain ⟨_, rfl, _⟩ := h
        exact ⟨gB hdig, List.takeWhile_prefix _⟩
  · simp only [hlet, if_true] at h
    split at h
    · cases h
    · simp only [Step.tok.injEq] at h
      obtain ⟨_, rfl, _⟩ := h
      exact ⟨gB (kq hlet), List.takeWhile_prefix _⟩
noncomputable def sU (out : List Tok) : Except (Int × Int) (List Tok) → List Tok × Int × Int
  | .ok l => (out ++ l, 0, 0)
  | .error e => ([], e.1, e.2)
theorem AM {s : Str} {k : Nat} {c : UInt8} {r : Str} (h : s.drop k = c :: r) : ∃ hk : k < s.length, s[k] = c := by
  have hk : k < s.length := by
    rcases Nat.lt_or_ge k s.length with h' | h'
    · exact h'
    · rw [List.drop_of_length_le h'] at h; cases h
  refine ⟨hk, ?_⟩
  rw [List.drop_eq_getElem_cons hk] at h
  exact (List.cons.inj h).1
theorem Oy {c : UInt8} {s : Str} {e : Int} (h : step (c :: s) = .err e) : e ≠ 0 := by
  simp only [step] at h
  split at h
  · cases h
  · split at h
    · cases h
    · split at h
      · split at h
        · cases h; decide
        · cases h
      · split at h
        · split at h
          · cases h; decide
          · cases h
        · split at h
          · cases h; decide
          · cases h
theorem sJ {σ ρ : Type} {F : (σ → Option ρ) → σ → Option ρ} (p : UInt8 → Bool) (s : Str) (st : Nat → σ) (r : Nat → Option ρ)
    (go : ∀ again k (h : k < s.length), p s[k] = true → (∀ i (hi : i < s.length), i < k → p s[i] = true) → F again (st k) = again (st (k + 1)))
    (stop : ∀ again k (h : k < s.length), p s[k] = false → F again (st k) = r k)
    (last : ∀ again, F again (st s.length) = r s.length) (N : Nat) (hN : s.length < N) : an F N (st 0) = r (s.takeWhile p).length := by
  have key : ∀ N k, k ≤ s.length → s.length - k < N → (∀ i (h : i < s.length), i < k → p s[i] = true) → an F N (st k) = r (s.takeWhile p).length := by
    intro N
    induction N with
    | zero => intro k _ h; omega
    | succ N ih =>
      intro k hk hN hp
      rw [ao]
      by_cases hlt : k < s.length
      · cases hpk : p s[k]
        · rw [stop _ k hlt hpk, oM s k hp hk (fun _ => hpk), List.length_take, Nat.min_eq_left hk]
        · rw [go _ k hlt hpk hp]
          exact ih (k + 1) (by omega) (by omega) (fun i h hi => by
            rcases Nat.lt_or_ge i k with h' | h'
            · exact hp i h h'
            · have : i = k := by omega
              subst this; exact hpk)
      · have : k = s.length := by omega
        subst this
        rw [last, oM s s.length hp (Nat.le_refl _) (fun h => absurd h hlt), List.length_take, Nat.min_self]
  exact key N 0 (Nat.zero_le _) (by omega) (fun i _ h => by omega)
noncomputable def kindOf (c : UInt8) : Int := if dG c then 0 else if cH c then 1 else if isDigit c then 2 else 3
theorem D9 (c : UInt8) : dG c = (((c == 9 || c == 10) || c == 13) || c == 32) := by
  unfold dG
  cases (c == 32) <;> cases (c == 9) <;> cases (c == 10) <;> cases (c == 13) <;> rfl
theorem qH (c : UInt8) : cV (c.toNat : Int) = some (kindOf c) := by
  unfold cV
  simp only [fS]
  have h1 := qb c 32; have h2 := qb c 9; have h3 := qb c 10; have h4 := qb c 13
  have k1 := zi 97 c; have k2 := zi c 122; have k3 := zi 65 c; have k4 := zi c 90; have k5 := qb c 95
  have d1 := zi 48 c; have d2 := zi c 57
  rw [show ((32 : Int) = ((32 : UInt8).toNat : Int)) from rfl, show ((9 : Int) = ((9 : UInt8).toNat : Int)) from rfl, show ((10 : Int) = ((10 : UInt8).toNat : Int)) from rfl, show ((13 : Int) = ((13 : UInt8).toNat : Int)) from rfl, h1, h2, h3, h4, ← D9]
  rw [show ((97 : Int) = ((97 : UInt8).toNat : Int)) from rfl, show ((122 : Int) = ((122 : UInt8).toNat : Int)) from rfl, show ((65 : Int) = ((65 : UInt8).toNat : Int)) from rfl, show ((90 : Int) = ((90 : UInt8).toNat : Int)) from rfl, show ((95 : Int) = ((95 : UInt8).toNat : Int)) from rfl, k1, k2, k3, k4, k5]
  rw [show ((48 : Int) = ((48 : UInt8).toNat : Int)) from rfl, show ((57 : Int) = ((57 : UInt8).toNat : Int)) from rfl, d1, d2]
  unfold kindOf
  have e1 : ((decide (97 ≤ c) && decide (c ≤ 122)) || (decide (65 ≤ c) && decide (c ≤ 90)) || c == 95) = cH c := rfl
  have e2 : (decide (48 ≤ c) && decide (c ≤ 57)) = isDigit c := rfl
  rw [e1, e2]
  cases dG c <;> cases cH c <;> cases isDigit c <;> rfl
noncomputable def br (n : Int) (s : Str) : Int := s.foldl (fun n c => if n ≤ 1073741824 then 10 * n + dig c else n) n
theorem Dd : ∀ (s : Str) (n : Int), 1073741824 < n → br n s = n
  | [], _, _ => rfl
  | c :: s, n, h => by
    show br (if n ≤ 1073741824 then 10 * n + dig c else n) s = n
    rw [if_neg (by omega)]; exact Dd s n h
theorem EF : ∀ (s : Str) (n : Int), 0 ≤ n → s.all isDigit = true → (big (c9 n s) = false → br n s = c9 n s) ∧ (big (c9 n s) = true → 1073741824 < br n s)
  | [], n, _, _ => ⟨fun _ => rfl, fun h => of_decide_eq_true (show decide (1073741824 < n) = true from h)⟩
  | c :: s, n, hn, h => by
    simp only [List.all_cons, Bool.and_eq_true] at h
    have hd := xm h.1
    have ih := EF s (10 * n + dig c) (by omega) h.2
    have e1 : c9 n (c :: s) = c9 (10 * n + dig c) s := rfl
    have e2 : br n (c :: s) = br (if n ≤ 1073741824 then 10 * n + dig c else n) s := rfl
    rw [e1, e2]
    by_cases hb : n ≤ 1073741824
    · rw [if_pos hb]; exact ih
    · rw [if_neg hb]
      have hm := oz s (10 * n + dig c) (by omega) h.2
      constructor
      · intro hf; simp [big] at hf; omega
      · intro _; rw [Dd s n (by omega)]; omega
theorem tE : ∀ (s : Str) (n : Int), 0 ≤ n → n ≤ 10737418249 → s.all isDigit = true → 0 ≤ br n s ∧ br n s ≤ 10737418249
  | [], n, h, h', _ => ⟨h, h'⟩
  | c :: s, n, h, h', hd => by
    simp only [List.all_cons, Bool.and_eq_true] at hd
    have hdl := xm hd.1
    show 0 ≤ br (if n ≤ 1073741824 then 10 * n + dig c else n) s ∧ br (if n ≤ 1073741824 then 10 * n + dig c else n) s ≤ 10737418249
    split
    · exact tE s _ (by omega) (by omega) hd.2
    · exact tE s _ h h' hd.2
theorem Jk (s : Str) (k : Nat) (h : k < s.length) : br 0 (s.take (k + 1)) = if br 0 (s.take k) ≤ 1073741824 then 10 * br 0 (s.take k) + dig s[k] else br 0 (s.take k) := by
  have e : br 0 (s.take (k + 1)) = br (br 0 (s.take k)) [s[k]] := by
    rw [List.take_succ_eq_append_getElem h]; unfold br; rw [List.foldl_append]
  rw [e]; rfl
theorem qD (p : UInt8 → Bool) (s : Str) : s.take (s.takeWhile p).length = s.takeWhile p :=
  (List.prefix_iff_eq_take.1 (List.takeWhile_prefix p)).symm
section
variable {text s : Str} {at_ : Nat} (hd : text.drop at_ = s) (hat : at_ ≤ text.length)
include hd hat
theorem sI : text.length = at_ + s.length := by
  rw [← hd]; simp; omega
theorem og (k : Nat) (h : k < s.length) : gH text ((at_ + k : Nat) : Int) = (s[k].toNat : Int) := by
  have hl := sI hd hat
  rw [yi text (at_ + k) (by omega)]
  congr 2
  subst hd
  rw [List.getElem_drop]
omit hat in
theorem Bw (k : Nat) : cut text (at_ : Int) ((at_ + k : Nat) : Int) = s.take k := by
  rw [Nl, hd]; congr 1; omega
theorem ON (hl : text.length ≤ 65536) (out : List Tok) (again7) :
    an (dc text out again7) au (at_ : Int) = again7 (out, ((at_ + (s.takeWhile mS).length : Nat) : Int)) := by
  have hlen := sI hd hat
  have h0 : (at_ : Int) = ((at_ + 0 : Nat) : Int) := rfl
  rw [h0]
  refine sJ mS s (fun k => ((at_ + k : Nat) : Int)) (fun k => again7 (out, ((at_ + k : Nat) : Int))) ?_ ?_ ?_ au (by rw [oB]; omega)
  · intro again k h hp _
    unfold dc
    simp only [fS]
    rw [jR (by omega), kl (by omega) (by omega), og hd hat k h, fa]
    have : ((s[k].toNat : Int) != 10) = mS s[k] := by
      have := qb s[k] 10
      unfold mS bne
      rw [show ((10 : Int) = ((10 : UInt8).toNat : Int)) from rfl, this]
    rw [this, hp, Bool.and_self, cond_true, w64 (by omega)]
    rfl
  · intro again k h hp
    unfold dc
    simp only [fS]
    rw [jR (by omega), kl (by omega) (by omega), og hd hat k h, fa]
    have : ((s[k].toNat : Int) != 10) = mS s[k] := by
      have := qb s[k] 10
      unfold mS bne
      rw [show ((10 : Int) = ((10 : UInt8).toNat : Int)) from rfl, this]
    rw [this, hp, Bool.and_false, cond_false]
  · intro again
    unfold dc
    simp only [fS]
    rw [mQ (by omega), n6, Bool.false_and, cond_false]
end
theorem vu (c : UInt8) : ((kindOf c == 1) || (kindOf c == 2)) = bT c := by
  cases hb : dG c
  · unfold kindOf bT
    rw [hb]
    cases cH c <;> cases isDigit c <;> rfl
  · have : bT c = false := by
      simp only [dG, Bool.or_eq_true, beq_iff_eq] at hb
      rcases hb with ((rfl | rfl) | rfl) | rfl <;> decide
    unfold kindOf
    rw [if_pos hb, this]; rfl
theorem OO {text s : Str} {at_ : Nat} (hd : text.drop at_ = s) (hat : at_ ≤ text.length) (hl : text.length ≤ 65536) (out : List Tok) (again7) (hout : out.length ≤ 65536) :
    an (cd text out (at_ : Int) again7) au (at_ : Int) = if 32 < (s.takeWhile bT).length then some ([], 9, (at_ : Int)) else again7 (out ++ [(1, s.takeWhile bT, 0, (at_ : Int))], ((at_ + (s.takeWhile bT).length : Nat) : Int)) := by
  have hlen := sI hd hat
  have e0 : (if 32 < (s.takeWhile bT).length then some ([], 9, (at_ : Int)) else again7 (out ++ [(1, s.takeWhile bT, 0, (at_ : Int))], ((at_ + (s.takeWhile bT).length : Nat) : Int)))
     = (fun k => if 32 < k then some ([], 9, (at_ : Int)) else again7 (out ++ [(1, s.take k, 0, (at_ : Int))], ((at_ + k : Nat) : Int))) (s.takeWhile bT).length := by
    simp only [qD]
  rw [e0]
  have tail : ∀ k, k ≤ s.length → (bif (decide (32 < (IntKind.i64.wrap (((at_ + k : Nat) : Int) - (at_ : Int))))) then ( some ([], 9, (at_ : Int))) else ( chk (eK (at_ : Int) ((at_ + k : Nat) : Int) (List.length text)) <| chk (az (List.length out + List.length ([(1, (cut text (at_ : Int) ((at_ + k : Nat) : Int)), 0, (at_ : Int))] : List (Int × Str × Int × Int))) 40) <| again7 ((out ++ ([(1, (cut text (at_ : Int) ((at_ + k : Nat) : Int)), 0, (at_ : Int))] : List (Int × Str × Int × Int))), ((at_ + k : Nat) : Int)))) = (if 32 < k then some ([], 9, (at_ : Int)) else again7 (out ++ [(1, s.take k, 0, (at_ : Int))], ((at_ + k : Nat) : Int))) := by
    intro k hk
    rw [w64 (by omega)]
    by_cases h32 : 32 < k
    · rw [jR (by omega), cond_true, if_pos h32]
    · rw [mQ (by omega), cond_false, if_neg h32, sM (by omega) (by omega) (by omega), jB, oa (by simp; omega) (by simp; omega), jB, Bw hd]
  refine sJ (F := cd text out (at_ : Int) again7) bT s (fun k => ((at_ + k : Nat) : Int)) (fun k => if 32 < k then some ([], 9, (at_ : Int)) else again7 (out ++ [(1, s.take k, 0, (at_ : Int))], ((at_ + k : Nat) : Int))) ?_ ?_ ?_ au (by rw [oB]; omega)
  · intro again k h hp _
    unfold cd
    simp only [fS]
    have ke := vu s[k]
    rw [hp] at ke
    rw [jR (by omega), kl (by omega) (by omega), og hd hat k h]
    simp only [fa, qH, ja, fF, Bool.true_and]
    cases hk1 : (kindOf s[k] == 1)
    · rw [hk1] at ke
      simp only [Bool.not_false, ja, fF, Bool.false_or] at ke ⊢
      rw [ke, cond_true, w64 (by omega)]; rfl
    · simp only [Bool.not_true, ln, Bool.true_or, cond_true]
      rw [w64 (by omega)]; rfl
  · intro again k h hp
    unfold cd
    simp only [fS]
    have ke := vu s[k]
    rw [hp] at ke
    simp only [Bool.or_eq_false_iff] at ke
    rw [jR (by omega), kl (by omega) (by omega), og hd hat k h]
    simp only [fa, qH, ja, fF, Bool.true_and, ke.1, ke.2, Bool.not_false, Bool.or_self, cond_false]
    exact tail k (by omega)
  · intro again
    unfold cd
    simp only [fS]
    rw [mQ (by omega)]
    simp only [n6, ln, Bool.false_and, cond_false]
    exact tail s.length (Nat.le_refl _)
theorem GV (c : UInt8) (h : cH c = false) : (kindOf c == 2) = isDigit c := by
  unfold kindOf
  rw [h]
  cases hb : dG c
  · cases isDigit c <;> rfl
  · have : isDigit c = false := by
      simp only [dG, Bool.or_eq_true, beq_iff_eq] at hb
      rcases hb with ((rfl | rfl) | rfl) | rfl <;> decide
    rw [this]; rfl
theorem Cs {c : UInt8} (h : cH c = true) : isDigit c = false := by
  simp only [cH, Bool.or_eq_true, Bool.and_eq_true, decide_eq_true_eq, beq_iff_eq, UInt8.le_iff_toNat_le] at h
  cases hd : isDigit c
  · rfl
  · simp only [isDigit, Bool.and_eq_true, decide_eq_true_eq, UInt8.le_iff_toNat_le] at hd
    have h1 : (48 : UInt8).toNat = 48 := rfl
    have h2 : (57 : UInt8).toNat = 57 := rfl
    have h3 : (97 : UInt8).toNat = 97 := rfl
    have h4 : (65 : UInt8).toNat = 65 := rfl
    rcases h with (h | h) | h
    · omega
    · omega
    · subst h; have : (95 : UInt8).toNat = 95 := rfl; omega
theorem rP (c : UInt8) : (kindOf c == 2) = isDigit c := by
  cases hl : cH c
  · exact GV c hl
  · unfold kindOf
    rw [Cs hl, hl]
    cases dG c <;> rfl
theorem OL {text s : Str} {at_ : Nat} (hd : text.drop at_ = s) (hat : at_ ≤ text.length) (hl : text.length ≤ 65536) (out : List Tok) (again7) (hout : out.length ≤ 65536) :
    an (cf text out (at_ : Int) again7) au ((at_ : Int), 0) = if big (c9 0 (s.takeWhile isDigit)) then some ([], 9, (at_ : Int)) else again7 (out ++ [(2, s.takeWhile isDigit, c9 0 (s.takeWhile isDigit), (at_ : Int))], ((at_ + (s.takeWhile isDigit).length : Nat) : Int)) := by
  have hlen := sI hd hat
  have hsat := EF (s.takeWhile isDigit) 0 (Int.le_refl _) (iY _ _)
  have e0 : (if big (c9 0 (s.takeWhile isDigit)) then some ([], 9, (at_ : Int)) else again7 (out ++ [(2, s.takeWhile isDigit, c9 0 (s.takeWhile isDigit), (at_ : Int))], ((at_ + (s.takeWhile isDigit).length : Nat) : Int)))
     = (fun k => if 1073741824 < br 0 (s.take k) then some ([], 9, (at_ : Int)) else again7 (out ++ [(2, s.take k, br 0 (s.take k), (at_ : Int))], ((at_ + k : Nat) : Int))) (s.takeWhile isDigit).length := by
    simp only [qD]
    cases hb : big (c9 0 (s.takeWhile isDigit))
    · have h1 := hsat.1 hb
      rw [h1]
      have : ¬ 1073741824 < c9 0 (s.takeWhile isDigit) := by simpa [big] using hb
      rw [if_neg this]; rfl
    · rw [if_pos (hsat.2 hb)]; rfl
  rw [e0]
  have tail : ∀ k, k ≤ s.length → (bif (decide (1073741824 < br 0 (s.take k))) then ( some ([], 9, (at_ : Int))) else ( chk (eK (at_ : Int) ((at_ + k : Nat) : Int) (List.length text)) <| chk (az (List.length out + List.length ([(2, (cut text (at_ : Int) ((at_ + k : Nat) : Int)), br 0 (s.take k), (at_ : Int))] : List (Int × Str × Int × Int))) 40) <| again7 ((out ++ ([(2, (cut text (at_ : Int) ((at_ + k : Nat) : Int)), br 0 (s.take k), (at_ : Int))] : List (Int × Str × Int × Int))), ((at_ + k : Nat) : Int)))) = (if 1073741824 < br 0 (s.take k) then some ([], 9, (at_ : Int)) else again7 (out ++ [(2, s.take k, br 0 (s.take k), (at_ : Int))], ((at_ + k : Nat) : Int))) := by
    intro k hk
    by_cases h32 : 1073741824 < br 0 (s.take k)
    · rw [jR (by omega), cond_true, if_pos h32]
    · rw [mQ (by omega), cond_false, if_neg h32, sM (by omega) (by omega) (by omega), jB, oa (by simp; omega) (by simp; omega), jB, Bw hd]
  refine sJ (F := cf text out (at_ : Int) again7) isDigit s (fun k => (((at_ + k : Nat) : Int), br 0 (s.take k))) (fun k => if 1073741824 < br 0 (s.take k) then some ([], 9, (at_ : Int)) else again7 (out ++ [(2, s.take k, br 0 (s.take k), (at_ : Int))], ((at_ + k : Nat) : Int))) ?_ ?_ ?_ au (by rw [oB]; omega)
  · intro again k h hp hall
    unfold cf
    simp only [fS]
    have ke := rP s[k]
    rw [hp] at ke
    have hdl := xm hp
    have hb := tE (s.take k) 0 (Int.le_refl _) (by omega) (by
      rw [List.all_eq_true]; intro c hc
      obtain ⟨i, hi, rfl⟩ := List.mem_iff_getElem.1 hc
      rw [List.getElem_take]
      exact hall i (by simp at hi; omega) (by simp at hi; omega))
    rw [jR (by omega), kl (by omega) (by omega), og hd hat k h]
    simp only [fa, qH, ja, fF, Bool.true_and, ke, cond_true]
    rw [Jk s k h, w64 (x := ((at_ + k : Nat) : Int) + 1) (by omega)]
    unfold dig at hdl ⊢
    by_cases hs : br 0 (s.take k) ≤ 1073741824
    · rw [jR hs, cond_true, jB, if_pos hs, w64 (x := 10 * _) (by omega), w64 (x := (s[k].toNat : Int)) (by omega), w64 (x := 10 * _ + _) (by omega), w64 (by omega)]
      congr 2
      omega
    · rw [mQ hs, cond_false, if_neg hs]; rfl
  · intro again k h hp
    unfold cf
    simp only [fS]
    have ke := rP s[k]
    rw [hp] at ke
    rw [jR (by omega), kl (by omega) (by omega), og hd hat k h]
    simp only [fa, qH, ja, fF, Bool.true_and, ke, cond_false]
    exact tail k (by omega)
  · intro again
    unfold cf
    simp only [fS]
    rw [mQ (by omega)]
    simp only [n6, ln, Bool.false_and, cond_false]
    exact tail s.length (Nat.le_refl _)
theorem Eb : je = some bz := rfl
theorem NF {text : Str} {out : List Tok} {i5 : Int} {again7} {again122} {g : Str} {j : Int} (hg : (g == []) = false)
    (hr : out.length ≤ 65536) (hi : 0 ≤ i5 ∧ i5 ≤ 65536) (hgl : g.length ≤ 65536) :
    aQ text out i5 again7 bz again122 (g, j) = again7 (out ++ [(3, g, 0, i5)], i5 + g.length) := by
  unfold aQ
  simp only [fS, hg, Bool.and_false, cond_false]
  rw [oa (by simp; omega) (by simp; omega), jB, w64 (by omega)]
theorem O8 {text s : Str} {at_ : Nat} (hd : text.drop at_ = s) (hat : at_ ≤ text.length) (hl : text.length ≤ 65536) (out : List Tok) (again7) (hout : out.length ≤ 65536) :
    an (aQ text out (at_ : Int) again7 bz) au ([], 0) = if ct s == [] then some ([], 2, (at_ : Int)) else again7 (out ++ [(3, ct s, 0, (at_ : Int))], ((at_ + (ct s).length : Nat) : Int)) := by
  have hlen := sI hd hat
  have hs22 : bz.length = 22 := rfl
  have key : ∀ N k, k ≤ bz.length → bz.length - k + 1 < N → (∀ i (h : i < bz.length), i < k → bz[i].isPrefixOf s = false) →
      an (aQ text out (at_ : Int) again7 bz) N ([], ((k : Nat) : Int)) = if ct s == [] then some ([], 2, (at_ : Int)) else again7 (out ++ [(3, ct s, 0, (at_ : Int))], ((at_ + (ct s).length : Nat) : Int)) := by
    intro N
    induction N with
    | zero => intro k _ h; omega
    | succ N ih =>
      intro k hk hN hp
      rw [ao]
      by_cases hlt : k < bz.length
      · have hgmem : bz[k] ∈ bz := List.getElem_mem hlt
        have hgl : ∀ g ∈ bz, g.length ≤ 3 ∧ (g == []) = false := by decide
        have hg3 := hgl _ hgmem
        have body : aQ text out (at_ : Int) again7 bz (an (aQ text out (at_ : Int) again7 bz) N) ([], ((k : Nat) : Int)) = an (aQ text out (at_ : Int) again7 bz) N ((if bz[k].isPrefixOf s then bz[k] else []), ((k + 1 : Nat) : Int)) := by
          generalize an (aQ text out (at_ : Int) again7 bz) N = again
          unfold aQ
          simp only [fS]
          rw [jR (by omega)]
          simp only [show (([] : Str) == []) = true from rfl, Bool.and_self, cond_true]
          rw [Nu hlt]
          simp only [fF]
          rw [w64 (x := (text.length : Int) - (at_ : Int)) (by omega), w64 (x := ((k : Nat) : Int) + 1) (by omega)]
          by_cases hle : bz[k].length ≤ s.length
          · rw [jR (by omega)]
            simp only [ja, fF, Bool.true_and]
            rw [w64 (by omega), sM (by omega) (by omega) (by omega), fa]
            have e2 : (at_ : Int) + (bz[k].length : Int) = ((at_ + bz[k].length : Nat) : Int) := by omega
            rw [e2, Bw hd]
            have e3 : (s.take bz[k].length == bz[k]) = bz[k].isPrefixOf s := by
              rw [Bool.eq_iff_iff, List.isPrefixOf_iff_prefix, beq_iff_eq]
              constructor
              · intro h; rw [← h]; exact List.take_prefix ..
              · intro h; exact (List.prefix_iff_eq_take.1 h).symm
            rw [e3]
            cases bz[k].isPrefixOf s
            · rfl
            · rfl
          · rw [mQ (by omega)]
            simp only [ln, n6, Bool.false_and, cond_false]
            have : bz[k].isPrefixOf s = false := by
              rw [Bool.eq_false_iff, Ne, List.isPrefixOf_iff_prefix]
              intro h; exact hle h.length_le
            rw [this]; rfl
        rw [body]
        cases hpk : bz[k].isPrefixOf s
        · exact ih (k + 1) (by omega) (by omega) (fun i h hi => by
            rcases Nat.lt_or_ge i k with h' | h'
            · exact hp i h h'
            · have : i = k := by omega
              subst this; exact hpk)
        · have hsg : ct s = bz[k] := by
            unfold ct
            have : bz.find? (fun g => g.isPrefixOf s) = some bz[k] := by
              rw [List.find?_eq_some_iff_getElem]
              exact ⟨hpk, k, hlt, rfl, fun j hj => by simp [hp j (by omega) hj]⟩
            rw [this]; rfl
          rw [hsg]
          obtain ⟨N, rfl⟩ : ∃ m, N = m + 1 := ⟨N - 1, by omega⟩
          rw [ao]
          simp only [if_true, hg3.2, Bool.false_eq_true, if_false]
          rw [NF hg3.2 hout (by omega) (by omega)]
          rfl
      · have : ct s = [] := by
          unfold ct
          have : bz.find? (fun g => g.isPrefixOf s) = none := by
            rw [List.find?_eq_none]
            intro g hg
            obtain ⟨i, hi, rfl⟩ := List.mem_iff_getElem.1 hg
            simp [hp i hi (by omega)]
          rw [this]; rfl
        rw [this]
        generalize an (aQ text out (at_ : Int) again7 bz) N = again
        unfold aQ
        simp only [fS]
        rw [mQ (by omega)]
        rfl
  exact key au 0 (by omega) (by rw [oB]; omega) (fun i _ h => by omega)
theorem J3 (text : Str) (hlen : text.length ≤ 65536) : ∀ (N f at_ : Nat) (out : List Tok), at_ ≤ text.length → text.length - at_ < N → text.length - at_ < f → out.length ≤ at_ →
    an (ey text) N (out, (at_ : Int)) = some (sU out (gr f at_ (text.drop at_))) := by
  intro N
  induction N with
  | zero => intro f at_ out _ h; omega
  | succ N ih =>
    intro f at_ out hat hN hf hout
    obtain ⟨f, rfl⟩ : ∃ g, f = g + 1 := ⟨f - 1, by omega⟩
    rw [ao]
    generalize an (ey text) N = again at ih ⊢
    unfold ey
    dsimp only
    cases hd : text.drop at_ with
    | nil =>
      have hge' : at_ = text.length := by
        have := congrArg List.length hd
        simp at this; omega
      subst hge'
      rw [mQ (by omega)]
      simp only [cond_false]
      rw [oa (by simp; omega) (by simp; omega), jB]
      rfl
    | cons c r =>
      obtain ⟨hlt, hget⟩ := AM hd
      have hdl : (c :: r).length = text.length - at_ := by rw [← hd]; simp
      have hbyte : gH text (at_ : Int) = (c.toNat : Int) := by rw [yi _ _ hlt, hget]
      have next : ∀ (k : Nat) (out' : List Tok), 1 ≤ k → k ≤ (c :: r).length → out'.length ≤ at_ + k →
          again (out', ((at_ + k : Nat) : Int)) = some (sU out' (gr f (at_ + k) ((c :: r).drop k))) := by
        intro k out' h1 h2 h3
        rw [ih f (at_ + k) out' (by omega) (by omega) (by omega) h3]
        have e2 : text.drop (at_ + k) = (c :: r).drop k := by rw [← hd, List.drop_drop]
        rw [e2]
      rw [jR (by omega)]
      simp only [cond_true, kl (show (0 : Int) ≤ (at_ : Int) by omega) (show (at_ : Int) < (text.length : Int) by omega), jB, hbyte, qH, fF]
      have h35 : ((c.toNat : Int) == 35) = (c == 35) := by
        rw [show ((35 : Int) = ((35 : UInt8).toNat : Int)) from rfl]; exact qb c 35
      rw [h35]
      cases hb : dG c
      · have hk0 : (kindOf c == 0) = false := by
          unfold kindOf; rw [hb]; cases cH c <;> cases isDigit c <;> rfl
        simp only [hk0, cond_false]
        cases hc : (c == 35)
        · simp only [cond_false]
          simp only [gr, step, hb, hc, Bool.false_eq_true, if_false]
          cases hlet : cH c
          · have hk1 : (kindOf c == 1) = false := by
              unfold kindOf; rw [hb, hlet]; cases isDigit c <;> rfl
            simp only [hk1, cond_false, Bool.false_eq_true, if_false]
            rw [rP]
            cases hdig : isDigit c
            · simp only [cond_false, Bool.false_eq_true, if_false]
              rw [Eb, fF, O8 hd hat hlen out again (by omega)]
              cases hsg : (ct (c :: r) == [])
              · simp only [Bool.false_eq_true, if_false]
                obtain ⟨h1, h2, _⟩ := nZ hsg
                have h3 := An _ h1
                have h4 := h2.length_le
                rw [next _ _ h3 h4 (by simp; omega)]
                cases gr f (at_ + (ct (c :: r)).length) ((c :: r).drop (ct (c :: r)).length) <;> simp [sU]
              · simp only [if_true]; rfl
            · simp only [cond_true, if_true]
              rw [OL hd hat hlen out again (by omega)]
              cases hbig : big (c9 0 ((c :: r).takeWhile isDigit))
              · simp only [Bool.false_eq_true, if_false]
                have h3 := gB (s := r) hdig
                have h4 := kf isDigit (c :: r)
                rw [next _ _ h3 h4 (by simp; omega)]
                cases gr f (at_ + ((c :: r).takeWhile isDigit).length) ((c :: r).drop ((c :: r).takeWhile isDigit).length) <;> simp [sU]
              · simp only [if_true]; rfl
          · have hk1 : (kindOf c == 1) = true := by
              unfold kindOf; rw [hb, hlet]; rfl
            simp only [hk1, cond_true, if_true]
            rw [OO hd hat hlen out again (by omega)]
            by_cases h32 : 32 < ((c :: r).takeWhile bT).length
            · rw [if_pos h32, if_pos h32]; rfl
            · rw [if_neg h32, if_neg h32]
              have h3 := gB (s := r) (kq hlet)
              have h4 := kf bT (c :: r)
              rw [next _ _ h3 h4 (by simp; omega)]
              simp only []
              cases gr f (at_ + ((c :: r).takeWhile bT).length) ((c :: r).drop ((c :: r).takeWhile bT).length) <;> simp [sU]
        · simp only [cond_true]
          rw [ON hd hat hlen out again]
          have hpos : 1 ≤ ((c :: r).takeWhile mS).length := gB (by
            have : c = 35 := by simpa using hc
            subst this; decide)
          have hle := kf mS (c :: r)
          rw [next _ _ hpos hle (by omega)]
          have hst : step (c :: r) = .skip ((c :: r).takeWhile mS).length := by simp [step, hb, hc]
          simp only [gr, hst]
      · have hk0 : (kindOf c == 0) = true := by unfold kindOf; rw [hb]; rfl
        simp only [hk0, cond_true]
        rw [w64 (by omega)]
        have e1 : ((at_ : Int) + 1) = ((at_ + 1 : Nat) : Int) := by omega
        rw [e1, next 1 out (by omega) (by omega) (by omega)]
        have hst : step (c :: r) = .skip 1 := by simp [step, hb]
        simp only [gr, hst]
theorem tS (text : Str) : cZ text = some (tokens text) := by
  unfold cZ tokens
  by_cases h : 65536 < text.length
  · rw [jR (by omega), cond_true, if_pos h]
  · rw [mQ (by omega), cond_false, if_neg h]
    have := J3 text (by omega) au (text.length + 1) 0 [] (by omega) (by rw [oB]; omega) (by omega) (by simp)
    simp only [List.drop_zero] at this
    have h0 : ((0 : Nat) : Int) = 0 := rfl
    rw [h0] at this
    rw [this]
    cases gr (text.length + 1) 0 text <;> rfl
abbrev Res := Except (Int × Int) (List Tok)
theorem step_skip {c : UInt8} {s : Str} {k : Nat} (h : step (c :: s) = .skip k) : 1 ≤ k ∧ k ≤ (c :: s).length := by
  cases hb : dG c
  · cases hc : (c == 35)
    · simp only [step, hb, hc, Bool.false_eq_true, if_false] at h
      repeat (split at h <;> try (cases h))
    · simp only [step, hb, hc, Bool.false_eq_true, if_false, if_true, Step.skip.injEq] at h
      subst h
      have : c = 35 := by simpa using hc
      subst this
      exact ⟨gB (by decide), kf _ _⟩
  · simp only [step, hb, if_true, Step.skip.injEq] at h
    subst h; simp
theorem ri {c : UInt8} {s : Str} {k : Int} {t : Str} {n : Int} (h : step (c :: s) = .tok k t n) : dG c = false ∧ (c == 35) = false ∧ 1 ≤ t.length ∧ t <+: (c :: s) := by
  cases hb : dG c
  · cases hc : (c == 35)
    · obtain ⟨h1, h2⟩ := step_take hb hc h; exact ⟨rfl, rfl, h1, h2⟩
    · simp only [step, hb, hc, Bool.false_eq_true, if_false, if_true] at h; cases h
  · simp only [step, hb, if_true] at h; cases h
noncomputable def lex (s : Str) : Res := gr (s.length + 1) 0 s
theorem FB {s : Str} (h : s.length ≤ 65536) : tokens s = res (lex s) := by
  unfold tokens lex; rw [if_neg (by omega)]
theorem lex_ind {P : Str → Prop} (h0 : P [])
    (hs : ∀ c s k, step (c :: s) = .skip k → P ((c :: s).drop k) → P (c :: s))
    (he : ∀ c s e, step (c :: s) = .err e → P (c :: s))
    (ht : ∀ c s k t n, step (c :: s) = .tok k t n → P ((c :: s).drop t.length) → P (c :: s)) : ∀ s, P s := by
  have key : ∀ (m : Nat) (s : Str), s.length < m → P s := by
    intro m
    induction m with
    | zero => intro s h; omega
    | succ m ih =>
      intro s h
      cases s with
      | nil => exact h0
      | cons c s =>
        cases hst : step (c :: s) with
        | skip k =>
          obtain ⟨h1, h2⟩ := step_skip hst
          exact hs c s k hst (ih _ (by simp at *; omega))
        | err e => exact he c s e hst
        | tok k t n =>
          obtain ⟨_, _, h1, h2⟩ := ri hst
          exact ht c s k t n hst (ih _ (by simp at *; omega))
  exact fun s => key _ s (Nat.lt_succ_self _)
/-! what stands behind -/
theorem mw {p : UInt8 → Bool} : ∀ {t : Str}, t.all p = true → t.takeWhile p = t
  | [], _ => rfl
  | c :: t, h => by
    simp only [List.all_cons, Bool.and_eq_true] at h
    rw [List.takeWhile_cons, if_pos h.1, mw h.2]
theorem xd : ∀ g ∈ bz, ct g = g ∧ ∃ c s, g = c :: s ∧ dG c = false ∧ (c == 35) = false ∧ cH c = false ∧ isDigit c = false := by
  intro g hg
  have h1 : ∀ g ∈ bz, ct g = g ∧ (match g with | [] => false | c :: _ => !dG c && !(c == 35) && !cH c && !isDigit c) = true := by decide
  obtain ⟨h1, h2⟩ := h1 g hg
  refine ⟨h1, ?_⟩
  cases g with
  | nil => cases h2
  | cons c s =>
    simp only [Bool.and_eq_true, Bool.not_eq_true'] at h2
    exact ⟨c, s, rfl, h2.1.1.1, h2.1.1.2, h2.1.2, h2.2⟩
theorem step_self {c : UInt8} {s : Str} {k : Int} {t : Str} {n : Int} (h : step (c :: s) = .tok k t n) : step t = .tok k t n ∧ (∃ s', t = c :: s') ∧ (k = 1 ∨ k = 2 ∨ k = 3) ∧ (k ≠ 2 → n = 0) := by
  obtain ⟨hb, hc, ht1, ht2⟩ := ri h
  have hcs : ∃ s', t = c :: s' := by
    cases t with
    | nil => simp at ht1
    | cons d t =>
      obtain ⟨u, hu⟩ := ht2
      simp only [List.cons_append, List.cons.injEq] at hu
      exact ⟨t, by rw [hu.1]⟩
  obtain ⟨s', rfl⟩ := hcs
  simp only [step, hb, hc, Bool.false_eq_true, if_false] at h ⊢
  cases hlet : cH c
  · simp only [hlet, Bool.false_eq_true, if_false] at h ⊢
    cases hdig : isDigit c
    · simp only [hdig, Bool.false_eq_true, if_false] at h ⊢
      cases hsg : (ct (c :: s) == [])
      · simp only [hsg, Bool.false_eq_true, if_false, Step.tok.injEq] at h
        obtain ⟨rfl, h2, rfl⟩ := h
        obtain ⟨hm, _, _⟩ := nZ hsg
        rw [h2] at hm
        rw [(xd _ hm).1]
        exact ⟨rfl, ⟨s', rfl⟩, .inr (.inr rfl), fun _ => rfl⟩
      · simp [hsg] at h
    · simp only [hdig, if_true] at h ⊢
      split at h
      · cases h
      · rename_i hbig
        simp only [Step.tok.injEq] at h
        obtain ⟨rfl, h2, rfl⟩ := h
        have hall := iY isDigit (c :: s)
        rw [h2] at hall hbig
        rw [mw hall, h2, if_neg hbig]
        exact ⟨rfl, ⟨s', rfl⟩, .inr (.inl rfl), fun h => absurd rfl h⟩
  · simp only [hlet, if_true] at h ⊢
    split at h
    · cases h
    · rename_i h32
      simp only [Step.tok.injEq] at h
      obtain ⟨rfl, h2, rfl⟩ := h
      have hall := iY bT (c :: s)
      rw [h2] at hall h32
      rw [mw hall, if_neg h32]
      exact ⟨rfl, ⟨s', rfl⟩, .inl rfl, fun _ => rfl⟩
/-! two texts with a line feed between them -/
end Lx
end Go.Proofs.YtpnogcmollnjeaaGreatDoor
namespace Go.Proofs.YtpnogcmollnjeaaGreatDoor
noncomputable def jP : List Str := [[116, 114, 117, 101], [102, 97, 108, 115, 101], [88], [70], [71], [85], [82], [118, 97, 114], [112, 114, 111, 99]]
noncomputable def NS : List Str := [[], [], [], [43], [45], [42], [45], [61, 61], [33, 61], [60], [60, 61], [62], [62, 61], [116, 114, 117, 101], [102, 97, 108, 115, 101], [33], [38], [124], [45, 62], [60, 45, 62], [88], [70], [71], [85], [82]]
noncomputable def aU (op : Int) : Str := NS.getD op.toNat []
namespace Pa
abbrev Tok := Int × Str × Int × Int
abbrev Out := Except (Int × Int) (Ex × List Tok)
noncomputable def key (s : Str) : Bool := jP.contains s
noncomputable def sgn (t : Tok) : Bool := t.1 == 3 || (t.1 == 1 && key t.2.1)
noncomputable def ops : Nat → List Int
 | 1 => [19]
 | 2 => [18]
 | 3 => [17]
 | 4 => [16]
 | 5 => [23, 24]
 | 6 => [15, 20, 21, 22]
 | 7 => [7, 8, 9, 10, 11, 12]
 | 8 => [3, 4]
 | 9 => [5]
 | 10 => [6]
 | 11 => [13, 14]
 | _ => []
noncomputable def fnd (l : List Int) (t : Tok) : Option Int := bif sgn t then l.find? (fun o => aU o == t.2.1) else none
noncomputable def bG (s : Nat) (t : Tok) : Option Int := fnd (ops s) t
noncomputable def kd : Nat → Nat
 | 6 => 0
 | 10 => 0
 | 1 => 1
 | 2 => 1
 | 5 => 1
 | 7 => 1
 | 3 => 2
 | 4 => 2
 | 8 => 2
 | 9 => 2
 | 11 => 3
 | _ => 4
noncomputable def jS (s : Nat) : Bool := s == 1 || s == 2 || s == 5 || s == 6 || s == 10
noncomputable def dn (s : Nat) (d : Int) : Int := bif jS s then d + 1 else d
noncomputable def iK (s : Nat) (d : Int) : Bool := jS s && decide (320 ≤ d)
noncomputable def nx (s : Nat) : Nat := bif s == 7 then 8 else s
noncomputable def at_ (names : List Str) (v : Str) : Option Nat := names.findIdx? (fun x => v == x)
noncomputable def open_ (t : Tok) : Bool := t.1 == 3 && t.2.1 == [40]
noncomputable def close_ (t : Tok) : Bool := t.1 == 3 && t.2.1 == [41]
noncomputable def nV (t : Tok) : Bool := t.1 == 1 && !key t.2.1
noncomputable def NJ (k : Int) (a : Int) (r : Out) : Out := r.map fun p => (.mk k 0 a [p.1], p.2)
noncomputable def NI (k : Int) (a : Int) (x : Ex) (r : Out) : Out := r.map fun p => (.mk k 0 a [x, p.1], p.2)
inductive Job where
 | line (s : Nat)
 | loop (s : Nat) (a : Ex)
open Job
inductive P (names : List Str) : Job → Int → List Tok → Out → Prop
 | big {s d t ts} : iK s d = true → P names (line s) d (t :: ts) (.error (9, t.2.2.2))
 | pre {s d t ts k r} : kd s = 0 → iK s d = false → bG s t = some k → P names (line s) (dn s d) ts r → P names (line s) d (t :: ts) (NJ k t.2.2.2 r)
 | other {s d t ts r} : kd s = 0 → iK s d = false → bG s t = none → P names (line (s + 1)) (dn s d) (t :: ts) r → P names (line s) d (t :: ts) r
 | rErr {s d ts e} : kd s = 1 → iK s d = false → P names (line (s + 1)) (dn s d) ts (.error e) → P names (line s) d ts (.error e)
 | rOne {s d ts a t ts'} : kd s = 1 → iK s d = false → P names (line (s + 1)) (dn s d) ts (.ok (a, t :: ts')) → bG s t = none → P names (line s) d ts (.ok (a, t :: ts'))
 | rTwo {s d ts a t ts' k r} : kd s = 1 → iK s d = false → P names (line (s + 1)) (dn s d) ts (.ok (a, t :: ts')) → bG s t = some k → P names (line (nx s)) (dn s d) ts' r → P names (line s) d ts (NI k t.2.2.2 a r)
 | lErr {s d ts e} : kd s = 2 → P names (line (s + 1)) d ts (.error e) → P names (line s) d ts (.error e)
 | lGo {s d ts a ts' r} : kd s = 2 → P names (line (s + 1)) d ts (.ok (a, ts')) → P names (loop s a) d ts' r → P names (line s) d ts r
 | lpEnd {s a d t ts} : bG s t = none → P names (loop s a) d (t :: ts) (.ok (a, t :: ts))
 | lpErr {s a d t ts k e} : bG s t = some k → P names (line (s + 1)) d ts (.error e) → P names (loop s a) d (t :: ts) (.error e)
 | lpGo {s a d t ts k b ts' r} : bG s t = some k → P names (line (s + 1)) d ts (.ok (b, ts')) → P names (loop s (.mk k 0 t.2.2.2 [a, b])) d ts' r → P names (loop s a) d (t :: ts) r
 | oWord {s d t ts k} : kd s = 3 → bG s t = some k → P names (line s) d (t :: ts) (.ok (.mk k 0 t.2.2.2 [], ts))
 | oNum {s d t ts} : kd s = 3 → bG s t = none → (t.1 == 2) = true → P names (line s) d (t :: ts) (.ok (.mk 1 t.2.2.1 t.2.2.2 [], ts))
 | oVar {s d t ts i} : kd s = 3 → bG s t = none → (t.1 == 2) = false → nV t = true → at_ names t.2.1 = some i → P names (line s) d (t :: ts) (.ok (.mk 2 (i : Int) t.2.2.2 [], ts))
 | oName {s d t ts} : kd s = 3 → bG s t = none → (t.1 == 2) = false → nV t = true → at_ names t.2.1 = none → P names (line s) d (t :: ts) (.error (3, t.2.2.2))
 | oOpen {s d t ts a c ts'} : kd s = 3 → bG s t = none → (t.1 == 2) = false → nV t = false → open_ t = true → P names (line 1) d ts (.ok (a, c :: ts')) → close_ c = true → P names (line s) d (t :: ts) (.ok (a, ts'))
 | oErr {s d t ts e} : kd s = 3 → bG s t = none → (t.1 == 2) = false → nV t = false → open_ t = true → P names (line 1) d ts (.error e) → P names (line s) d (t :: ts) (.error e)
 | oClose {s d t ts a c ts'} : kd s = 3 → bG s t = none → (t.1 == 2) = false → nV t = false → open_ t = true → P names (line 1) d ts (.ok (a, c :: ts')) → close_ c = false → P names (line s) d (t :: ts) (.error (2, c.2.2.2))
 | oForm {s d t ts} : kd s = 3 → bG s t = none → (t.1 == 2) = false → nV t = false → open_ t = false → P names (line s) d (t :: ts) (.error (2, t.2.2.2))
theorem iw {s : Nat} {d : Int} (h : iK s d = true) : kd s = 0 ∨ kd s = 1 := by
 unfold iK jS at h
 simp only [Bool.and_eq_true, Bool.or_eq_true, beq_iff_eq] at h
 rcases h.1 with (((rfl | rfl) | rfl) | rfl) | rfl <;> simp [kd]
theorem P.det {names : List Str} {j : Job} {d : Int} {ts : List Tok} {r r' : Out} (h : P names j d ts r) (h' : P names j d ts r') : r = r' := by
 induction h generalizing r' with
 | big h0 => have := iw h0; cases h' <;> simp_all
 | pre h0 h1 h2 h3 ih => cases h' <;> simp_all <;> (rename_i h4; rw [ih h4])
 | other h0 h1 h2 h3 ih =>
  cases h' with
  | other _ _ _ h => exact ih h
  | _ => simp_all
 | rErr h0 h1 h2 ih =>
  cases h' with
  | rErr _ _ h => exact ih h
  | rOne _ _ h => cases ih h
  | rTwo _ _ h => cases ih h
  | _ => simp_all
 | rOne h0 h1 h2 h3 ih =>
  cases h' with
  | rErr _ _ h => cases ih h
  | rOne _ _ h => exact ih h
  | rTwo _ _ h h4 => cases ih h; simp_all
  | _ => simp_all
 | rTwo h0 h1 h2 h3 h4 ih ih2 =>
  cases h' with
  | rErr _ _ h => cases ih h
  | rOne _ _ h => cases ih h; simp_all
  | rTwo _ _ h h5 h6 => cases ih h; rw [h3] at h5; cases h5; rw [ih2 h6]
  | _ => simp_all
 | lErr h0 h1 ih =>
  cases h' with
  | lErr _ h => exact ih h
  | lGo _ h => cases ih h
  | big h => have := iw h; simp_all
  | _ => simp_all
 | lGo h0 h1 h2 ih ih2 =>
  cases h' with
  | lErr _ h => cases ih h
  | lGo _ h h3 => cases ih h; exact ih2 h3
  | big h => have := iw h; simp_all
  | _ => simp_all
 | lpEnd h0 => cases h' <;> simp_all
 | lpErr h0 h1 ih =>
  cases h' with
  | lpErr _ h => exact ih h
  | lpGo _ h => cases ih h
  | _ => simp_all
 | lpGo h0 h1 h2 ih ih2 =>
  cases h' with
  | lpErr _ h => cases ih h
  | lpGo h4 h h3 => cases ih h; rw [h0] at h4; cases h4; exact ih2 h3
  | _ => simp_all
 | oOpen h0 h1 h2 h3 h4 h5 h6 ih =>
  cases h' with
  | oOpen _ _ _ _ _ h _ => cases ih h; rfl
  | oErr _ _ _ _ _ h => cases ih h
  | oClose _ _ _ _ _ h h7 => cases ih h; simp_all
  | big h => have := iw h; simp_all
  | _ => simp_all
 | oErr h0 h1 h2 h3 h4 h5 ih =>
  cases h' with
  | oOpen _ _ _ _ _ h _ => cases ih h
  | oErr _ _ _ _ _ h => exact ih h
  | oClose _ _ _ _ _ h h7 => cases ih h
  | big h => have := iw h; simp_all
  | _ => simp_all
 | oClose h0 h1 h2 h3 h4 h5 h6 ih =>
  cases h' with
  | oOpen _ _ _ _ _ h _ => cases ih h; simp_all
  | oErr _ _ _ _ _ h => cases ih h
  | oClose _ _ _ _ _ h h7 => cases ih h; rfl
  | big h => have := iw h; simp_all
  | _ => simp_all
 | oWord h0 h1 => cases h' <;> first | (rename_i h; have := iw h; simp_all; done) | simp_all
 | oNum h0 h1 h2 => cases h' <;> first | (rename_i h; have := iw h; simp_all; done) | simp_all
 | oVar h0 h1 h2 h3 h4 => cases h' <;> first | (rename_i h; have := iw h; simp_all; done) | simp_all
 | oName h0 h1 h2 h3 h4 => cases h' <;> first | (rename_i h; have := iw h; simp_all; done) | simp_all
 | oForm h0 h1 h2 h3 h4 => cases h' <;> first | (rename_i h; have := iw h; simp_all; done) | simp_all
noncomputable def Ends : List Tok → Prop
 | [] => False
 | t :: ts => Ends ts ∨ (ts = [] ∧ t.1 = 4)
theorem Ends.tail {t : Tok} {ts : List Tok} (h : Ends (t :: ts)) (h4 : t.1 ≠ 4) : Ends ts := by
 rcases h with h | ⟨_, h⟩
 ·exact h
 ·exact absurd h h4
theorem Ends.ne {ts : List Tok} (h : Ends ts) : ∃ t r, ts = t :: r := by
 cases ts with
 | nil => exact h.elim
 | cons t r => exact ⟨t, r, rfl⟩
theorem Oe {t : Tok} (h : sgn t = true) : t.1 ≠ 4 := by
 unfold sgn at h
 intro h4
 rw [h4] at h; simp at h
theorem M5 {l : List Int} {t : Tok} {k : Int} (h : fnd l t = some k) : sgn t = true := by
 unfold fnd at h
 cases hs : sgn t
 ·rw [hs] at h; cases h
 ·rfl
theorem NK {l : List Int} {t : Tok} {k : Int} (h : fnd l t = some k) : t.1 ≠ 4 := Oe (M5 h)
theorem qe {s : Nat} {t : Tok} {k : Int} (h : bG s t = some k) : t.1 ≠ 4 := NK h
noncomputable def shorter : Job → Nat → Nat → Prop
 | line _, a, b => a < b
 | loop _ _, a, b => a ≤ b
theorem P.ends {names : List Str} {j : Job} {d : Int} {ts : List Tok} {r : Out} (h : P names j d ts r) : Ends ts → ∀ p, r = .ok p → Ends p.2 ∧ shorter j p.2.length ts.length := by
 induction h with
 | big => intro _ p h; cases h
 | @pre s d t ts k r h0 h1 h2 h3 ih =>
  intro he p h
  cases r with
  | error e => cases h
  | ok q =>
   obtain ⟨i1, i2⟩ := ih (he.tail (qe h2)) q rfl
   cases h
   refine ⟨i1, ?_⟩
   simp only [shorter, List.length_cons] at *; omega
 | other h0 h1 h2 h3 ih => intro he p h; exact ih he p h
 | rErr => intro _ p h; cases h
 | rOne h0 h1 h2 h3 ih => intro he p h; exact ih he p h
 | @rTwo s d ts a t ts' k r h0 h1 h2 h3 h4 ih ih2 =>
  intro he p h
  cases r with
  | error e => cases h
  | ok q =>
   obtain ⟨i1, i2⟩ := ih he _ rfl
   obtain ⟨i3, i4⟩ := ih2 (i1.tail (qe h3)) q rfl
   cases h
   refine ⟨i3, ?_⟩
   simp only [shorter, List.length_cons] at *; omega
 | lErr => intro _ p h; cases h
 | lGo h0 h1 h2 ih ih2 =>
  intro he p h
  obtain ⟨i1, i2⟩ := ih he _ rfl
  obtain ⟨i3, i4⟩ := ih2 i1 p h
  refine ⟨i3, ?_⟩
  simp only [shorter] at *; omega
 | lpEnd h0 => intro he p h; cases h; exact ⟨he, Nat.le_refl _⟩
 | lpErr => intro _ p h; cases h
 | lpGo h0 h1 h2 ih ih2 =>
  intro he p h
  obtain ⟨i1, i2⟩ := ih (he.tail (qe h0)) _ rfl
  obtain ⟨i3, i4⟩ := ih2 i1 p h
  refine ⟨i3, ?_⟩
  simp only [shorter, List.length_cons] at *; omega
 | oWord h0 h1 => intro he p h; cases h; exact ⟨he.tail (qe h1), Nat.lt_succ_self _⟩
 | oNum h0 h1 h2 => intro he p h; cases h; exact ⟨he.tail (by have := beq_iff_eq.1 h2; omega), Nat.lt_succ_self _⟩
 | oVar h0 h1 h2 h3 h4 => intro he p h; cases h; exact ⟨he.tail (by unfold nV at h3; simp only [Bool.and_eq_true, beq_iff_eq] at h3; omega), Nat.lt_succ_self _⟩
 | oName => intro _ p h; cases h
 | oOpen h0 h1 h2 h3 h4 h5 h6 ih =>
  intro he p h
  cases h
  obtain ⟨i1, i2⟩ := ih (he.tail (by unfold open_ at h4; simp only [Bool.and_eq_true, beq_iff_eq] at h4; omega)) _ rfl
  refine ⟨i1.tail (by unfold close_ at h6; simp only [Bool.and_eq_true, beq_iff_eq] at h6; omega), ?_⟩
  simp only [shorter, List.length_cons] at *; omega
 | oErr => intro _ p h; cases h
 | oClose => intro _ p h; cases h
 | oForm => intro _ p h; cases h
theorem P.err {names : List Str} {j : Job} {d : Int} {ts : List Tok} {r : Out} (h : P names j d ts r) : ∀ e, r = .error e → e.1 = 9 ∨ e.1 = 2 ∨ e.1 = 3 := by
 induction h with
 | big => intro e h; cases h; exact .inl rfl
 | @pre s d t ts k r h0 h1 h2 h3 ih =>
  intro e h
  cases r with
  | error e' => cases h; exact ih _ rfl
  | ok q => cases h
 | other h0 h1 h2 h3 ih => exact ih
 | rErr _ _ _ ih => exact ih
 | rOne => intro e h; cases h
 | @rTwo s d ts a t ts' k r h0 h1 h2 h3 h4 ih ih2 =>
  intro e h
  cases r with
  | error e' => cases h; exact ih2 _ rfl
  | ok q => cases h
 | lErr _ _ ih => exact ih
 | lGo _ _ _ _ ih => exact ih
 | lpEnd => intro e h; cases h
 | lpErr _ _ ih => exact ih
 | lpGo _ _ _ _ ih => exact ih
 | oWord => intro e h; cases h
 | oNum => intro e h; cases h
 | oVar => intro e h; cases h
 | oName => intro e h; cases h; exact .inr (.inr rfl)
 | oOpen => intro e h; cases h
 | oErr _ _ _ _ _ _ ih => exact ih
 | oClose => intro e h; cases h; exact .inr (.inl rfl)
 | oForm => intro e h; cases h; exact .inr (.inl rfl)
end Pa
end Go.Proofs.YtpnogcmollnjeaaGreatDoor
namespace Go.Proofs.YtpnogcmollnjeaaGreatDoor
namespace Sy
open Pa
abbrev Cmd := Int × Ex × List (Int × Ex)
abbrev Mdl := List Str × List (Int × Int) × List Int × List Str × List Cmd
abbrev Err := Int × Int
noncomputable def pQ (names : List Str) (ts : List Tok) : Out :=
 open Classical in if h : ∃ r, P names (.line 1) 0 ts r then Classical.choose h else .error (2, 0)
theorem Jz {names : List Str} {ts : List Tok} {r : Out} (h : P names (.line 1) 0 ts r) : pQ names ts = r := by
 unfold pQ
 rw [dif_pos ⟨r, h⟩]
 exact (Classical.choose_spec (⟨r, h⟩ : ∃ r, P names (.line 1) 0 ts r)).det h
theorem IK {names : List Str} {ts : List Tok} {p : Ex × List Tok} (h : pQ names ts = .ok p) : P names (.line 1) 0 ts (.ok p) := by
 unfold pQ at h
 split at h
 ·rename_i hx
  have := Classical.choose_spec hx
  rw [h] at this; exact this
 ·cases h
noncomputable def isT (k : Int) (x : Str) (t : Tok) : Bool := (t.1 == k) && (t.2.1 == x)
noncomputable def uI : List Tok → Int
 | [] => 0
 | t :: _ => t.2.2.2
noncomputable def isH (k : Int) (x : Str) : List Tok → Bool
 | [] => false
 | t :: _ => isT k x t
noncomputable def aV (x : Str) (ts : List Tok) : Except Err (List Tok) := match ts with
 | [] => .error (2, 0)
 | t :: r => bif isT 3 x t then .ok r else .error (2, t.2.2.2)
noncomputable def cL (full : Bool) (names procs : List Str) (ts : List Tok) : Except Err (Str × List Tok) := match ts with
 | [] => .error (2, 0)
 | t :: r => bif t.1 != 1 then .error (2, t.2.2.2) else bif key t.2.1 || names.contains t.2.1 || procs.contains t.2.1 then .error (3, t.2.2.2) else bif full then .error (9, t.2.2.2) else .ok (t.2.1, r)
noncomputable def jk (neg : Bool) (ts : List Tok) : Except Err (Int × List Tok) := match ts with
 | [] => .error (2, 0)
 | t :: r => bif t.1 != 2 then .error (2, t.2.2.2) else .ok (bif neg then IntKind.i64.wrap (0 - t.2.2.1) else t.2.2.1, r)
noncomputable def cS (ts : List Tok) : Except Err (Int × List Tok) := bif isH 3 [45] ts then jk true ts.tail else jk false ts
noncomputable def jI (lo hi : Int) : Bool := !(decide (hi < lo)) && !(decide (lo < -1073741824)) && !(decide (1073741824 < hi)) && !(decide (65535 < IntKind.i64.wrap (hi - lo)))
noncomputable def iM (m : Mdl) (ts : List Tok) : Except Err (Mdl × List Tok) :=
 match cL (decide (16 ≤ (m.1.length : Int))) m.1 m.2.2.2.1 ts with
 | .error e => .error e
 | .ok (name, ts1) => match cS ts1 with
  | .error e => .error e
  | .ok (lo, ts2) => match cS ts2 with
   | .error e => .error e
   | .ok (hi, ts3) => match cS ts3 with
    | .error e => .error e
    | .ok (first, ts4) => match aV [59] ts4 with
     | .error e => .error e
     | .ok ts5 => bif !(jI lo hi) || decide (first < lo) || decide (hi < first) then .error (5, uI ts1) else .ok ((m.1 ++ [name], m.2.1 ++ [(lo, hi)], m.2.2.1 ++ [first], m.2.2.2.1, m.2.2.2.2), ts5)
noncomputable def bW (want : Int) (names : List Str) (ts : List Tok) : Except Err (Ex × List Tok) :=
 match pQ names ts with
 | .error e => .error e
 | .ok (x, r) => bif (rt x).2.1 != 0 then .error ((rt x).2.1, (rt x).2.2) else bif (rt x).1 != want then .error (4, x.at_) else .ok (x, r)
noncomputable def cj (names : List Str) (v : Str) : Int := match at_ names v with
 | some i => (i : Int)
 | none => -1
noncomputable def mO (acc : List (Int × Ex)) (i : Int) : Bool := acc.any (fun s => s.1 == i)
noncomputable def cz (names : List Str) : Nat → List (Int × Ex) → List Tok → Except Err (List (Int × Ex) × List Tok)
 | 0, _, _ => .error (2, 0)
 | f + 1, acc, ts => match ts with
  | [] => .error (2, 0)
  | t :: r => bif t.1 != 1 then .error (2, t.2.2.2) else bif decide (cj names t.2.1 < 0) || mO acc (cj names t.2.1) then .error (3, t.2.2.2) else
   match aV [61] r with
   | .error e => .error e
   | .ok r1 => match bW 1 names r1 with
    | .error e => .error e
    | .ok (x, r2) => bif isH 3 [44] r2 then cz names f (acc ++ [(cj names t.2.1, x)]) r2.tail else .ok (acc ++ [(cj names t.2.1, x)], r2)
noncomputable def gw (m : Mdl) (ts : List Tok) : Except Err (Mdl × List Tok) :=
 bif decide (256 ≤ (m.2.2.2.2.length : Int)) then .error (9, uI ts) else
 match bW 2 m.1 ts with
 | .error e => .error e
 | .ok (g, r1) => match aV [58] r1 with
  | .error e => .error e
  | .ok r2 => match cz m.1 (r2.length + 1) [] r2 with
   | .error e => .error e
   | .ok (sets, r3) => match aV [59] r3 with
    | .error e => .error e
    | .ok r4 => .ok ((m.1, m.2.1, m.2.2.1, m.2.2.2.1, m.2.2.2.2 ++ [(IntKind.i64.wrap ((m.2.2.2.1.length : Int) - 1), g, sets)]), r4)
noncomputable def fK : Nat → Mdl → List Tok → Except Err (Mdl × List Tok)
 | 0, _, _ => .error (2, 0)
 | f + 1, m, ts => bif isH 3 [125] ts then .ok (m, ts.tail) else match gw m ts with
  | .error e => .error e
  | .ok (m', r) => fK f m' r
noncomputable def kb (m : Mdl) (ts : List Tok) : Except Err (Mdl × List Tok) :=
 match cL false m.1 m.2.2.2.1 ts with
 | .error e => .error e
 | .ok (name, r1) => match aV [123] r1 with
  | .error e => .error e
  | .ok r2 => fK (r2.length + 1) (m.1, m.2.1, m.2.2.1, m.2.2.2.1 ++ [name], m.2.2.2.2) r2
noncomputable def iA : Nat → Mdl → List Tok → Except Err Mdl
 | 0, _, _ => .error (2, 0)
 | f + 1, m, ts => match ts with
  | [] => .error (2, 0)
  | t :: r => bif t.1 == 4 then (bif m.1.isEmpty then .error (2, t.2.2.2) else .ok m)
   else bif isT 1 [118, 97, 114] t then (match iM m r with
    | .error e => .error e
    | .ok (m', r') => iA f m' r')
   else bif isT 1 [112, 114, 111, 99] t then (match kb m r with
    | .error e => .error e
    | .ok (m', r') => iA f m' r')
   else .error (2, t.2.2.2)
noncomputable def sys (l : List Tok) : Except Err Mdl := iA (l.length + 1) ([], [], [], [], []) l
noncomputable def wu : Except Err Mdl → Mdl × Int × Int
 | .ok m => (m, 0, 0)
 | .error e => (([], [], [], [], []), e.1, e.2)
/-! what is read is shorter, and ends as it ended -/
noncomputable def cg (ts ts' : List Tok) : Prop := Pa.Ends ts' ∧ ts'.length < ts.length
theorem CO {k : Int} {x : Str} {t : Tok} (h : isT k x t = true) (hk : k ≠ 4) : t.1 ≠ 4 := by
 unfold isT at h
 simp only [Bool.and_eq_true, beq_iff_eq] at h
 omega
theorem fV {x : Str} {ts r : List Tok} (he : Pa.Ends ts) (h : aV x ts = .ok r) : cg ts r := by
 obtain ⟨t, ts', rfl⟩ := he.ne
 simp only [aV] at h
 cases hc : isT 3 x t
 ·rw [hc] at h; cases h
 ·rw [hc] at h; cases h
  exact ⟨he.tail (CO hc (by decide)), Nat.lt_succ_self _⟩
theorem wQ {full : Bool} {names procs : List Str} {ts : List Tok} {p : Str × List Tok} (he : Pa.Ends ts) (h : cL full names procs ts = .ok p) :
  cg ts p.2 ∧ key p.1 = false ∧ names.contains p.1 = false ∧ procs.contains p.1 = false ∧ full = false := by
 obtain ⟨t, ts', rfl⟩ := he.ne
 simp only [cL] at h
 cases h1 : (t.1 != 1)
 ·rw [h1] at h
  simp only [cond_false] at h
  cases h2 : (key t.2.1 || names.contains t.2.1 || procs.contains t.2.1)
  ·rw [h2] at h
   simp only [cond_false] at h
   cases full
   ·cases h
    simp only [Bool.or_eq_false_iff] at h2
    have : t.1 = 1 := by simpa using h1
    exact ⟨⟨he.tail (by omega), Nat.lt_succ_self _⟩, h2.1.1, h2.1.2, h2.2, rfl⟩
   ·cases h
  ·rw [h2] at h; cases h
 ·rw [h1] at h; cases h
theorem BV {neg : Bool} {ts : List Tok} {p : Int × List Tok} (he : Pa.Ends ts) (h : jk neg ts = .ok p) : cg ts p.2 := by
 obtain ⟨t, ts', rfl⟩ := he.ne
 simp only [jk] at h
 cases h1 : (t.1 != 2)
 ·rw [h1] at h
  cases h
  have : t.1 = 2 := by simpa using h1
  exact ⟨he.tail (by omega), Nat.lt_succ_self _⟩
 ·rw [h1] at h; cases h
theorem gX {k : Int} {x : Str} {ts : List Tok} (he : Pa.Ends ts) (hk : k ≠ 4) (h : isH k x ts = true) : Pa.Ends ts.tail ∧ ts.tail.length + 1 = ts.length := by
 obtain ⟨t, ts', rfl⟩ := he.ne
 exact ⟨he.tail (CO h hk), rfl⟩
theorem y4 {ts : List Tok} {p : Int × List Tok} (he : Pa.Ends ts) (h : cS ts = .ok p) : cg ts p.2 := by
 unfold cS at h
 cases hc : isH 3 [45] ts
 ·rw [hc] at h; exact BV he h
 ·rw [hc] at h
  obtain ⟨h1, h2⟩ := gX he (by decide) hc
  obtain ⟨h3, h4⟩ := BV h1 h
  exact ⟨h3, by omega⟩
theorem jF {want : Int} {names : List Str} {ts : List Tok} {p : Ex × List Tok} (he : Pa.Ends ts) (h : bW want names ts = .ok p) :
  cg ts p.2 ∧ P names (.line 1) 0 ts (.ok p) ∧ (rt p.1).2.1 = 0 ∧ (rt p.1).1 = want := by
 unfold bW at h
 cases hr : pQ names ts with
 | error e => rw [hr] at h; cases h
 | ok q =>
  obtain ⟨x, r⟩ := q
  rw [hr] at h
  simp only at h
  cases h1 : ((rt x).2.1 != 0)
  ·rw [h1] at h
   simp only [cond_false] at h
   cases h2 : ((rt x).1 != want)
   ·rw [h2] at h
    cases h
    have hp := IK hr
    exact ⟨hp.ends he _ rfl, hp, by simpa using h1, by simpa using h2⟩
   ·rw [h2] at h; cases h
  ·rw [h1] at h; cases h
theorem cg.trans {a b c : List Tok} (h : cg a b) (k : cg b c) : cg a c := ⟨k.1, Nat.lt_trans k.2 h.2⟩
theorem CU {names : List Str} : ∀ (f : Nat) (acc : List (Int × Ex)) (ts : List Tok) (p : List (Int × Ex) × List Tok), Pa.Ends ts → cz names f acc ts = .ok p → cg ts p.2 := by
 intro f
 induction f with
 | zero => intro _ _ _ _ h; simp [cz] at h
 | succ f ih =>
  intro acc ts p he h
  obtain ⟨t, r, rfl⟩ := he.ne
  simp only [cz] at h
  cases h1 : (t.1 != 1)
  case true => rw [h1] at h; cases h
  rw [h1] at h
  simp only [cond_false] at h
  cases h2 : (decide (cj names t.2.1 < 0) || mO acc (cj names t.2.1))
  case true => rw [h2] at h; cases h
  rw [h2] at h
  simp only [cond_false] at h
  have ht : t.1 = 1 := by simpa using h1
  have he1 := he.tail (by omega)
  cases h3 : aV [61] r with
  | error e => rw [h3] at h; cases h
  | ok r1 =>
   rw [h3] at h
   simp only at h
   have s1 := fV he1 h3
   cases h4 : bW 1 names r1 with
   | error e => rw [h4] at h; cases h
   | ok q =>
    obtain ⟨x, r2⟩ := q
    rw [h4] at h
    simp only at h
    have s2 : cg r1 r2 := (jF s1.1 h4).1
    have s12 : cg (t :: r) r2 := ⟨s2.1, by have := s1.2; have := s2.2; simp only [List.length_cons]; omega⟩
    cases h5 : isH 3 [44] r2
    ·rw [h5] at h
     cases h
     exact s12
    ·rw [h5] at h
     simp only [cond_true] at h
     obtain ⟨e1, e2⟩ := gX s2.1 (by decide) h5
     have := ih _ _ _ e1 h
     exact ⟨this.1, by have := this.2; have := s12.2; omega⟩
theorem Eo {m : Mdl} {ts : List Tok} {p : Mdl × List Tok} (he : Pa.Ends ts) (h : iM m ts = .ok p) : cg ts p.2 ∧
  ∃ name lo hi first, p.1 = (m.1 ++ [name], m.2.1 ++ [(lo, hi)], m.2.2.1 ++ [first], m.2.2.2.1, m.2.2.2.2) ∧ jI lo hi = true ∧ lo ≤ first ∧ first ≤ hi ∧ m.1.length < 16 ∧ m.1.contains name = false := by
 unfold iM at h
 cases h1 : cL (decide (16 ≤ (m.1.length : Int))) m.1 m.2.2.2.1 ts with
 | error e => rw [h1] at h; cases h
 | ok q1 =>
  obtain ⟨name, ts1⟩ := q1
  rw [h1] at h
  simp only at h
  obtain ⟨s1, _, hnm, _, hfull⟩ := wQ he h1
  cases h2 : cS ts1 with
  | error e => rw [h2] at h; cases h
  | ok q2 =>
   obtain ⟨lo, ts2⟩ := q2
   rw [h2] at h
   simp only at h
   have s2 := y4 s1.1 h2
   cases h3 : cS ts2 with
   | error e => rw [h3] at h; cases h
   | ok q3 =>
    obtain ⟨hi, ts3⟩ := q3
    rw [h3] at h
    simp only at h
    have s3 := y4 s2.1 h3
    cases h4 : cS ts3 with
    | error e => rw [h4] at h; cases h
    | ok q4 =>
     obtain ⟨first, ts4⟩ := q4
     rw [h4] at h
     simp only at h
     have s4 := y4 s3.1 h4
     cases h5 : aV [59] ts4 with
     | error e => rw [h5] at h; cases h
     | ok ts5 =>
      rw [h5] at h
      simp only at h
      have s5 := fV s4.1 h5
      cases h6 : (!(jI lo hi) || decide (first < lo) || decide (hi < first))
      ·rw [h6] at h
       cases h
       simp only [Bool.or_eq_false_iff, decide_eq_false_iff_not, Bool.not_eq_false'] at h6
       simp only [decide_eq_false_iff_not] at hfull
       exact ⟨(((s1.trans s2).trans s3).trans s4).trans s5, name, lo, hi, first, rfl, h6.1.1, by omega, by omega, by omega, hnm⟩
      ·rw [h6] at h; cases h
theorem y9 {m : Mdl} {ts : List Tok} {p : Mdl × List Tok} (he : Pa.Ends ts) (h : gw m ts = .ok p) : cg ts p.2 ∧
  ∃ g r1 r2 sets r3, m.2.2.2.2.length < 256 ∧ bW 2 m.1 ts = .ok (g, r1) ∧ Pa.Ends r2 ∧ cz m.1 (r2.length + 1) [] r2 = .ok (sets, r3) ∧
   p.1 = (m.1, m.2.1, m.2.2.1, m.2.2.2.1, m.2.2.2.2 ++ [(IntKind.i64.wrap ((m.2.2.2.1.length : Int) - 1), g, sets)]) ∧ aV [58] r1 = .ok r2 ∧ aV [59] r3 = .ok p.2 := by
 unfold gw at h
 cases h0 : decide (256 ≤ (m.2.2.2.2.length : Int))
 case true => rw [h0] at h; cases h
 rw [h0] at h
 simp only [cond_false] at h
 simp only [decide_eq_false_iff_not] at h0
 cases h1 : bW 2 m.1 ts with
 | error e => rw [h1] at h; cases h
 | ok q1 =>
  obtain ⟨g, r1⟩ := q1
  rw [h1] at h
  simp only at h
  have s1 := (jF he h1).1
  cases h2 : aV [58] r1 with
  | error e => rw [h2] at h; cases h
  | ok r2 =>
   rw [h2] at h
   simp only at h
   have s2 := fV s1.1 h2
   cases h3 : cz m.1 (r2.length + 1) [] r2 with
   | error e => rw [h3] at h; cases h
   | ok q3 =>
    obtain ⟨sets, r3⟩ := q3
    rw [h3] at h
    simp only at h
    have s3 := CU _ _ _ _ s2.1 h3
    cases h4 : aV [59] r3 with
    | error e => rw [h4] at h; cases h
    | ok r4 =>
     rw [h4] at h
     cases h
     have s4 := fV s3.1 h4
     exact ⟨((s1.trans s2).trans s3).trans s4, g, r1, r2, sets, r3, by omega, rfl, s2.1, h3, rfl, h2, h4⟩
end Sy
end Go.Proofs.YtpnogcmollnjeaaGreatDoor
namespace Go.Proofs.YtpnogcmollnjeaaGreatDoor
namespace Pa
open Job
noncomputable def szJ : Job → Nat
 | line _ => 0
 | loop _ a => a.sz
theorem BZ (k n a : Int) : (Ex.mk k n a []).sz = 1 := by simp [Ex.sz, szL]
theorem Nt (k n a : Int) (x : Ex) : (Ex.mk k n a [x]).sz = x.sz + 1 := by simp [Ex.sz, szL]
theorem Ih (k n a : Int) (x y : Ex) : (Ex.mk k n a [x, y]).sz = x.sz + y.sz + 1 := by simp [Ex.sz, szL]
theorem P.size {names : List Str} {j : Job} {d : Int} {ts : List Tok} {r : Out} (h : P names j d ts r) : ∀ p, r = .ok p → p.1.sz + p.2.length ≤ ts.length + szJ j := by
 induction h with
 | big => intro p h; cases h
 | @pre s d t ts k r h0 h1 h2 h3 ih =>
  intro p h
  cases r with
  | error e => cases h
  | ok q => have := ih q rfl; cases h; simp only [szJ, Nt, List.length_cons] at *; omega
 | other h0 h1 h2 h3 ih => intro p h; exact ih p h
 | rErr => intro p h; cases h
 | rOne h0 h1 h2 h3 ih => intro p h; exact ih p h
 | @rTwo s d ts a t ts' k r h0 h1 h2 h3 h4 ih ih2 =>
  intro p h
  cases r with
  | error e => cases h
  | ok q => have i1 := ih _ rfl; have i2 := ih2 q rfl; cases h; simp only [szJ, Ih, List.length_cons] at *; omega
 | lErr => intro p h; cases h
 | lGo h0 h1 h2 ih ih2 => intro p h; have i1 := ih _ rfl; have i2 := ih2 p h; simp only [szJ] at *; omega
 | lpEnd h0 => intro p h; cases h; simp only [szJ]; omega
 | lpErr => intro p h; cases h
 | lpGo h0 h1 h2 ih ih2 => intro p h; have i1 := ih _ rfl; have i2 := ih2 p h; simp only [szJ, Ih, List.length_cons] at *; omega
 | oWord h0 h1 => intro p h; cases h; simp only [szJ, BZ, List.length_cons]; omega
 | oNum h0 h1 h2 => intro p h; cases h; simp only [szJ, BZ, List.length_cons]; omega
 | oVar h0 h1 h2 h3 h4 => intro p h; cases h; simp only [szJ, BZ, List.length_cons]; omega
 | oName => intro p h; cases h
 | oOpen h0 h1 h2 h3 h4 h5 h6 ih => intro p h; cases h; have := ih _ rfl; simp only [szJ, List.length_cons] at *; omega
 | oErr => intro p h; cases h
 | oClose => intro p h; cases h
 | oForm => intro p h; cases h
theorem P.suf {names : List Str} {j : Job} {d : Int} {ts : List Tok} {r : Out} (h : P names j d ts r) : ∀ p, r = .ok p → p.2 <:+ ts := by
 induction h with
 | big => intro p h; cases h
 | @pre s d t ts k r h0 h1 h2 h3 ih =>
  intro p h
  cases r with
  | error e => cases h
  | ok q => have := ih q rfl; cases h; exact this.trans (List.suffix_cons _ _)
 | other h0 h1 h2 h3 ih => exact ih
 | rErr => intro p h; cases h
 | rOne h0 h1 h2 h3 ih => exact ih
 | @rTwo s d ts a t ts' k r h0 h1 h2 h3 h4 ih ih2 =>
  intro p h
  cases r with
  | error e => cases h
  | ok q => have i1 := ih _ rfl; have i2 := ih2 q rfl; cases h; exact (i2.trans (List.suffix_cons _ _)).trans i1
 | lErr => intro p h; cases h
 | lGo h0 h1 h2 ih ih2 => intro p h; exact (ih2 p h).trans (ih _ rfl)
 | lpEnd h0 => intro p h; cases h; exact List.suffix_refl _
 | lpErr => intro p h; cases h
 | lpGo h0 h1 h2 ih ih2 => intro p h; exact ((ih2 p h).trans (ih _ rfl)).trans (List.suffix_cons _ _)
 | oWord h0 h1 => intro p h; cases h; exact List.suffix_cons _ _
 | oNum h0 h1 h2 => intro p h; cases h; exact List.suffix_cons _ _
 | oVar h0 h1 h2 h3 h4 => intro p h; cases h; exact List.suffix_cons _ _
 | oName => intro p h; cases h
 | oOpen h0 h1 h2 h3 h4 h5 h6 ih => intro p h; cases h; exact ((List.suffix_cons _ _).trans (ih _ rfl)).trans (List.suffix_cons _ _)
 | oErr => intro p h; cases h
 | oClose => intro p h; cases h
 | oForm => intro p h; cases h
noncomputable def n9 (t : Tok) : Prop := t.1 = 2 → 0 ≤ t.2.2.1 ∧ t.2.2.1 ≤ 1073741824
theorem rv {s : Nat} {t : Tok} {k : Int} (h : bG s t = some k) : k ∈ ops s := by
 unfold bG fnd at h
 cases hs : sgn t
 ·rw [hs] at h; cases h
 ·rw [hs] at h; exact List.mem_of_find?_eq_some h
theorem MH {s : Nat} (hk : kd s = 0) {k : Int} (h : k ∈ ops s) (vars : Int) : lh k 0 1 (ik k) vars = true := by
 have : s = 6 ∨ s = 10 := by
  unfold kd at hk
  split at hk <;> first | (cases hk; done) | simp
 rcases this with rfl | rfl
 ·simp only [ops, List.mem_cons, List.not_mem_nil, or_false] at h
  rcases h with rfl | rfl | rfl | rfl <;> rfl
 ·simp only [ops, List.mem_cons, List.not_mem_nil, or_false] at h
  subst h; rfl
theorem Ey {s : Nat} (hk : kd s = 1 ∨ kd s = 2) {k : Int} (h : k ∈ ops s) (vars : Int) : lh k 0 2 (ik k) vars = true := by
 have : s = 1 ∨ s = 2 ∨ s = 3 ∨ s = 4 ∨ s = 5 ∨ s = 7 ∨ s = 8 ∨ s = 9 := by
  unfold kd at hk
  split at hk <;> first | (rcases hk with hk | hk <;> cases hk; done) | simp
 rcases this with rfl | rfl | rfl | rfl | rfl | rfl | rfl | rfl <;> simp only [ops, List.mem_cons, List.not_mem_nil, or_false] at h
 ·subst h; rfl
 ·subst h; rfl
 ·subst h; rfl
 ·subst h; rfl
 ·rcases h with rfl | rfl <;> rfl
 ·rcases h with rfl | rfl | rfl | rfl | rfl | rfl <;> rfl
 ·rcases h with rfl | rfl <;> rfl
 ·subst h; rfl
theorem JL {s : Nat} (hk : kd s = 3) {k : Int} (h : k ∈ ops s) (vars : Int) : lh k 0 0 (ik k) vars = true := by
 have : s = 11 := by
  unfold kd at hk
  split at hk <;> first | (cases hk; done) | simp
 subst this
 simp only [ops, List.mem_cons, List.not_mem_nil, or_false] at h
 rcases h with rfl | rfl <;> rfl
theorem yO {vars k n a : Int} (h : lh k n 0 (ik k) vars = true) : eo vars (.mk k n a []) = true := by
 simp only [eo, pn, List.length_nil]; rw [show ((0 : Nat) : Int) = 0 from rfl, h]; rfl
theorem Nb {vars k a : Int} {x : Ex} (h : lh k 0 1 (ik k) vars = true) (hx : eo vars x = true) : eo vars (.mk k 0 a [x]) = true := by
 simp only [eo, pn, List.length_cons, List.length_nil]; rw [show ((0 + 1 : Nat) : Int) = 1 from rfl, h, hx]; rfl
theorem EY {vars k a : Int} {x y : Ex} (h : lh k 0 2 (ik k) vars = true) (hx : eo vars x = true) (hy : eo vars y = true) : eo vars (.mk k 0 a [x, y]) = true := by
 simp only [eo, pn, List.length_cons, List.length_nil]; rw [show ((0 + 1 + 1 : Nat) : Int) = 2 from rfl, h, hx, hy]; rfl
noncomputable def Ph (vars : Int) : Job → Bool
 | line _ => true
 | loop _ a => eo vars a
noncomputable def okJ : Job → Prop
 | line _ => True
 | loop s _ => kd s = 2
theorem LD {names : List Str} {v : Str} {i : Nat} (h : at_ names v = some i) : i < names.length := by
 unfold at_ at h
 have := List.findIdx?_eq_some_iff_getElem.1 h
 exact this.1
theorem P.may {names : List Str} {j : Job} {d : Int} {ts : List Tok} {r : Out} (h : P names j d ts r) : okJ j → (∀ t ∈ ts, n9 t) → Ph names.length j = true → ∀ p, r = .ok p → eo names.length p.1 = true := by
 induction h with
 | big => intro _ _ _ p h; cases h
 | @pre s d t ts k r h0 h1 h2 h3 ih =>
  intro _ hq _ p h
  cases r with
  | error e => cases h
  | ok q => have := ih trivial (fun t ht => hq t (List.mem_cons_of_mem _ ht)) rfl q rfl; cases h; exact Nb (MH h0 (rv h2) _) this
 | other h0 h1 h2 h3 ih => intro _ hq hj p h; exact ih trivial hq rfl p h
 | rErr => intro _ _ _ p h; cases h
 | rOne h0 h1 h2 h3 ih => intro _ hq hj p h; exact ih trivial hq rfl _ h
 | @rTwo s d ts a t ts' k r h0 h1 h2 h3 h4 ih ih2 =>
  intro _ hq _ p h
  cases r with
  | error e => cases h
  | ok q =>
   have i1 := ih trivial hq rfl _ rfl
   have hs := h2.suf _ rfl
   have i2 := ih2 trivial (fun t ht => hq t (hs.mem (List.mem_cons_of_mem _ ht))) rfl q rfl
   cases h
   exact EY (Ey (.inl h0) (rv h3) _) i1 i2
 | lErr => intro _ _ _ p h; cases h
 | lGo h0 h1 h2 ih ih2 =>
  intro _ hq _ p h
  have i1 := ih trivial hq rfl _ rfl
  have hs := h1.suf _ rfl
  exact ih2 h0 (fun t ht => hq t (hs.mem ht)) i1 p h
 | lpEnd h0 => intro _ hq hj p h; cases h; exact hj
 | lpErr => intro _ _ _ p h; cases h
 | @lpGo s a d t ts k b ts' r h0 h1 h2 ih ih2 =>
  intro ho hq hj p h
  have i1 := ih trivial (fun t ht => hq t (List.mem_cons_of_mem _ ht)) rfl _ rfl
  have hs := h1.suf _ rfl
  exact ih2 ho (fun t ht => hq t (List.mem_cons_of_mem _ (hs.mem ht))) (EY (a := t.2.2.2) (Ey (.inr ho) (rv h0) _) hj i1) p h
 | oWord h0 h1 => intro _ hq _ p h; cases h; exact yO (JL h0 (rv h1) _)
 | @oNum s d t ts h0 h1 h2 =>
  intro _ hq _ p h
  cases h
  obtain ⟨n0, n1⟩ := hq t (List.mem_cons_self ..) (beq_iff_eq.1 h2)
  refine yO ?_
  simp only [lh, ik]
  have e1 : decide (t.2.2.1 < 0) = false := decide_eq_false (by omega)
  have e2 : decide (1073741824 < t.2.2.1) = false := decide_eq_false (by omega)
  rw [e1, e2]; rfl
 | @oVar s d t ts i h0 h1 h2 h3 h4 =>
  intro _ hq _ p h
  cases h
  have hlt := LD h4
  refine yO ?_
  simp only [lh, ik]
  have e1 : decide ((i : Int) < 0) = false := decide_eq_false (by omega)
  have e2 : decide ((names.length : Int) ≤ (i : Int)) = false := decide_eq_false (by omega)
  rw [e1, e2]; rfl
 | oName => intro _ _ _ p h; cases h
 | @oOpen s d t ts a c ts' h0 h1 h2 h3 h4 h5 h6 ih => intro _ hq _ p h; cases h; exact ih trivial (fun t ht => hq t (List.mem_cons_of_mem _ ht)) rfl (a, c :: ts') rfl
 | oErr => intro _ _ _ p h; cases h
 | oClose => intro _ _ _ p h; cases h
 | oForm => intro _ _ _ p h; cases h
end Pa
end Go.Proofs.YtpnogcmollnjeaaGreatDoor
namespace Go.Proofs.YtpnogcmollnjeaaGreatDoor
namespace Pa
noncomputable def isLet (c : UInt8) : Bool := (decide (97 ≤ c) && decide (c ≤ 122)) || (decide (65 ≤ c) && decide (c ≤ 90)) || c == 95
noncomputable def dy (t : Tok) : Prop := (t.1 = 1 ∧ ∃ c s, t.2.1 = c :: s ∧ isLet c = true) ∨ t.1 = 2 ∨ (t.1 = 3 ∧ ∀ c s, t.2.1 = c :: s → isLet c = false) ∨ t.1 = 4
theorem jd {l : List Tok} {a : Nat} {t : Tok} {ts : List Tok} (h : l.drop a = t :: ts) : idx l (a : Int) = some t ∧ l.drop (a + 1) = ts ∧ a < l.length ∧ t ∈ l := by
 have hlt : a < l.length := by
  rcases Nat.lt_or_ge a l.length with h1 | h1
  ·exact h1
  ·rw [List.drop_of_length_le h1] at h; cases h
 rw [List.drop_eq_getElem_cons hlt] at h
 simp only [List.cons.injEq] at h
 refine ⟨by simp [idx, List.getElem?_eq_getElem hlt, h.1], h.2, hlt, by rw [← h.1]; exact List.getElem_mem ..⟩
theorem bM {a : Nat} (h : a < 4611686018427387904) : IntKind.i64.wrap ((a : Int) + 1) = ((a + 1 : Nat) : Int) := by rw [w64 (by omega)]; omega
end Pa
namespace Sy
open Pa
theorem fk {α : Type} {l pre r : List α} {x : α} (h : l = pre ++ x :: r) : decide ((pre.length : Int) < (List.length l : Int)) = true := by subst h; simp; omega
theorem gM {α : Type} {l pre : List α} (h : l = pre ++ []) : decide ((pre.length : Int) < (List.length l : Int)) = false := by subst h; simp
theorem mid {α : Type} {l pre r : List α} {x : α} (h : l = pre ++ x :: r) : idx l (pre.length : Int) = some x := by subst h; simp [idx]
theorem cN {k b : Nat} (h : k * b ≤ 140737488355328) (h2 : k ≤ 9223372036854775807) : az k b = true := by
 simp only [az, Bool.and_eq_true]; exact ⟨Nat.ble_eq_true_of_le h, Nat.ble_eq_true_of_le h2⟩
theorem c7 {ρ : Type} {c : Bool} (h : c = true) (k : Option ρ) : chk c k = k := by subst h; rfl
end Sy
end Go.Proofs.YtpnogcmollnjeaaGreatDoor
namespace Go.Proofs.YtpnogcmollnjeaaGreatDoor
namespace Sy
open Pa
theorem FA (s : Str) (h : s.all Lx.isDigit = true) : 0 ≤ Lx.c9 0 s := Lx.oz s 0 (Int.le_refl _) h
theorem He {c : UInt8} {s : Str} {k : Int} {t : Str} {n : Int} (h : Lx.step (c :: s) = .tok k t n) (pl : Int) : dy (k, t, n, pl) ∧ n9 (k, t, n, pl) ∧ k ≠ 4 := by
 obtain ⟨hb, hc, _, _⟩ := Lx.ri h
 simp only [Lx.step, hb, hc, Bool.false_eq_true, if_false] at h
 cases hlet : Lx.cH c
 ·simp only [hlet, Bool.false_eq_true, if_false] at h
  cases hdig : Lx.isDigit c
  ·simp only [hdig, Bool.false_eq_true, if_false] at h
   cases hsg : (Lx.ct (c :: s) == [])
   ·simp only [hsg, Bool.false_eq_true, if_false, Lx.Step.tok.injEq] at h
    obtain ⟨rfl, rfl, rfl⟩ := h
    obtain ⟨h1, h2, _⟩ := Lx.nZ hsg
    obtain ⟨_, c', s', hg, _, _, hl, _⟩ := Lx.xd _ h1
    refine ⟨.inr (.inr (.inl ⟨rfl, fun c2 s2 h3 => ?_⟩)), (fun h => by cases h), by decide⟩
    simp only at h3
    rw [hg] at h3
    cases h3
    exact hl
   ·simp [hsg] at h
  ·simp only [hdig, if_true] at h
   split at h
   ·cases h
   ·rename_i hbig
    simp only [Lx.Step.tok.injEq] at h
    obtain ⟨rfl, rfl, rfl⟩ := h
    refine ⟨.inr (.inl rfl), fun _ => ⟨FA _ (Lx.iY _ _), ?_⟩, by decide⟩
    simp only [Lx.big, decide_eq_true_eq] at hbig
    simp only; omega
 ·simp only [hlet, if_true] at h
  split at h
  ·cases h
  ·simp only [Lx.Step.tok.injEq] at h
   obtain ⟨rfl, rfl, rfl⟩ := h
   refine ⟨.inl ⟨rfl, c, s.takeWhile Lx.bT, ?_, hlet⟩, (fun h => by cases h), by decide⟩
   simp only [List.takeWhile_cons, Lx.kq hlet, if_true]
structure Good (n : Nat) (l : List Tok) : Prop where
 ok : ∀ t ∈ l, dy t
 num : ∀ t ∈ l, n9 t
 ends : Pa.Ends l
 len : l.length ≤ n
theorem Hd {t : Tok} {l : List Tok} (h : Pa.Ends l) : Pa.Ends (t :: l) := .inl h
theorem Ht : ∀ (f a : Nat) (s : Str) (l : List Tok), s.length < f → Lx.gr f a s = .ok l → Good (s.length + 1) l := by
 intro f
 induction f with
 | zero => intro a s l h; omega
 | succ f ih =>
  intro a s l hf h
  cases s with
  | nil =>
   simp only [Lx.gr] at h; cases h
   exact ⟨(fun t ht => by rw [List.mem_singleton.1 ht]; exact .inr (.inr (.inr rfl))), (fun t ht => by rw [List.mem_singleton.1 ht]; intro h; cases h), .inr ⟨rfl, rfl⟩, by simp⟩
  | cons c s =>
   simp only [Lx.gr] at h
   cases hs : Lx.step (c :: s) with
   | skip k =>
    rw [hs] at h
    obtain ⟨h1, h2⟩ := Lx.step_skip hs
    have := ih _ _ _ (by simp only [List.length_drop, List.length_cons] at *; omega) h
    exact ⟨this.ok, this.num, this.ends, by have := this.len; simp only [List.length_drop, List.length_cons] at *; omega⟩
   | err e => rw [hs] at h; cases h
   | tok k tx n =>
    rw [hs] at h
    simp only at h
    obtain ⟨_, _, h1, h2⟩ := Lx.ri hs
    have h3 := h2.length_le
    obtain ⟨g1, g2, _⟩ := He hs (a : Int)
    cases hr : Lx.gr f (a + tx.length) ((c :: s).drop tx.length) with
    | error e => rw [hr] at h; cases h
    | ok l' =>
     rw [hr] at h
     cases h
     have := ih _ _ _ (by simp only [List.length_drop, List.length_cons] at *; omega) hr
     refine ⟨fun t ht => ?_, fun t ht => ?_, Hd this.ends, by have := this.len; simp only [List.length_drop, List.length_cons] at *; omega⟩
     ·rcases List.mem_cons.1 ht with rfl | ht
      ·exact g1
      ·exact this.ok t ht
     ·rcases List.mem_cons.1 ht with rfl | ht
      ·exact g2
      ·exact this.num t ht
theorem CN {s : Str} {l : List Tok} (h : Lx.lex s = .ok l) : Good (s.length + 1) l := Ht _ _ _ _ (Nat.lt_succ_self _) h
theorem Dr : ∀ (f a : Nat) (s : Str) (e : Int × Int), Lx.gr f a s = .error e → e.1 ≠ 0 := by
 intro f
 induction f with
 | zero => intro a s e h; simp [Lx.gr] at h
 | succ f ih =>
  intro a s e h
  cases s with
  | nil => simp [Lx.gr] at h
  | cons c s =>
   simp only [Lx.gr] at h
   cases hs : Lx.step (c :: s) with
   | skip k => rw [hs] at h; exact ih _ _ _ h
   | err e' => rw [hs] at h; cases h; exact Lx.Oy hs
   | tok k tx n =>
    rw [hs] at h
    simp only at h
    cases hr : Lx.gr f (a + tx.length) ((c :: s).drop tx.length) with
    | error e' => rw [hr] at h; cases h; exact ih _ _ _ hr
    | ok l' => rw [hr] at h; cases h
noncomputable def wB (text : Str) : Except Err Mdl := if 65536 < text.length then .error (9, 0) else match Lx.lex text with
 | .ok l => sys l
 | .error e => .error e
/-! what systems of texts are -/
structure Bd (n : Nat) (s : Int × Ex) : Prop where
 var : 0 ≤ s.1 ∧ s.1 < n
 may : eo (n : Int) s.2 = true
 typ : (rt s.2).2.1 = 0 ∧ (rt s.2).1 = 1
 sz : s.2.sz ≤ 65537
structure A4 (n : Nat) (c : Cmd) : Prop where
 may : eo (n : Int) c.2.1 = true
 typ : (rt c.2.1).2.1 = 0 ∧ (rt c.2.1).1 = 2
 sz : c.2.1.sz ≤ 65537
 sets : ∀ s ∈ c.2.2, Bd n s
 one : 1 ≤ c.2.2.length
 len : c.2.2.length ≤ 65537
 once : c.2.2.Pairwise (fun a b => a.1 ≠ b.1)
structure uN (f : Int × Int) : Prop where
 le : f.1 ≤ f.2
 lo : -1073741824 ≤ f.1
 hi : f.2 ≤ 1073741824
 wide : f.2 - f.1 ≤ 65535
structure Part (m : Mdl) : Prop where
 names : m.1.length ≤ 16
 schema : m.2.1.length = m.1.length
 init : m.2.2.1.length = m.1.length
 fields : ∀ f ∈ m.2.1, uN f
 first : ∀ (i : Nat) (f : Int × Int) (v : Int), m.2.1[i]? = some f → m.2.2.1[i]? = some v → f.1 ≤ v ∧ v ≤ f.2
 cmds : m.2.2.2.2.length ≤ 256
 cmd : ∀ c ∈ m.2.2.2.2, A4 m.1.length c
structure Wf (m : Mdl) : Prop extends Part m where
 some_ : 1 ≤ m.1.length
theorem Mc {op n len want v w : Int} (h : lh op n len want v = true) (hv : v ≤ w) : lh op n len want w = true := by
 simp only [lh, Bool.and_eq_true, Bool.not_eq_true', Bool.or_eq_false_iff, decide_eq_false_iff_not, bne_eq_false_iff_eq, Bool.and_eq_false_imp, beq_iff_eq] at h ⊢
 obtain ⟨⟨⟨h1, h2⟩, h3⟩, ⟨h4, h5⟩, h6⟩ := h
 exact ⟨⟨⟨h1, h2⟩, h3⟩, ⟨h4, fun h => by have := h5 h; omega⟩, h6⟩
theorem Em {v w : Int} (hv : v ≤ w) : ∀ (N : Nat) (e : Ex), e.sz ≤ N → eo v e = true → eo w e = true := by
 intro N
 induction N with
 | zero => intro e h; have := q6 e; omega
 | succ N ih =>
  intro e h hm
  have h0 := (pU hm).2.2.2.2
  rw [EC] at hm ⊢
  simp only [Bool.and_eq_true] at hm ⊢
  refine ⟨Mc hm.1 hv, ?_⟩
  have : ∀ l : List Ex, (∀ x ∈ l, x ∈ e.l) → pn w l = true := fun l => by
   induction l with
   | nil => intro _; simp only [pn]
   | cons x r ih2 =>
    intro hx
    simp only [pn, Bool.and_eq_true]
    exact ⟨ih x (by have := pS (hx x (by simp)); omega) (h0 x (hx x (by simp))), ih2 (fun y hy => hx y (List.mem_cons_of_mem _ hy))⟩
  exact this e.l (fun x h => h)
theorem A4.le {n k : Nat} {c : Cmd} (h : A4 n c) (hk : n ≤ k) : A4 k c :=
 ⟨Em (by omega) _ _ (Nat.le_refl _) h.may, h.typ, h.sz, fun s hs => ⟨⟨(h.sets s hs).var.1, by have := (h.sets s hs).var.2; omega⟩, Em (by omega) _ _ (Nat.le_refl _) (h.sets s hs).may, (h.sets s hs).typ, (h.sets s hs).sz⟩, h.one, h.len, h.once⟩
theorem Hm {lo hi : Int} (h : jI lo hi = true) : uN (lo, hi) := by
 simp only [jI, Bool.and_eq_true, Bool.not_eq_true', decide_eq_false_iff_not] at h
 obtain ⟨⟨⟨h1, h2⟩, h3⟩, h4⟩ := h
 rw [w64 (by omega)] at h4
 exact ⟨by simp only; omega, by simp only; omega, by simp only; omega, by simp only; omega⟩
noncomputable def fC (ts : List Tok) : Prop := (∀ t ∈ ts, n9 t) ∧ Pa.Ends ts ∧ ts.length ≤ 65537
theorem fC.of {ts ts' : List Tok} (h : fC ts) (hs : cg ts ts') (hf : ts' <:+ ts) : fC ts' := ⟨fun t ht => h.1 t (hf.mem ht), hs.1, by have := hs.2; have := h.2.2; omega⟩
theorem kF {x : Str} {ts r : List Tok} (h : aV x ts = .ok r) : r <:+ ts := by
 cases ts with
 | nil => simp [aV] at h
 | cons t ts' =>
  simp only [aV] at h
  cases hc : isT 3 x t
  ·rw [hc] at h; cases h
  ·rw [hc] at h; cases h; exact List.suffix_cons _ _
theorem Aq {full : Bool} {names procs : List Str} {ts : List Tok} {p : Str × List Tok} (h : cL full names procs ts = .ok p) : p.2 <:+ ts := by
 cases ts with
 | nil => simp [cL] at h
 | cons t ts' =>
  simp only [cL] at h
  cases h1 : (t.1 != 1)
  ·rw [h1] at h
   simp only [cond_false] at h
   cases h2 : (key t.2.1 || names.contains t.2.1 || procs.contains t.2.1)
   ·rw [h2] at h
    simp only [cond_false] at h
    cases full
    ·cases h; exact List.suffix_cons _ _
    ·cases h
   ·rw [h2] at h; cases h
  ·rw [h1] at h; cases h
theorem As {neg : Bool} {ts : List Tok} {p : Int × List Tok} (h : jk neg ts = .ok p) : p.2 <:+ ts := by
 cases ts with
 | nil => simp [jk] at h
 | cons t ts' =>
  simp only [jk] at h
  cases h1 : (t.1 != 2)
  ·rw [h1] at h; cases h; exact List.suffix_cons _ _
  ·rw [h1] at h; cases h
theorem vW {ts : List Tok} {p : Int × List Tok} (h : cS ts = .ok p) : p.2 <:+ ts := by
 unfold cS at h
 cases hc : isH 3 [45] ts
 ·rw [hc] at h; exact As h
 ·rw [hc] at h; exact (As h).trans (List.tail_suffix _)
theorem sY {want : Int} {names : List Str} {ts : List Tok} {p : Ex × List Tok} (he : Pa.Ends ts) (h : bW want names ts = .ok p) : p.2 <:+ ts := (jF he h).2.1.suf _ rfl
theorem Io {names : List Str} : ∀ (f : Nat) (acc : List (Int × Ex)) (ts : List Tok) (p : List (Int × Ex) × List Tok), Pa.Ends ts → cz names f acc ts = .ok p → p.2 <:+ ts := by
 intro f
 induction f with
 | zero => intro _ _ _ _ h; simp [cz] at h
 | succ f ih =>
  intro acc ts p he h
  obtain ⟨t, r, rfl⟩ := he.ne
  simp only [cz] at h
  cases h1 : (t.1 != 1)
  case true => rw [h1] at h; cases h
  rw [h1] at h
  simp only [cond_false] at h
  cases h2 : (decide (cj names t.2.1 < 0) || mO acc (cj names t.2.1))
  case true => rw [h2] at h; cases h
  rw [h2] at h
  simp only [cond_false] at h
  have ht : t.1 = 1 := by simpa using h1
  have he1 := he.tail (by omega)
  cases h3 : aV [61] r with
  | error e => rw [h3] at h; cases h
  | ok r1 =>
   rw [h3] at h
   simp only at h
   have s1 := fV he1 h3
   cases h4 : bW 1 names r1 with
   | error e => rw [h4] at h; cases h
   | ok q =>
    obtain ⟨x, r2⟩ := q
    rw [h4] at h
    simp only at h
    have s2 : cg r1 r2 := (jF s1.1 h4).1
    have f12 : r2 <:+ t :: r := ((sY s1.1 h4).trans (kF h3)).trans (List.suffix_cons _ _)
    cases h5 : isH 3 [44] r2
    ·rw [h5] at h; cases h; exact f12
    ·rw [h5] at h
     simp only [cond_true] at h
     exact ((ih _ _ _ (gX s2.1 (by decide) h5).1 h).trans (List.tail_suffix _)).trans f12
theorem z6 {want : Int} {names : List Str} {ts : List Tok} {x : Ex} {r : List Tok} (hT : fC ts) (h : bW want names ts = .ok (x, r)) :
  eo (names.length : Int) x = true ∧ ((rt x).2.1 = 0 ∧ (rt x).1 = want) ∧ x.sz ≤ 65537 := by
 obtain ⟨sh, hp, h1, h2⟩ := jF hT.2.1 h
 have hsz := hp.size _ rfl
 simp only [szJ, Nat.add_zero] at hsz
 exact ⟨hp.may trivial hT.1 rfl _ rfl, ⟨h1, h2⟩, by have := hT.2.2; omega⟩
theorem MD {names : List Str} {v : Str} (h : ¬ cj names v < 0) : 0 ≤ cj names v ∧ cj names v < names.length := by
 unfold cj at h ⊢
 cases ha : at_ names v with
 | none => rw [ha] at h; simp at h
 | some i => have := LD ha; simp only; omega
theorem F4 {names : List Str} : ∀ (f : Nat) (acc : List (Int × Ex)) (ts : List Tok) (p : List (Int × Ex) × List Tok), fC ts → cz names f acc ts = .ok p →
  (∀ s ∈ acc, Bd names.length s) → acc.Pairwise (fun a b => a.1 ≠ b.1) → acc.length + ts.length ≤ 65537 → (∀ s ∈ p.1, Bd names.length s) ∧ p.1.Pairwise (fun a b => a.1 ≠ b.1) ∧ p.1.length ≤ 65537 ∧ 1 ≤ p.1.length := by
 intro f
 induction f with
 | zero => intro _ _ _ _ h; simp [cz] at h
 | succ f ih =>
  intro acc ts p hT h hacc hpw hlen
  obtain ⟨t, r, rfl⟩ := hT.2.1.ne
  have he := hT.2.1
  simp only [cz] at h
  cases h1 : (t.1 != 1)
  case true => rw [h1] at h; cases h
  rw [h1] at h
  simp only [cond_false] at h
  cases h2 : (decide (cj names t.2.1 < 0) || mO acc (cj names t.2.1))
  case true => rw [h2] at h; cases h
  rw [h2] at h
  simp only [cond_false] at h
  have ht : t.1 = 1 := by simpa using h1
  have he1 := he.tail (by omega)
  simp only [Bool.or_eq_false_iff, decide_eq_false_iff_not] at h2
  cases h3 : aV [61] r with
  | error e => rw [h3] at h; cases h
  | ok r1 =>
   rw [h3] at h
   simp only at h
   have s1 := fV he1 h3
   have s1l := s1.2
   have hTr : fC r := ⟨fun t' h' => hT.1 t' (List.mem_cons_of_mem _ h'), he1, by have := hT.2.2; simp only [List.length_cons] at this; omega⟩
   have hT1 : fC r1 := hTr.of s1 (kF h3)
   cases h4 : bW 1 names r1 with
   | error e => rw [h4] at h; cases h
   | ok q =>
    obtain ⟨x, r2⟩ := q
    rw [h4] at h
    simp only at h
    have s2 : cg r1 r2 := (jF s1.1 h4).1
    have s2l := s2.2
    have hT2 : fC r2 := hT1.of s2 (sY s1.1 h4)
    obtain ⟨g1, g2, g3⟩ := z6 hT1 h4
    have hi := MD h2.1
    have hnew : ∀ s ∈ acc ++ [(cj names t.2.1, x)], Bd names.length s := fun s hs => by
     rcases List.mem_append.1 hs with hs | hs
     ·exact hacc s hs
     ·rw [List.mem_singleton.1 hs]; exact ⟨hi, g1, g2, g3⟩
    have hpw' : (acc ++ [(cj names t.2.1, x)]).Pairwise (fun a b => a.1 ≠ b.1) := by
     rw [List.pairwise_append]
     refine ⟨hpw, List.pairwise_singleton _ _, fun a ha b hb => ?_⟩
     rw [List.mem_singleton.1 hb]
     intro e
     have : mO acc (cj names t.2.1) = true := by
      unfold mO
      rw [List.any_eq_true]
      exact ⟨a, ha, by simpa using e⟩
     rw [this] at h2; cases h2.2
    simp only [List.length_cons] at hlen
    cases h5 : isH 3 [44] r2
    ·rw [h5] at h
     cases h
     exact ⟨hnew, hpw', by simp; omega, by simp⟩
    ·rw [h5] at h
     simp only [cond_true] at h
     obtain ⟨e1, e2⟩ := gX s2.1 (by decide) h5
     have hT3 : fC r2.tail := ⟨fun t' h' => hT2.1 t' ((List.tail_suffix _).mem h'), e1, by have := hT2.2.2; omega⟩
     exact ih _ _ _ hT3 h hnew hpw' (by simp; omega)
theorem Hf {m : Mdl} {ts : List Tok} {p : Mdl × List Tok} (hT : fC ts) (hm : Part m) (h : gw m ts = .ok p) : Part p.1 ∧ fC p.2 ∧ p.2.length < ts.length := by
 obtain ⟨sh, g, r1, r2, sets, r3, h256, h1, hE2, h3, hp, q2, q4⟩ := y9 hT.2.1 h
 have s1 : cg ts r1 := (jF hT.2.1 h1).1
 have hT1 : fC r1 := hT.of s1 (sY hT.2.1 h1)
 have s2 := fV s1.1 q2
 have hT2 : fC r2 := hT1.of s2 (kF q2)
 have s3 : cg r2 r3 := CU _ _ _ _ s2.1 h3
 have hT3 : fC r3 := hT2.of s3 (Io _ _ _ _ s2.1 h3)
 have s4 := fV s3.1 q4
 have hT4 : fC p.2 := hT3.of s4 (kF q4)
 obtain ⟨g1, g2, g3⟩ := z6 hT h1
 obtain ⟨t1, t2, t3, t4⟩ := F4 _ _ _ _ hT2 h3 (fun s hs => by cases hs) List.Pairwise.nil (by have := hT2.2.2; simpa using this)
 refine ⟨?_, hT4, by have := s1.2; have := s2.2; have := s3.2; have := s4.2; omega⟩
 rw [hp]
 refine ⟨hm.names, hm.schema, hm.init, hm.fields, hm.first, by simp; omega, fun c hc => ?_⟩
 rcases List.mem_append.1 hc with hc | hc
 ·exact hm.cmd c hc
 ·rw [List.mem_singleton.1 hc]
  exact ⟨g1, g2, g3, t1, t4, t3, t2⟩
theorem FF : ∀ (f : Nat) (m : Mdl) (ts : List Tok) (p : Mdl × List Tok), fC ts → Part m → fK f m ts = .ok p → Part p.1 ∧ fC p.2 := by
 intro f
 induction f with
 | zero => intro _ _ _ _ _ h; simp [fK] at h
 | succ f ih =>
  intro m ts p hT hm h
  simp only [fK] at h
  cases hc : isH 3 [125] ts
  ·rw [hc] at h
   simp only [cond_false] at h
   cases h1 : gw m ts with
   | error e => rw [h1] at h; cases h
   | ok q =>
    obtain ⟨m', r⟩ := q
    rw [h1] at h
    simp only at h
    obtain ⟨g1, g2, _⟩ := Hf hT hm h1
    exact ih m' r p g2 g1 h
  ·rw [hc] at h
   cases h
   obtain ⟨h1, h2⟩ := gX hT.2.1 (by decide) hc
   exact ⟨hm, fun t ht => hT.1 t ((List.tail_suffix _).mem ht), h1, by have := hT.2.2; show ts.tail.length ≤ _; omega⟩
theorem GZ {m : Mdl} {ts : List Tok} {p : Mdl × List Tok} (hT : fC ts) (hm : Part m) (h : kb m ts = .ok p) : Part p.1 ∧ fC p.2 := by
 unfold kb at h
 cases h1 : cL false m.1 m.2.2.2.1 ts with
 | error e => rw [h1] at h; cases h
 | ok q1 =>
  obtain ⟨name, r1⟩ := q1
  rw [h1] at h
  simp only at h
  have s1 : cg ts r1 := (wQ hT.2.1 h1).1
  have hT1 : fC r1 := hT.of s1 (Aq h1)
  cases h2 : aV [123] r1 with
  | error e => rw [h2] at h; cases h
  | ok r2 =>
   rw [h2] at h
   simp only at h
   have s2 := fV s1.1 h2
   exact FF _ (m.1, m.2.1, m.2.2.1, m.2.2.2.1 ++ [name], m.2.2.2.2) _ _ (hT1.of s2 (kF h2)) ⟨hm.names, hm.schema, hm.init, hm.fields, hm.first, hm.cmds, hm.cmd⟩ h
theorem KS {m : Mdl} {ts : List Tok} {p : Mdl × List Tok} (h : iM m ts = .ok p) : p.2 <:+ ts := by
 unfold iM at h
 cases h1 : cL (decide (16 ≤ (m.1.length : Int))) m.1 m.2.2.2.1 ts with
 | error e => rw [h1] at h; cases h
 | ok q1 =>
  obtain ⟨name, ts1⟩ := q1
  rw [h1] at h
  simp only at h
  have s1 : ts1 <:+ ts := Aq h1
  cases h2 : cS ts1 with
  | error e => rw [h2] at h; cases h
  | ok q2 =>
   obtain ⟨lo, ts2⟩ := q2
   rw [h2] at h
   simp only at h
   have s2 : ts2 <:+ ts1 := vW h2
   cases h3 : cS ts2 with
   | error e => rw [h3] at h; cases h
   | ok q3 =>
    obtain ⟨hi, ts3⟩ := q3
    rw [h3] at h
    simp only at h
    have s3 : ts3 <:+ ts2 := vW h3
    cases h4 : cS ts3 with
    | error e => rw [h4] at h; cases h
    | ok q4 =>
     obtain ⟨first, ts4⟩ := q4
     rw [h4] at h
     simp only at h
     have s4 : ts4 <:+ ts3 := vW h4
     cases h5 : aV [59] ts4 with
     | error e => rw [h5] at h; cases h
     | ok ts5 =>
      rw [h5] at h
      simp only at h
      have s5 := kF h5
      cases h6 : (!(jI lo hi) || decide (first < lo) || decide (hi < first))
      ·rw [h6] at h
       cases h
       exact (((s5.trans s4).trans s3).trans s2).trans s1
      ·rw [h6] at h; cases h
theorem H4 {m : Mdl} {ts : List Tok} {p : Mdl × List Tok} (hT : fC ts) (hm : Part m) (h : iM m ts = .ok p) : Part p.1 ∧ fC p.2 ∧ 1 ≤ p.1.1.length := by
 obtain ⟨sh, name, lo, hi, first, hp, hr, h1, h2, h16, _⟩ := Eo hT.2.1 h
 refine ⟨?_, hT.of sh (KS h), by rw [hp]; simp⟩
 rw [hp]
 have hs := hm.schema
 have hi' := hm.init
 refine ⟨by simp; omega, by simp [hs], by simp [hi'], fun f hf => ?_, fun i f v hf hv => ?_, hm.cmds, fun c hc => (hm.cmd c hc).le (by simp)⟩
 ·rcases List.mem_append.1 hf with hf | hf
  ·exact hm.fields f hf
  ·rw [List.mem_singleton.1 hf]; exact Hm hr
 ·simp only at hf hv
  rcases Nat.lt_or_ge i m.2.1.length with hlt | hge
  ·rw [List.getElem?_append_left hlt] at hf
   rw [List.getElem?_append_left (by omega)] at hv
   exact hm.first i f v hf hv
  ·rw [List.getElem?_append_right hge] at hf
   rw [List.getElem?_append_right (by omega)] at hv
   rw [show i - m.2.2.1.length = i - m.2.1.length by omega] at hv
   cases hd : i - m.2.1.length with
   | zero =>
    rw [hd] at hf hv
    simp only [List.getElem?_cons_zero, Option.some.injEq] at hf hv
    subst hf; subst hv
    exact ⟨h1, h2⟩
   | succ k => rw [hd] at hf; simp at hf
theorem DN : ∀ (f : Nat) (m : Mdl) (ts : List Tok) (p : Mdl), fC ts → Part m → iA f m ts = .ok p → Wf p := by
 intro f
 induction f with
 | zero => intro _ _ _ _ _ h; simp [iA] at h
 | succ f ih =>
  intro m ts p hT hm h
  obtain ⟨t, r, rfl⟩ := hT.2.1.ne
  have he := hT.2.1
  simp only [iA] at h
  cases c4 : (t.1 == 4)
  ·rw [c4] at h
   simp only [cond_false] at h
   have hTr : fC r := ⟨fun t' h' => hT.1 t' (List.mem_cons_of_mem _ h'), he.tail (by simpa using c4), by have := hT.2.2; simp only [List.length_cons] at this; omega⟩
   cases cv : isT 1 [118, 97, 114] t
   ·rw [cv] at h
    simp only [cond_false] at h
    cases cp : isT 1 [112, 114, 111, 99] t
    ·rw [cp] at h; cases h
    ·rw [cp] at h
     simp only [cond_true] at h
     cases h1 : kb m r with
     | error e => rw [h1] at h; cases h
     | ok q =>
      obtain ⟨m', r'⟩ := q
      rw [h1] at h
      simp only at h
      obtain ⟨g1, g2⟩ := GZ hTr hm h1
      exact ih m' r' p g2 g1 h
   ·rw [cv] at h
    simp only [cond_true] at h
    cases h1 : iM m r with
    | error e => rw [h1] at h; cases h
    | ok q =>
     obtain ⟨m', r'⟩ := q
     rw [h1] at h
     simp only at h
     obtain ⟨g1, g2, _⟩ := H4 hTr hm h1
     exact ih m' r' p g2 g1 h
  ·rw [c4] at h
   simp only [cond_true] at h
   cases hne : m.1.isEmpty
   ·rw [hne] at h
    cases h
    refine ⟨hm, ?_⟩
    cases hm1 : m.1 with
    | nil => rw [hm1] at hne; simp at hne
    | cons x r => simp
   ·rw [hne] at h; cases h
theorem Ip {text : Str} {m : Mdl} (h : wB text = .ok m) : Wf m := by
 unfold wB at h
 split at h
 ·cases h
 ·rename_i hl
  cases hx : Lx.lex text with
  | error e => rw [hx] at h; cases h
  | ok l =>
   rw [hx] at h
   have hg := CN hx
   exact DN _ _ _ _ ⟨hg.num, hg.ends, by have := hg.len; omega⟩ ⟨by simp, rfl, rfl, (fun f hf => by cases hf), (fun i f v hf => by simp at hf), by simp, (fun c hc => by cases hc)⟩ h
end Sy
end Go.Proofs.YtpnogcmollnjeaaGreatDoor
namespace Go.Proofs.YtpnogcmollnjeaaGreatDoor
namespace Ls
/-! formulas -/
noncomputable def GX (e : Ex) : Bool := ((ty e).2.1 == 0) && ((ty e).1 == 2)
structure Fm (vars : Int) (e : Ex) : Prop where
 may : eo vars e = true
 ok : (ty e).2.1 = 0
 ne : (ty e).1 ≠ 1
 sz : e.sz < 4611686018427387904
theorem vk {op a : Int} {i b t : Bool} (h : (qf op a i b t).1 = 3) : 15 ≤ op ∧ t = true := by
 unfold qf at h
 cases h1 : decide (op ≤ 6) && i <;> rw [h1] at h
 ·cases h2 : decide (6 < op) && decide (op ≤ 12) && i || op == 13 || op == 14 || decide (15 ≤ op) && decide (op ≤ 19) && b <;> rw [h2] at h
  ·cases h3 : decide (15 ≤ op) && t <;> rw [h3] at h
   ·cases h
   ·simpa using h3
  ·cases h
 ·cases h
theorem z8 {op a : Int} : ∀ {l : List Ex} {i b t : Bool}, (tyA op a l i b t).1 = 3 → 15 ≤ op ∧ t = true ∧ ∀ x ∈ l, (ty x).2.1 = 0 ∧ (ty x).1 ≠ 1
 | [], i, b, t, h => ⟨(vk h).1, (vk h).2, fun x hx => by cases hx⟩
 | y :: r, i, b, t, h => by
  simp only [tyA] at h
  cases h1 : (ty y).2.1 != 0
  ·rw [h1, cond_false] at h
   obtain ⟨h2, h3, h4⟩ := z8 h
   simp only [Bool.and_eq_true, bne_iff_ne, ne_eq] at h3
   refine ⟨h2, h3.1, fun x hx => ?_⟩
   rcases List.mem_cons.1 hx with rfl | hx
   ·exact ⟨by simpa using h1, h3.2⟩
   ·exact h4 x hx
  ·rw [h1, cond_true] at h; cases h
theorem Fm.three {vars : Int} {e : Ex} (h : Fm vars e) (hl : GX e = false) : (ty e).1 = 3 := by
 rcases Oa e h.ok with k | k | k
 ·exact absurd k h.ne
 ·unfold GX at hl; rw [h.ok, k] at hl; cases hl
 ·exact k
structure O0 (vars : Int) (e : Ex) : Prop where
 lo : 15 ≤ e.op
 hi : e.op ≤ 24
 len : (e.l.length : Int) = ik e.op
 fm : ∀ x ∈ e.l, Fm vars x
theorem Fm.parts {vars : Int} {e : Ex} (h : Fm vars e) (hl : GX e = false) : O0 vars e := by
 have h3 := h.three hl
 rw [Lt] at h3
 obtain ⟨a1, _, a2⟩ := z8 h3
 obtain ⟨b1, b2, _, _, b5⟩ := pU h.may
 exact ⟨a1, b1.2, b2, fun x hx => ⟨b5 x hx, (a2 x hx).1, (a2 x hx).2, by have := pS hx; have := h.sz; omega⟩⟩
/-! rows -/
noncomputable def row (n : Nat) (g : Nat → Bool) : List Bool := (List.range n).map g
noncomputable def rd (r : List Bool) (i : Nat) : Bool := r.getD i false
/-! the place behind a place -/
noncomputable def nx (n lp i : Nat) : Nat := if i + 1 = n then lp else i + 1
/-! until it stays -/
noncomputable def cr (f : List Bool → List Bool) : Nat → List Bool → List Bool
 | 0, on => on
 | K + 1, on => if on = f on then on else cr f K (f on)
noncomputable def Ov (n lp : Nat) (a b on : List Bool) : List Bool := row n fun i => rd b i || (rd a i && rd on (nx n lp i))
noncomputable def Pm (n lp : Nat) (a b on : List Bool) : List Bool := row n fun i => rd b i && (rd a i || rd on (nx n lp i))
noncomputable def G6 (n lp : Nat) (a b : List Bool) : List Bool := cr (Ov n lp a b) (n + 1) (row n fun _ => false)
noncomputable def Oi (n lp : Nat) (a b : List Bool) : List Bool := cr (Pm n lp a b) (n + 1) (row n fun _ => true)
section
variable {V : List (List Int)} {lp : Nat} (hn : V.length < 1000000) (hp : lp < V.length)
include hn
end
/-! what a formula says of each place -/
noncomputable def comb (n lp : Nat) (op : Int) (a b : List Bool) : List Bool :=
 if op = 15 then row n fun i => !rd a i
 else if op = 16 then row n fun i => rd a i && rd b i
 else if op = 17 then row n fun i => rd a i || rd b i
 else if op = 18 then row n fun i => !rd a i || rd b i
 else if op = 19 then row n fun i => rd a i == rd b i
 else if op = 20 then row n fun i => rd a (nx n lp i)
 else if op = 21 then G6 n lp (row n fun _ => true) a
 else if op = 22 then Oi n lp (row n fun _ => false) a
 else if op = 23 then G6 n lp a b
 else Oi n lp a b
mutual
noncomputable def sm (V : List (List Int)) (lp : Nat) : Ex → List Bool
 | .mk op n a l => bif GX (.mk op n a l) then V.map (fun v => ev v (.mk op n a l) == 1) else comb V.length lp op (sm0 V lp l) (sm1 V lp l)
noncomputable def sm0 (V : List (List Int)) (lp : Nat) : List Ex → List Bool
 | [] => []
 | x :: _ => sm V lp x
noncomputable def sm1 (V : List (List Int)) (lp : Nat) : List Ex → List Bool
 | [] => []
 | _ :: r => sm0 V lp r
end
end Ls
end Go.Proofs.YtpnogcmollnjeaaGreatDoor
namespace Go.Proofs.YtpnogcmollnjeaaGreatDoor
theorem EX (name : Str) : ed name = some (jP.contains name) := by
 unfold ed lz jP
 simp only [List.contains_cons, List.contains_nil, Bool.or_false]
 cases (name == [116, 114, 117, 101])
 case true => rfl
 cases (name == [102, 97, 108, 115, 101])
 case true => rfl
 cases (name == [88])
 case true => rfl
 cases (name == [70])
 case true => rfl
 cases (name == [71])
 case true => rfl
 cases (name == [85])
 case true => rfl
 cases (name == [82])
 case true => rfl
 cases (name == [118, 97, 114])
 case true => rfl
 cases (name == [112, 114, 111, 99]) <;> rfl
end Go.Proofs.YtpnogcmollnjeaaGreatDoor
namespace Go.Proofs.YtpnogcmollnjeaaGreatDoor
namespace Pa
open Job
noncomputable def ru (w : Bool) (x : Str) : Bool := match x with
 | [] => false
 | c :: _ => isLet c == w && jP.contains x == w
theorem BJ {t : Tok} (h : dy t) {x : Str} (hx : ru true x = true) : (sgn t && (x == t.2.1)) = ((t.1 == 1) && (t.2.1 == x)) := by
 obtain ⟨k, y, n, p⟩ := t
 simp only [dy] at h
 simp only [sgn, key]
 by_cases he : y = x
 ·subst he
  rcases h with ⟨rfl, c, s, hy, hc⟩ | rfl | ⟨rfl, h3⟩ | rfl
  ·subst hy
   simp only [ru, Bool.and_eq_true, beq_iff_eq] at hx
   rw [hx.2]; simp
  ·simp
  ·cases y with
   | nil => cases hx
   | cons c s =>
    simp only [ru, Bool.and_eq_true, beq_iff_eq] at hx
    rw [h3 c s rfl] at hx; cases hx.1
  ·simp
 ·have e1 : (x == y) = false := beq_eq_false_iff_ne.2 (fun e => he e.symm)
  have e2 : (y == x) = false := beq_eq_false_iff_ne.2 he
  rw [e1, e2]; simp
theorem OF {t : Tok} (h : dy t) {x : Str} (hx : ru false x = true) : (sgn t && (x == t.2.1)) = ((t.1 == 3) && (t.2.1 == x)) := by
 obtain ⟨k, y, n, p⟩ := t
 simp only [dy] at h
 simp only [sgn, key]
 by_cases he : y = x
 ·subst he
  rcases h with ⟨rfl, c, s, hy, hc⟩ | rfl | ⟨rfl, h3⟩ | rfl
  ·subst hy
   simp only [ru, Bool.and_eq_true, beq_iff_eq] at hx
   rw [hx.1] at hc; cases hc
  ·simp
  ·simp
  ·simp
 ·have e1 : (x == y) = false := beq_eq_false_iff_ne.2 (fun e => he e.symm)
  have e2 : (y == x) = false := beq_eq_false_iff_ne.2 he
  rw [e1, e2]; simp
noncomputable def ez (t : Tok) : Bool := (t.1 != 2) && (t.1 != 4)
theorem hit {t : Tok} (h : dy t) {x : Str} {w : Bool} (hx : ru w x = true) : (sgn t && (x == t.2.1)) = (ez t && (t.2.1 == x)) := by
 by_cases he : t.2.1 = x
 ·rcases h with ⟨h1, c, s, hy, hc⟩ | h2 | ⟨h3, h4⟩ | h4
  ·rw [he] at hy
   have hk : jP.contains x = true := by
    subst hy
    simp only [ru, Bool.and_eq_true, beq_iff_eq] at hx
    rw [hx.2, ← hx.1]; exact hc
   have hm : x ∈ jP := by simpa using hk
   simp [sgn, key, ez, h1, he, hm]
  ·simp [sgn, ez, h2]
  ·simp [sgn, ez, h3, he]
  ·simp [sgn, ez, h4]
 ·have e1 : (x == t.2.1) = false := beq_eq_false_iff_ne.2 (fun e => he e.symm)
  have e2 : (t.2.1 == x) = false := beq_eq_false_iff_ne.2 he
  rw [e1, e2]; simp
theorem ir (t : Tok) : fnd [] t = none := by unfold fnd; cases sgn t <;> rfl
theorem ga (o : Int) (l : List Int) (t : Tok) : fnd (o :: l) t = bif (sgn t && (aU o == t.2.1)) then some o else fnd l t := by
 unfold fnd
 cases sgn t
 ·rfl
 ·simp only [cond_true, List.find?_cons, Bool.true_and]
  cases aU o == t.2.1 <;> rfl
noncomputable def opt (o : Option Int) : Int := o.getD 0
theorem Pn {t : Tok} (h : dy t) : bk t 1 = some (opt (bG 1 t)) := by
 have e := hit h (x := aU 19) (w := false) rfl
 simp only [bG, ops, ga, ir, e]
 show (bif ez t then (bif (t.2.1 == aU 19) then some 19 else some 0) else some 0) = _
 cases ez t <;> cases (t.2.1 == aU 19) <;> rfl
theorem Pr {t : Tok} (h : dy t) : bk t 2 = some (opt (bG 2 t)) := by
 have e := hit h (x := aU 18) (w := false) rfl
 simp only [bG, ops, ga, ir, e]
 show (bif ez t then (bif (t.2.1 == aU 18) then some 18 else some 0) else some 0) = _
 cases ez t <;> cases (t.2.1 == aU 18) <;> rfl
theorem Po {t : Tok} (h : dy t) : bk t 3 = some (opt (bG 3 t)) := by
 have e := hit h (x := aU 17) (w := false) rfl
 simp only [bG, ops, ga, ir, e]
 show (bif ez t then (bif (t.2.1 == aU 17) then some 17 else some 0) else some 0) = _
 cases ez t <;> cases (t.2.1 == aU 17) <;> rfl
theorem PA {t : Tok} (h : dy t) : bk t 4 = some (opt (bG 4 t)) := by
 have e := hit h (x := aU 16) (w := false) rfl
 simp only [bG, ops, ga, ir, e]
 show (bif ez t then (bif (t.2.1 == aU 16) then some 16 else some 0) else some 0) = _
 cases ez t <;> cases (t.2.1 == aU 16) <;> rfl
theorem Pc {t : Tok} (h : dy t) : bk t 5 = some (opt (bG 5 t)) := by
 have e := hit h (x := aU 23) (w := true) rfl
 have e2 := hit h (x := aU 24) (w := true) rfl
 simp only [bG, ops, ga, ir, e, e2]
 show (bif ez t then (bif (t.2.1 == aU 23) then some 23 else (bif (t.2.1 == aU 24) then some 24 else some 0)) else some 0) = _
 cases ez t <;> cases (t.2.1 == aU 23) <;> cases (t.2.1 == aU 24) <;> rfl
theorem Pw {t : Tok} (h : dy t) : bk t 8 = some (opt (bG 8 t)) := by
 have e := hit h (x := aU 3) (w := false) rfl
 have e2 := hit h (x := aU 4) (w := false) rfl
 simp only [bG, ops, ga, ir, e, e2]
 show (bif ez t then (bif (t.2.1 == aU 3) then some 3 else (bif (t.2.1 == aU 4) then some 4 else some 0)) else some 0) = _
 cases ez t <;> cases (t.2.1 == aU 3) <;> cases (t.2.1 == aU 4) <;> rfl
theorem Pu {t : Tok} (h : dy t) : bk t 9 = some (opt (bG 9 t)) := by
 have e := hit h (x := aU 5) (w := false) rfl
 simp only [bG, ops, ga, ir, e]
 show (bif ez t then (bif (t.2.1 == aU 5) then some 5 else some 0) else some 0) = _
 cases ez t <;> cases (t.2.1 == aU 5) <;> rfl
theorem Pq {t : Tok} (h : dy t) : bk t 7 = some (opt (bG 7 t)) := by
 have e1 := hit h (x := aU 7) (w := false) rfl
 have e2 := hit h (x := aU 8) (w := false) rfl
 have e3 := hit h (x := aU 9) (w := false) rfl
 have e4 := hit h (x := aU 10) (w := false) rfl
 have e5 := hit h (x := aU 11) (w := false) rfl
 have e6 := hit h (x := aU 12) (w := false) rfl
 simp only [bG, ops, ga, ir, e1, e2, e3, e4, e5, e6]
 obtain ⟨m, hm⟩ : ∃ m, au = m + 7 := ⟨18446744073709551609, rfl⟩
 unfold bk
 rw [hm]
 clear hm
 have hq : (ab (t.1 != 2) fun b5 => ab (t.1 != 4) fun b7 => ab (b5 && b7) fun b9 => bif b9 then an (aD t) (m + 7) 0 else some 0) = (bif ez t then an (aD t) (m + 7) 0 else some 0) := rfl
 refine Eq.trans (b := bif ez t then an (aD t) (m + 7) 0 else some 0) rfl ?_
 clear hq
 have s0 : an (aD t) (m + 7) 0 = bif (t.2.1 == aU 7) then some 7 else an (aD t) (m + 6) 1 := rfl
 have s1 : an (aD t) (m + 6) 1 = bif (t.2.1 == aU 8) then some 8 else an (aD t) (m + 5) 2 := rfl
 have s2 : an (aD t) (m + 5) 2 = bif (t.2.1 == aU 9) then some 9 else an (aD t) (m + 4) 3 := rfl
 have s3 : an (aD t) (m + 4) 3 = bif (t.2.1 == aU 10) then some 10 else an (aD t) (m + 3) 4 := rfl
 have s4 : an (aD t) (m + 3) 4 = bif (t.2.1 == aU 11) then some 11 else an (aD t) (m + 2) 5 := rfl
 have s5 : an (aD t) (m + 2) 5 = bif (t.2.1 == aU 12) then some 12 else an (aD t) (m + 1) 6 := rfl
 have s6 : an (aD t) (m + 1) 6 = some 0 := rfl
 rw [s0, s1, s2, s3, s4, s5, s6]
 cases ez t
 ·rfl
 cases (t.2.1 == aU 7)
 case true => rfl
 cases (t.2.1 == aU 8)
 case true => rfl
 cases (t.2.1 == aU 9)
 case true => rfl
 cases (t.2.1 == aU 10)
 case true => rfl
 cases (t.2.1 == aU 11)
 case true => rfl
 cases (t.2.1 == aU 12) <;> rfl
theorem Lh {t : Tok} (h : dy t) {s : Nat} (h1 : 1 ≤ s) (h9 : s ≤ 9) (h6 : s ≠ 6) : bk t (s : Int) = some (opt (bG s t)) := by
 have : s = 1 ∨ s = 2 ∨ s = 3 ∨ s = 4 ∨ s = 5 ∨ s = 7 ∨ s = 8 ∨ s = 9 := by omega
 rcases this with rfl | rfl | rfl | rfl | rfl | rfl | rfl | rfl
 ·exact Pn h
 ·exact Pr h
 ·exact Po h
 ·exact PA h
 ·exact Pc h
 ·exact Pq h
 ·exact Pw h
 ·exact Pu h
theorem vZ {s : Nat} {t : Tok} {k : Int} (h : bG s t = some k) : (k == 0) = false := by
 have key : ∀ l : List Int, (l.all fun o => o != 0) = true → fnd l t = some k → (k == 0) = false := fun l hl h => by
  unfold fnd at h
  cases hs : sgn t
  ·rw [hs] at h; cases h
  ·rw [hs] at h
   have := List.mem_of_find?_eq_some h
   have := List.all_eq_true.1 hl k this
   simpa using this
 refine key (ops s) ?_ h
 match s with
 | 0 => rfl
 | 1 => rfl
 | 2 => rfl
 | 3 => rfl
 | 4 => rfl
 | 5 => rfl
 | 6 => rfl
 | 7 => rfl
 | 8 => rfl
 | 9 => rfl
 | 10 => rfl
 | 11 => rfl
 | n + 12 => rfl
/-! what the parser hands back -/
abbrev R4 := Ex × Int × Int × Int
abbrev LF := (Int × Int × List Tok × Int × List Str × Int × Int) → Option R4
noncomputable def RR (l : List Tok) (r : Out) (m : Option R4) : Prop := match r with
 | .ok (x, ts) => ∃ a : Nat, l.drop a = ts ∧ m = some (x, (a : Int), 0, 0)
 | .error (b, p) => ∃ x a, m = some (x, a, b, p)
theorem qX {names : List Str} {j : Job} {d : Int} {ts : List Tok} {b p : Int} (h : P names j d ts (.error (b, p))) : (b != 0) = true := by
 rcases h.err _ rfl with h | h | h <;> (simp only at h; subst h; rfl)
theorem uP {l : List Tok} {a : Nat} {t : Tok} (h : idx l (a : Int) = some t) (b : Int) (names : List Str) (p : Int) : aL b l (a : Int) names 0 p = some (.mk 0 0 0 [], b, t.2.2.2) := by
 unfold aL
 rw [h]; rfl
noncomputable def eC (names : List Str) (v : Str) (i : Nat) : Option Nat := ((names.drop i).findIdx? (fun x => v == x)).map (· + i)
theorem vo (names : List Str) (v : Str) : eC names v 0 = at_ names v := by
 unfold eC at_
 simp
theorem K7 {l : List Tok} {a : Nat} {t : Tok} {names : List Str} (hn : names.length < 4611686018427387904) (ha : a < 4611686018427387904) (ht : idx l (a : Int) = some t) :
  ∀ (m i M : Nat), names.length - i ≤ m → i ≤ names.length → m < M →
   an (bY l (a : Int) names 0 0 t) M (i : Int) =
    match eC names t.2.1 i with
    | some j => some (.mk 2 (j : Int) t.2.2.2 [], ((a + 1 : Nat) : Int), 0, 0)
    | none => some (.mk 0 0 0 [], (a : Int), 3, t.2.2.2) := by
 intro m
 induction m with
 | zero =>
  intro i M h1 h2 h3
  obtain ⟨M, rfl⟩ : ∃ k, M = k + 1 := ⟨M - 1, by omega⟩
  have hi : i = names.length := by omega
  subst hi
  rw [ao]
  have e : eC names t.2.1 names.length = none := by unfold eC; simp
  rw [e]
  simp only [bY, decide_eq_false (show ¬ ((names.length : Int) < (List.length names : Int)) by omega), cond_false, uP ht, aj]
 | succ m ih =>
  intro i M h1 h2 h3
  obtain ⟨M, rfl⟩ : ∃ k, M = k + 1 := ⟨M - 1, by omega⟩
  rw [ao]
  by_cases hi : i < names.length
  ·have hd : names.drop i = names[i] :: names.drop (i + 1) := List.drop_eq_getElem_cons hi
   have hx : idx names (i : Int) = some names[i] := by simp [idx, List.getElem?_eq_getElem hi]
   simp only [bY, decide_eq_true (show ((i : Nat) : Int) < (List.length names : Int) by omega), cond_true, hx, aj, bM ha, bM (show i < 4611686018427387904 by omega)]
   have e : eC names t.2.1 i = bif (names[i] == t.2.1) then some i else eC names t.2.1 (i + 1) := by
    unfold eC
    rw [hd, List.findIdx?_cons]
    have : (t.2.1 == names[i]) = (names[i] == t.2.1) := by
     by_cases h : t.2.1 = names[i]
     ·rw [h]
     ·rw [beq_eq_false_iff_ne.2 h, beq_eq_false_iff_ne.2 (fun e => h e.symm)]
    rw [this]
    cases (names[i] == t.2.1)
    ·simp only [cond_false, Bool.false_eq_true, if_false, Option.map_map]
     congr 1
     funext x
     simp only [Function.comp]; omega
    ·simp
   rw [e]
   cases (names[i] == t.2.1)
   ·simp only [cond_false]
    exact ih (i + 1) M (by omega) (by omega) (by omega)
   ·rfl
  ·have hi : i = names.length := by omega
   subst hi
   have e : eC names t.2.1 names.length = none := by unfold eC; simp
   rw [e]
   simp only [bY, decide_eq_false (show ¬ ((names.length : Int) < (List.length names : Int)) by omega), cond_false, uP ht, aj]
noncomputable def SR (names : List Str) (l : List Tok) (k : LF) (s : Nat) (d : Int) (a : Nat) : Prop := ∃ r, P names (line s) d (l.drop a) r ∧ RR l r (k ((s : Int), d, l, (a : Int), names, 0, 0))
theorem Ob {names : List Str} (hn : names.length < 4611686018427387904) {l : List Tok} (hl : l.length < 4611686018427387904) (htok : ∀ t ∈ l, dy t) {k : LF} {d : Int} {a : Nat} (he : Ends (l.drop a))
  (hk : Ends (l.drop (a + 1)) → SR names l k 1 d (a + 1)) : ∃ r, P names (line 11) d (l.drop a) r ∧ RR l r (bV k d l (a : Int) names 0 0) := by
 obtain ⟨t, ts, hts⟩ := he.ne
 obtain ⟨hx, hd1, hlt, hmem⟩ := jd hts
 have hok := htok t hmem
 have ha : a < 4611686018427387904 := by omega
 have eT := BJ hok (x := aU 13) rfl
 have eF := BJ hok (x := aU 14) rfl
 have h11 : bG 11 t = bif ((t.1 == 1) && (t.2.1 == aU 13)) then some 13 else bif ((t.1 == 1) && (t.2.1 == aU 14)) then some 14 else none := by
  simp only [bG, ops, ga, ir, eT, eF]
 rw [hts]
 unfold bV
 simp only [hx, aj, bu, EX, bM ha]
 cases h2 : (t.1 == 2)
 case true =>
  have h1 : (t.1 == 1) = false := by have := beq_iff_eq.1 h2; rw [this]; rfl
  exact ⟨_, .oNum rfl (by rw [h11, h1]; rfl) h2, a + 1, hd1, rfl⟩
 simp only [cond_false]
 cases hT : ((t.1 == 1) && (t.2.1 == aU 13))
 case true =>
  rw [show ((t.1 == 1) && (t.2.1 == [116, 114, 117, 101])) = true from hT]
  exact ⟨_, .oWord rfl (by rw [h11, hT]; rfl), a + 1, hd1, rfl⟩
 rw [show ((t.1 == 1) && (t.2.1 == [116, 114, 117, 101])) = false from hT]
 simp only [cond_false]
 cases hF : ((t.1 == 1) && (t.2.1 == aU 14))
 case true =>
  rw [show ((t.1 == 1) && (t.2.1 == [102, 97, 108, 115, 101])) = true from hF]
  exact ⟨_, .oWord rfl (by rw [h11, hT, hF]; rfl), a + 1, hd1, rfl⟩
 rw [show ((t.1 == 1) && (t.2.1 == [102, 97, 108, 115, 101])) = false from hF]
 simp only [cond_false]
 have hno : bG 11 t = none := by rw [h11, hT, hF]; rfl
 cases hN : ((t.1 == 1) && !(jP.contains t.2.1))
 case true =>
  have hname : nV t = true := hN
  simp only [cond_true]
  have := K7 hn ha hx names.length 0 au (by omega) (by omega) (by show names.length < 2 ^ 64; omega)
  rw [show ((0 : Nat) : Int) = 0 from rfl, vo] at this
  rw [this]
  cases hat : at_ names t.2.1 with
  | some j => exact ⟨_, .oVar rfl hno h2 hname hat, a + 1, hd1, rfl⟩
  | none => exact ⟨_, .oName rfl hno h2 hname hat, _, _, rfl⟩
 have hname : nV t = false := hN
 simp only [cond_false]
 cases hO : (((t.1 != 3) || (t.2.1 != [40])) : Bool)
 case true =>
  have hop : open_ t = false := by
   unfold open_
   simp only [Bool.or_eq_true, bne_iff_ne] at hO
   rcases hO with h | h
   ·rw [beq_eq_false_iff_ne.2 h]; rfl
   ·rw [beq_eq_false_iff_ne.2 h, Bool.and_false]
  simp only [cond_true, uP hx, aj]
  exact ⟨_, .oForm rfl hno h2 hname hop, _, _, rfl⟩
 have h3 : t.1 = 3 ∧ t.2.1 = [40] := by
  simp only [Bool.or_eq_false_iff, bne_eq_false_iff_eq] at hO
  exact hO
 have hop : open_ t = true := by unfold open_; rw [h3.1, h3.2]; rfl
 have he1 : Ends ts := by rw [hts] at he; exact he.tail (by rw [h3.1]; decide)
 obtain ⟨r, hr, hm⟩ := hk (by rw [hd1]; exact he1)
 rw [hd1] at hr
 simp only [cond_false]
 match r, hr, hm with
 | .error (b, p), hr, ⟨x, a', hm⟩ =>
  have hb := qX hr
  rw [show ((1 : Nat) : Int) = 1 from rfl] at hm
  rw [hm, aj]
  simp only [hb, cond_true]
  exact ⟨_, .oErr rfl hno h2 hname hop hr, _, _, rfl⟩
 | .ok (x, ts'), hr, ⟨a', ha', hm⟩ =>
  rw [show ((1 : Nat) : Int) = 1 from rfl] at hm
  obtain ⟨he', hsh⟩ := hr.ends he1 _ rfl
  obtain ⟨c, ts2, hc⟩ := he'.ne
  simp only at hc
  subst hc
  obtain ⟨hxc, hdc, hltc, hmemc⟩ := jd ha'
  rw [hm, aj]
  simp only [bne_self_eq_false, cond_false, hxc, aj, bM (show a' < 4611686018427387904 by omega)]
  by_cases hc3 : c.1 = 3
  ·have e3 : (c.1 != 3) = false := by rw [hc3]; rfl
   simp only [e3, Bool.not_false, dT, aj, Bool.false_or]
   cases hcl : (c.2.1 != [41])
   ·have : close_ c = true := by
     unfold close_
     rw [hc3, bne_eq_false_iff_eq.1 hcl]; rfl
    exact ⟨_, .oOpen rfl hno h2 hname hop hr this, a' + 1, hdc, rfl⟩
   ·have : close_ c = false := by
     unfold close_
     rw [beq_eq_false_iff_ne.2 (bne_iff_ne.1 hcl), Bool.and_false]
    simp only [cond_true, uP hxc, aj]
    exact ⟨_, .oClose rfl hno h2 hname hop hr this, _, _, rfl⟩
  ·have e3 : (c.1 != 3) = true := bne_iff_ne.2 hc3
   have : close_ c = false := by
    unfold close_
    rw [beq_eq_false_iff_ne.2 hc3]; rfl
   simp only [e3, Bool.not_true, kC, Bool.true_or, cond_true, uP hxc, aj]
   exact ⟨_, .oClose rfl hno h2 hname hop hr this, _, _, rfl⟩
end Pa
end Go.Proofs.YtpnogcmollnjeaaGreatDoor
namespace Go.Proofs.YtpnogcmollnjeaaGreatDoor
namespace Pa
open Job
theorem x4 (e : Ex) : Ex.mk e.op e.n e.at_ e.l = e := by cases e; rfl
theorem Fi (m : Option R4) : (m.bind fun r => some (r.1, r.2.1, r.2.2.1, r.2.2.2)) = m := by cases m <;> rfl
theorem RR.one {l : List Tok} {r : Out} {m : Option R4} (h : RR l r m) (ko pl : Int) : RR l (NJ ko pl r) (m.bind fun r => some (.mk ko 0 pl [r.1], r.2.1, r.2.2.1, r.2.2.2)) := by
 match r, h with
 | .ok (x, ts), ⟨a, h1, h2⟩ => subst h2; exact ⟨a, h1, rfl⟩
 | .error (b, p), ⟨x, a, h2⟩ => subst h2; exact ⟨_, _, rfl⟩
theorem RR.two {l : List Tok} {r : Out} {m : Option R4} (h : RR l r m) (ko pl : Int) (y : Ex) : RR l (NI ko pl y r) (m.bind fun r => some (.mk ko 0 pl [y, r.1], r.2.1, r.2.2.1, r.2.2.2)) := by
 match r, h with
 | .ok (x, ts), ⟨a, h1, h2⟩ => subst h2; exact ⟨a, h1, rfl⟩
 | .error (b, p), ⟨x, a, h2⟩ => subst h2; exact ⟨_, _, rfl⟩
theorem Ik {s : Nat} (h1 : 1 ≤ s) (h : s ≤ 10) : fH (s : Int) = some (jS s) := by
 have : s = 1 ∨ s = 2 ∨ s = 3 ∨ s = 4 ∨ s = 5 ∨ s = 6 ∨ s = 7 ∨ s = 8 ∨ s = 9 ∨ s = 10 := by omega
 rcases this with rfl | rfl | rfl | rfl | rfl | rfl | rfl | rfl | rfl | rfl <;> rfl
theorem Pj {k : LF} {s : Nat} (h1 : 1 ≤ s) (h : s ≤ 10) {d : Int} (h0 : 0 ≤ d) (h3 : d ≤ 320) (l : List Tok) (a : Int) (names : List Str) :
  bF k (s : Int) d l a names 0 0 = ew k (s : Int) l a names 0 0 (jS s) (dn s d) := by
 unfold bF
 simp only [bne_self_eq_false, cond_false, Ik h1 h, aj]
 have hw : IntKind.i64.wrap (d + 1) = d + 1 := w64 (by omega)
 unfold dn
 rw [hw]
 cases jS s <;> rfl
theorem L0 (s : Nat) (d : Int) : (jS s && decide (320 < dn s d)) = iK s d := by
 unfold iK dn
 cases jS s
 ·rfl
 ·simp only [cond_true, Bool.true_and]
  by_cases h : 320 ≤ d
  ·rw [decide_eq_true h, decide_eq_true (by omega)]
  ·rw [decide_eq_false h, decide_eq_false (by omega)]
theorem OK {s : Nat} {d : Int} (h0 : 0 ≤ d) (h3 : d ≤ 320) (hd : iK s d = false) : 0 ≤ dn s d ∧ dn s d ≤ 320 := by
 unfold iK at hd
 unfold dn
 cases hc : jS s
 ·simpa using ⟨h0, h3⟩
 ·rw [hc] at hd
  simp only [Bool.true_and, decide_eq_false_iff_not] at hd
  simp only [cond_true]; omega
section
variable {names : List Str} {l : List Tok} {k : LF} {N : Nat}
variable (hn : names.length < 4611686018427387904) (hl : l.length < 4611686018427387904) (htok : ∀ t ∈ l, dy t)
variable (hk : ∀ (s : Nat) (d : Int) (a : Nat), 1 ≤ s → s ≤ 10 → 0 ≤ d → d ≤ 320 → Ends (l.drop a) → 12 * (l.drop a).length + (11 - s) < N → SR names l k s d a)
include hn hl htok hk
theorem pre6 {d : Int} {a : Nat} {t : Tok} {ts : List Tok} (hts : l.drop a = t :: ts) (he : Ends (t :: ts)) (h0 : 0 ≤ dn 6 d) (h3 : dn 6 d ≤ 320) (hd : iK 6 d = false) (hN : 12 * (l.drop a).length + 5 < N + 1) :
  ∃ r, P names (line 6) d (t :: ts) r ∧ RR l r (bB k l (a : Int) names 0 0 (dn 6 d) t (bif ((t.1 == 3) && (t.2.1 == [33])) then 15 else 0)) := by
 have _ := hn
 obtain ⟨hx, hd1, hlt, hmem⟩ := jd hts
 have hok := htok t hmem
 have e15 := OF hok (x := aU 15) rfl
 have e20 := BJ hok (x := aU 20) rfl
 have e21 := BJ hok (x := aU 21) rfl
 have e22 := BJ hok (x := aU 22) rfl
 have hop : bG 6 t = bif ((t.1 == 3) && (t.2.1 == aU 15)) then some 15 else bif ((t.1 == 1) && (t.2.1 == aU 20)) then some 20 else bif ((t.1 == 1) && (t.2.1 == aU 21)) then some 21 else bif ((t.1 == 1) && (t.2.1 == aU 22)) then some 22 else none := by
  simp only [bG, ops, ga, ir, e15, e20, e21, e22]
 have hK : bB k l (a : Int) names 0 0 (dn 6 d) t (bif ((t.1 == 3) && (t.2.1 == [33])) then 15 else 0) = er k l (a : Int) names 0 0 (dn 6 d) t (opt (bG 6 t)) := by
  rw [hop]
  unfold bB ia ic
  simp only [bu]
  rw [show aU 15 = [33] from rfl, show aU 20 = [88] from rfl, show aU 21 = [70] from rfl, show aU 22 = [71] from rfl]
  by_cases q1 : t.1 = 1
  ·rw [q1]
   by_cases q : t.2.1 = [88]
   ·rw [q]; rfl
   ·by_cases q2 : t.2.1 = [70]
    ·rw [q2]; rfl
    ·by_cases q3 : t.2.1 = [71]
     ·rw [q3]; rfl
     ·rw [beq_eq_false_iff_ne.2 q, beq_eq_false_iff_ne.2 q2, beq_eq_false_iff_ne.2 q3]; rfl
  ·rw [beq_eq_false_iff_ne.2 q1]
   cases ((t.1 == 3) && (t.2.1 == [33])) <;> rfl
 rw [hK]
 unfold er
 have hlen : (l.drop a).length = ts.length + 1 := by rw [hts]; rfl
 cases ho : bG 6 t with
 | none =>
  obtain ⟨r, hr, hm⟩ := hk 7 (dn 6 d) a (by omega) (by omega) h0 h3 (by rw [hts]; exact he) (by omega)
  rw [hts] at hr
  refine ⟨r, .other rfl hd ho hr, ?_⟩
  show RR l r ((k (7, dn 6 d, l, (a : Int), names, 0, 0)).bind fun r45 => some (r45.1, r45.2.1, r45.2.2.1, r45.2.2.2))
  rw [Fi]
  exact hm
 | some ko =>
  have hke := vZ ho
  have he1 : Ends ts := he.tail (qe ho)
  obtain ⟨r, hr, hm⟩ := hk 6 (dn 6 d) (a + 1) (by omega) (by omega) h0 h3 (by rw [hd1]; exact he1) (by rw [hd1]; omega)
  rw [hd1] at hr
  refine ⟨_, .pre rfl hd ho hr, ?_⟩
  simp only [opt, Option.getD_some, hke, cond_false, bM (show a < 4611686018427387904 by omega)]
  exact hm.one ko t.2.2.2
theorem Pb {d : Int} {a : Nat} {t : Tok} {ts : List Tok} (hts : l.drop a = t :: ts) (he : Ends (t :: ts)) (h0 : 0 ≤ dn 10 d) (h3 : dn 10 d ≤ 320) (hd : iK 10 d = false) (hN : 12 * (l.drop a).length + 1 < N + 1) :
  ∃ r, P names (line 10) d (t :: ts) r ∧ RR l r (bif ((t.1 != 3) || (t.2.1 != [45])) then ((bV k (dn 10 d) l (a : Int) names 0 0).bind fun r99 => some (r99.1, r99.2.1, r99.2.2.1, r99.2.2.2))
   else ((k (10, dn 10 d, l, (IntKind.i64.wrap ((a : Int) + 1)), names, 0, 0)).bind fun r106 => some ((Ex.mk 6 0 t.2.2.2 ([r106.1] : List Ex)), r106.2.1, r106.2.2.1, r106.2.2.2))) := by
 obtain ⟨hx, hd1, hlt, hmem⟩ := jd hts
 have hok := htok t hmem
 have e6 := OF hok (x := aU 6) rfl
 have hop : bG 10 t = bif ((t.1 == 3) && (t.2.1 == aU 6)) then some 6 else none := by
  simp only [bG, ops, ga, ir, e6]
 have hlen : (l.drop a).length = ts.length + 1 := by rw [hts]; rfl
 have hb : ((t.1 != 3) || (t.2.1 != [45])) = !((t.1 == 3) && (t.2.1 == aU 6)) := by
  show ((!(t.1 == 3)) || (!(t.2.1 == [45]))) = _
  rw [show aU 6 = [45] from rfl, Bool.not_and]
 rw [hb]
 cases ho : ((t.1 == 3) && (t.2.1 == aU 6))
 ·rw [ho] at hop
  simp only [Bool.not_false, cond_true, Fi]
  obtain ⟨r, hr, hm⟩ := Ob hn hl htok (k := k) (d := dn 10 d) (a := a) (by rw [hts]; exact he) (fun he1 => hk 1 (dn 10 d) (a + 1) (by omega) (by omega) h0 h3 he1 (by rw [hd1]; omega))
  rw [hts] at hr
  exact ⟨r, .other rfl hd hop hr, hm⟩
 ·rw [ho] at hop
  have hop : bG 10 t = some 6 := hop
  have he1 : Ends ts := he.tail (qe hop)
  simp only [Bool.not_true, cond_false, bM (show a < 4611686018427387904 by omega)]
  obtain ⟨r, hr, hm⟩ := hk 10 (dn 10 d) (a + 1) (by omega) (by omega) h0 h3 (by rw [hd1]; exact he1) (by rw [hd1]; omega)
  rw [hd1] at hr
  exact ⟨_, .pre rfl hd hop hr, hm.one 6 t.2.2.2⟩
theorem Hj {s : Nat} (h1 : 1 ≤ s) (h9 : s ≤ 9) (h6 : s ≠ 6) (_hkd : kd s = 2) {D : Int} (h0 : 0 ≤ D) (h3 : D ≤ 320) (hq : ((((s : Int) == 1) || ((s : Int) == 2)) || ((s : Int) == 5)) = false) (hq7 : ((s : Int) == 7) = false) :
  ∀ (n a M : Nat) (x : Ex), (l.drop a).length ≤ n → n < M → Ends (l.drop a) → 12 * (l.drop a).length ≤ N →
   ∃ r, P names (loop s x) D (l.drop a) r ∧ RR l r (an (bC k (s : Int) l names D) M ((a : Int), 0, 0, x.op, x.n, x.at_, x.l)) := by
 have _ := hn
 intro n
 induction n with
 | zero =>
  intro a M x h1 h2 he _
  obtain ⟨t, ts, hts⟩ := he.ne
  rw [hts] at h1; simp at h1
 | succ n ih =>
  intro a M x hln hM he hN
  obtain ⟨M, rfl⟩ : ∃ m, M = m + 1 := ⟨M - 1, by omega⟩
  obtain ⟨t, ts, hts⟩ := he.ne
  obtain ⟨hx, hd1, hlt, hmem⟩ := jd hts
  have hok := htok t hmem
  have hlen : (l.drop a).length = ts.length + 1 := by rw [hts]; rfl
  rw [ao]
  simp only [bC, beq_self_eq_true, cond_true, hx, aj, Lh hok h1 h9 h6, bu, hq, cond_false, hq7]
  cases ho : bG s t with
  | none =>
   refine ⟨.ok (x, l.drop a), by rw [hts]; exact .lpEnd ho, a, rfl, ?_⟩
   simp only [opt, Option.getD_none, beq_self_eq_true, cond_true, x4]
  | some ko =>
   have hke := vZ ho
   have he1 : Ends ts := by rw [hts] at he; exact he.tail (qe ho)
   have hs1 : IntKind.i64.wrap ((s : Int) + 1) = ((s + 1 : Nat) : Int) := by rw [w64 (by omega)]; omega
   simp only [opt, Option.getD_some, hke, cond_false, bM (show a < 4611686018427387904 by omega), hs1]
   obtain ⟨r, hr, hm⟩ := hk (s + 1) D (a + 1) (by omega) (by omega) h0 h3 (by rw [hd1]; exact he1) (by rw [hd1]; omega)
   rw [hd1] at hr
   match r, hr, hm with
   | .error (b, p), hr, ⟨y, a', hm⟩ =>
    have hb := qX hr
    have hb0 : (b == 0) = false := by simpa using hb
    rw [hm, aj]
    have hpos : 0 < M := by
     have := hN
     have : 1 ≤ (l.drop a).length := by omega
     omega
    obtain ⟨M, rfl⟩ : ∃ m, M = m + 1 := ⟨M - 1, by omega⟩
    rw [ao]
    simp only [bC, hb0, cond_false]
    rw [hts]
    exact ⟨_, .lpErr ho hr, _, _, rfl⟩
   | .ok (y, ts'), hr, ⟨a', ha', hm⟩ =>
    obtain ⟨he', hsh⟩ := hr.ends he1 _ rfl
    simp only [shorter] at hsh he'
    rw [hm, aj]
    obtain ⟨r2, hr2, hm2⟩ := ih a' M (.mk ko 0 t.2.2.2 [x, y]) (by rw [ha']; omega) (by omega) (by rw [ha']; exact he') (by rw [ha']; omega)
    rw [ha'] at hr2
    refine ⟨r2, by rw [hts]; exact .lpGo ho hr hr2, ?_⟩
    simp only [x4]
    exact hm2
theorem HZ {s : Nat} (h1 : 1 ≤ s) (h10 : s ≤ 10) {d : Int} (h0 : 0 ≤ d) (h3 : d ≤ 320) {a : Nat} (he : Ends (l.drop a)) (hN : 12 * (l.drop a).length + (11 - s) < N + 1) :
  ∃ r, P names (line s) d (l.drop a) r ∧ RR l r (bF k (s : Int) d l (a : Int) names 0 0) := by
 obtain ⟨t, ts, hts⟩ := he.ne
 obtain ⟨hx, hd1, hlt, hmem⟩ := jd hts
 rw [Pj h1 h10 h0 h3]
 unfold ew
 simp only [bu, L0]
 cases hd : iK s d
 case true =>
  rw [hts]
  simp only [cond_true, uP hx, aj]
  exact ⟨_, .big hd, _, _, rfl⟩
 obtain ⟨hD0, hD3⟩ := OK h0 h3 hd
 simp only [cond_false, hx, aj]
 rw [hts] at he
 by_cases h6 : s = 6
 ·subst h6
  have := pre6 hn hl htok hk hts he hD0 hD3 hd (by omega)
  rw [hts]
  obtain ⟨r, hr, hm⟩ := this
  refine ⟨r, hr, ?_⟩
  show RR l r (bif ((t.1 == 3) && (t.2.1 == [33])) then bB k l (a : Int) names 0 0 (dn 6 d) t 15 else bB k l (a : Int) names 0 0 (dn 6 d) t 0)
  cases hb : ((t.1 == 3) && (t.2.1 == [33])) <;> rw [hb] at hm <;> exact hm
 by_cases hs10 : s = 10
 ·subst hs10
  obtain ⟨r, hr, hm⟩ := Pb hn hl htok hk hts he hD0 hD3 hd (by omega)
  rw [hts]
  exact ⟨r, hr, hm⟩
 have b6 : ((s : Int) == 6) = false := beq_eq_false_iff_ne.2 (by omega)
 have b10 : ((s : Int) == 10) = false := beq_eq_false_iff_ne.2 (by omega)
 have hs1 : IntKind.i64.wrap ((s : Int) + 1) = ((s + 1 : Nat) : Int) := by rw [w64 (by omega)]; omega
 simp only [b6, b10, cond_false, hs1]
 obtain ⟨r, hr, hm⟩ := hk (s + 1) (dn s d) a (by omega) (by omega) hD0 hD3 (by rw [hts]; exact he) (by omega)
 have hlen : (l.drop a).length = ts.length + 1 := by rw [hts]; rfl
 have hkd : kd s = 1 ∨ kd s = 2 := by
  have : s = 1 ∨ s = 2 ∨ s = 3 ∨ s = 4 ∨ s = 5 ∨ s = 7 ∨ s = 8 ∨ s = 9 := by omega
  rcases this with rfl | rfl | rfl | rfl | rfl | rfl | rfl | rfl <;> simp [kd]
 match r, hr, hm with
 | .error (b, p), hr, ⟨y, a', hm⟩ =>
  have hb := qX hr
  have hb0 : (b == 0) = false := by simpa using hb
  rw [hm, aj]
  obtain ⟨m, hF⟩ : ∃ m, au = m + 1 := ⟨18446744073709551615, rfl⟩
  rw [hF, ao]
  simp only [bC, hb0, cond_false]
  rcases hkd with h | h
  ·exact ⟨_, .rErr h hd hr, _, _, rfl⟩
  ·refine ⟨.error (b, p), .lErr h (d := d) ?_, _, _, rfl⟩
   have : dn s d = d := by
    have : s = 3 ∨ s = 4 ∨ s = 8 ∨ s = 9 := by
     have : s = 1 ∨ s = 2 ∨ s = 3 ∨ s = 4 ∨ s = 5 ∨ s = 7 ∨ s = 8 ∨ s = 9 := by omega
     rcases this with rfl | rfl | rfl | rfl | rfl | rfl | rfl | rfl <;> simp [kd] at h <;> simp
    rcases this with rfl | rfl | rfl | rfl <;> rfl
   rw [this] at hr; exact hr
 | .ok (x, ts'), hr, ⟨a', ha', hm⟩ =>
  rw [hts] at hr
  obtain ⟨he', hsh⟩ := hr.ends he _ rfl
  simp only [shorter, List.length_cons] at hsh he'
  rw [hm, aj]
  rcases hkd with h | h
  · -- once
   obtain ⟨t2, ts2, ht2⟩ := he'.ne
   subst ht2
   obtain ⟨hx2, hd2, hlt2, hmem2⟩ := jd ha'
   have hok2 := htok t2 hmem2
   obtain ⟨m, hF⟩ : ∃ m, au = m + 1 := ⟨18446744073709551615, rfl⟩
   rw [hF, ao, hts]
   simp only [bC, beq_self_eq_true, cond_true, hx2, aj, Lh hok2 h1 (by omega) h6, bu]
   cases ho : bG s t2 with
   | none =>
    refine ⟨_, .rOne h hd hr ho, a', ha', ?_⟩
    simp only [opt, Option.getD_none, beq_self_eq_true, cond_true, x4]
   | some ko =>
    have hke := vZ ho
    have he2 : Ends ts2 := he'.tail (qe ho)
    simp only [opt, Option.getD_some, hke, cond_false, bM (show a' < 4611686018427387904 by omega), hs1, x4]
    simp only [List.length_cons] at hsh
    have hc : s = 1 ∨ s = 2 ∨ s = 5 ∨ s = 7 := by
     have : s = 1 ∨ s = 2 ∨ s = 3 ∨ s = 4 ∨ s = 5 ∨ s = 7 ∨ s = 8 ∨ s = 9 := by omega
     rcases this with rfl | rfl | rfl | rfl | rfl | rfl | rfl | rfl <;> simp [kd] at h <;> simp
    by_cases h7 : s = 7
    ·subst h7
     obtain ⟨r2, hr2, hm2⟩ := hk 8 (dn 7 d) (a' + 1) (by omega) (by omega) hD0 hD3 (by rw [hd2]; exact he2) (by rw [hd2]; omega)
     rw [hd2] at hr2
     exact ⟨_, .rTwo h hd hr ho hr2, hm2.two ko t2.2.2.2 x⟩
    ·obtain ⟨r2, hr2, hm2⟩ := hk s (dn s d) (a' + 1) (by omega) (by omega) hD0 hD3 (by rw [hd2]; exact he2) (by rw [hd2]; omega)
     rw [hd2] at hr2
     have hnx : nx s = s := by unfold nx; rw [beq_eq_false_iff_ne.2 h7]; rfl
     refine ⟨_, .rTwo h hd hr ho (by rw [hnx]; exact hr2), ?_⟩
     have hb : ((((s : Int) == 1) || ((s : Int) == 2)) || ((s : Int) == 5)) = true := by
      rcases hc with rfl | rfl | rfl | rfl
      ·rfl
      ·rfl
      ·rfl
      ·exact absurd rfl h7
     rw [hb]
     exact hm2.two ko t2.2.2.2 x
  · -- from the left
   have hc : s = 3 ∨ s = 4 ∨ s = 8 ∨ s = 9 := by
    have : s = 1 ∨ s = 2 ∨ s = 3 ∨ s = 4 ∨ s = 5 ∨ s = 7 ∨ s = 8 ∨ s = 9 := by omega
    rcases this with rfl | rfl | rfl | rfl | rfl | rfl | rfl | rfl <;> simp [kd] at h <;> simp
   have hdn : dn s d = d := by rcases hc with rfl | rfl | rfl | rfl <;> rfl
   have hq : ((((s : Int) == 1) || ((s : Int) == 2)) || ((s : Int) == 5)) = false := by rcases hc with rfl | rfl | rfl | rfl <;> rfl
   have hq7 : ((s : Int) == 7) = false := by rcases hc with rfl | rfl | rfl | rfl <;> rfl
   have hle : (l.drop a').length ≤ l.length := by simp
   obtain ⟨r2, hr2, hm2⟩ := Hj hn hl htok hk h1 (by omega) h6 h (D := dn s d) hD0 hD3 hq hq7 l.length a' au x hle (by show l.length < 2 ^ 64; omega) (by rw [ha']; exact he') (by rw [ha']; omega)
   rw [ha'] at hr2
   rw [hts]
   rw [hdn] at hr hr2
   exact ⟨r2, .lGo h hr hr2, hm2⟩
end
theorem JJ {names : List Str} {l : List Tok} (hn : names.length < 4611686018427387904) (hl : l.length < 4611686018427387904) (htok : ∀ t ∈ l, dy t) :
  ∀ (N : Nat) (s : Nat) (d : Int) (a : Nat), 1 ≤ s → s ≤ 10 → 0 ≤ d → d ≤ 320 → Ends (l.drop a) → 12 * (l.drop a).length + (11 - s) < N →
   SR names l (an (fun k (s : (Int × Int × (List (Int × Str × Int × Int)) × Int × (List Str) × Int × Int)) => bF k s.1 s.2.1 s.2.2.1 s.2.2.2.1 s.2.2.2.2.1 s.2.2.2.2.2.1 s.2.2.2.2.2.2) N) s d a := by
 intro N
 induction N with
 | zero => intro s d a _ _ _ _ _ h; omega
 | succ N ih =>
  intro s d a h1 h10 h0 h3 he hN
  unfold SR
  rw [ao]
  exact HZ hn hl htok ih h1 h10 h0 h3 he hN
theorem G5 {names : List Str} {l : List Tok} (hn : names.length < 4611686018427387904) (hl : l.length < 1152921504606846976) (htok : ∀ t ∈ l, dy t) {a : Nat} (he : Ends (l.drop a)) :
  ∃ r, P names (line 1) 0 (l.drop a) r ∧ match r with
   | .ok (x, ts) => ∃ a' : Nat, l.drop a' = ts ∧ cE l (a : Int) names = some (x, (a' : Int), 0, 0)
   | .error (b, p) => cE l (a : Int) names = some (.mk 0 0 0 [], 0, b, p) := by
 have hle : (l.drop a).length ≤ l.length := by simp
 obtain ⟨r, hr, hm⟩ := JJ hn (by omega) htok au 1 0 a (by omega) (by omega) (by omega) (by omega) he (by show _ < 2 ^ 64; omega)
 refine ⟨r, hr, ?_⟩
 unfold cE dz
 match r, hr, hm with
 | .ok (x, ts), hr, ⟨a', ha', hm⟩ =>
  refine ⟨a', ha', ?_⟩
  rw [show ((1 : Nat) : Int) = 1 from rfl] at hm
  rw [hm]; rfl
 | .error (b, p), hr, ⟨x, a', hm⟩ =>
  have hb := qX hr
  rw [show ((1 : Nat) : Int) = 1 from rfl] at hm
  rw [hm, aj]
  simp only [hb, cond_true]
end Pa
end Go.Proofs.YtpnogcmollnjeaaGreatDoor
namespace Go.Proofs.YtpnogcmollnjeaaGreatDoor
theorem rR (k : Ex → Option (Int × Int × Int)) (e : Ex) (hk : ∀ x ∈ e.l, k x = some (rt x)) (hl : e.l.length < 1152921504606846976) :
  ∀ (r pre : List Ex), e.l = pre ++ r → ∀ (M : Nat) (i b t : Int), 0 ≤ i ∧ i ≤ pre.length → 0 ≤ b ∧ b ≤ pre.length → 0 ≤ t ∧ t ≤ pre.length → r.length < M →
   an (cM k e) M (i, b, t, (pre.length : Int)) = some (rtA e.op e.at_ (e.l.length : Int) r i b t)
 | [], pre, h, M, i, b, t, hi, hb, ht, hM => by
  obtain ⟨m, rfl⟩ : ∃ m, M = m + 1 := ⟨M - 1, by simp at hM; omega⟩
  rw [ao]
  have hlen : pre.length < 1152921504606846976 := by rw [h] at hl; simp at hl; omega
  have hw : IntKind.i64.wrap (b + t) = b + t := w64 (by omega)
  simp only [cM, Pg h, cond_false, bu, rtA, uQ, hw]
  generalize (decide (e.op ≤ 6) && (i == (e.l.length : Int))) = c1
  generalize (decide (7 ≤ e.op) && decide (e.op ≤ 12) && (i == (e.l.length : Int)) || e.op == 13 || e.op == 14) = c2
  generalize (decide (15 ≤ e.op) && decide (e.op ≤ 19) && (b == (e.l.length : Int))) = c3
  generalize (decide (15 ≤ e.op) && (b + t == (e.l.length : Int))) = c4
  cases c1 <;> cases c2 <;> cases c3 <;> cases c4 <;> rfl
 | x :: r, pre, h, M, i, b, t, hi, hb, ht, hM => by
  obtain ⟨m, rfl⟩ : ∃ m, M = m + 1 := ⟨M - 1, by omega⟩
  rw [ao]
  have hx : k x = some (rt x) := hk x (by rw [h]; simp)
  have hlen : pre.length < 1152921504606846976 := by rw [h] at hl; simp at hl; omega
  have ih := fun i b t hi hb ht => rR k e hk hl r (pre ++ [x]) (by rw [h]; simp) m i b t hi hb ht (by simp at hM; omega)
  have hp : ((pre ++ [x]).length : Int) = ((pre.length + 1 : Nat) : Int) := by simp
  rw [hp] at ih
  have wi : IntKind.i64.wrap (i + 1) = i + 1 := w64 (by omega)
  have wb : IntKind.i64.wrap (b + 1) = b + 1 := w64 (by omega)
  have wt : IntKind.i64.wrap (t + 1) = t + 1 := w64 (by omega)
  simp only [cM, iz, kI, Py h, cond_true, MC h, aj, hx, bu, Ns (show pre.length < 4611686018427387904 by omega), rtA, wi, wb, wt]
  cases (rt x).2.1 != 0
  ·simp only [cond_false]
   cases (rt x).1 == 1 <;> cases (rt x).1 == 2 <;> cases (rt x).1 == 3 <;> simp only [cond_false, cond_true] <;> exact ih _ _ _ (by omega) (by omega) (by omega)
  ·rfl
theorem Gi : ∀ (N : Nat) (e : Ex), e.sz ≤ N → e.sz < 1152921504606846976 → an (fun k s => ea k s) N e = some (rt e) := by
 intro N
 induction N with
 | zero => intro e h; have := q6 e; omega
 | succ N ih =>
  intro e h hb
  rw [ao]
  show an (cM _ e) au (0, 0, 0, 0) = _
  have hl := Is e
  rw [rt_eq]
  exact rR (an (fun k s => ea k s) N) e (fun x hx => ih x (by have := pS hx; omega) (by have := pS hx; omega)) (by omega) e.l [] rfl au 0 0 0 (by simp) (by simp) (by simp) (by show e.l.length < 2 ^ 64; omega)
theorem KE (e : Ex) (h : e.sz < 1152921504606846976) : dD e = some (rt e) := Gi au e (by show e.sz ≤ 2 ^ 64; omega) h
end Go.Proofs.YtpnogcmollnjeaaGreatDoor
namespace Go.Proofs.YtpnogcmollnjeaaGreatDoor
namespace Sy
open Pa
/-! types -/
theorem Mx (e : Ex) : dH e = ea dD e := rfl
theorem Gz (e : Ex) (h : e.sz < 1152921504606846976) : dH e = some (rt e) := by
 rw [Mx]
 have hl := Is e
 show an (cM _ e) au (0, 0, 0, 0) = _
 rw [rt_eq]
 exact rR dD e (fun x hx => KE x (by have := pS hx; omega)) (by omega) e.l [] rfl au 0 0 0 (by simp) (by simp) (by simp) (by show e.l.length < 2 ^ 64; omega)
/-! names -/
theorem nJ {names : List Str} {v : Str} (hn : names.length < 4611686018427387904) : ∀ (m i M : Nat), names.length - i ≤ m → i ≤ names.length → m < M →
  an (cK names v) M (i : Int) = some (match eC names v i with | some j => (j : Int) | none => -1) := by
 intro m
 induction m with
 | zero =>
  intro i M h1 h2 h3
  obtain ⟨M, rfl⟩ : ∃ k, M = k + 1 := ⟨M - 1, by omega⟩
  have hi : i = names.length := by omega
  subst hi
  rw [ao]
  have e : eC names v names.length = none := by unfold eC; simp
  rw [e]
  simp only [cK, decide_eq_false (show ¬ ((names.length : Int) < (List.length names : Int)) by omega), cond_false]
 | succ m ih =>
  intro i M h1 h2 h3
  obtain ⟨M, rfl⟩ : ∃ k, M = k + 1 := ⟨M - 1, by omega⟩
  rw [ao]
  by_cases hi : i < names.length
  ·have hd : names.drop i = names[i] :: names.drop (i + 1) := List.drop_eq_getElem_cons hi
   have hx : idx names (i : Int) = some names[i] := by simp [idx, List.getElem?_eq_getElem hi]
   simp only [cK, decide_eq_true (show ((i : Nat) : Int) < (List.length names : Int) by omega), cond_true, hx, aj, bM (show i < 4611686018427387904 by omega)]
   have e : eC names v i = bif (names[i] == v) then some i else eC names v (i + 1) := by
    unfold eC
    rw [hd, List.findIdx?_cons]
    have : (v == names[i]) = (names[i] == v) := by
     by_cases h : v = names[i]
     ·rw [h]
     ·rw [beq_eq_false_iff_ne.2 h, beq_eq_false_iff_ne.2 (fun e => h e.symm)]
    rw [this]
    cases (names[i] == v)
    ·simp only [cond_false, Bool.false_eq_true, if_false, Option.map_map]
     congr 1
     funext x
     simp only [Function.comp]; omega
    ·simp
   rw [e]
   cases (names[i] == v)
   ·simp only [cond_false]
    exact ih (i + 1) M (by omega) (by omega) (by omega)
   ·rfl
  ·have hi : i = names.length := by omega
   subst hi
   have e : eC names v names.length = none := by unfold eC; simp
   rw [e]
   simp only [cK, decide_eq_false (show ¬ ((names.length : Int) < (List.length names : Int)) by omega), cond_false]
theorem vR {names : List Str} (hn : names.length < 4611686018427387904) (v : Str) : bn names v = some (cj names v) := by
 have := nJ (v := v) hn names.length 0 au (by omega) (by omega) (by show names.length < 2 ^ 64; omega)
 rw [show ((0 : Nat) : Int) = 0 from rfl, vo] at this
 unfold bn cj
 refine this.trans ?_
 cases at_ names v <;> rfl
theorem Fe {names : List Str} {v : Str} : at_ names v = none ↔ names.contains v = false := by
 unfold at_
 rw [List.findIdx?_eq_none_iff]
 constructor
 ·intro h
  cases hc : names.contains v
  ·rfl
  ·have := List.contains_iff_mem.1 hc
   have := h v this
   simp at this
 ·intro h x hx
  cases hv : (v == x)
  ·rfl
  ·have : v = x := by simpa using hv
   subst this
   have : names.contains v = true := List.contains_iff_mem.2 hx
   rw [this] at h; cases h
theorem sA (names : List Str) (v : Str) : decide (0 ≤ cj names v) = names.contains v := by
 unfold cj
 cases h : at_ names v with
 | some i =>
  simp only
  have : names.contains v = true := by
   cases hc : names.contains v
   ·rw [Fe.2 hc] at h; cases h
   ·rfl
  rw [this]; simp
 | none => rw [Fe.1 h]; rfl
/-! the state of the reader -/
noncomputable def aN (st : Except Err (List Tok)) (f : List Tok → Except Err (List Tok)) : Except Err (List Tok) := match st with
 | .ok ts => f ts
 | .error e => .error e
noncomputable def rest {α : Type} : Except Err (α × List Tok) → Except Err (List Tok)
 | .ok p => .ok p.2
 | .error e => .error e
noncomputable def aE {α : Type} (st : Except Err (List Tok)) (f : List Tok → Except Err (α × List Tok)) : Except Err (List Tok) := aN st fun ts => rest (f ts)
noncomputable def St (l : List Tok) (st : Except Err (List Tok)) (a b p : Int) : Prop := match st with
 | .ok ts => ∃ k : Nat, a = (k : Int) ∧ l.drop k = ts ∧ Pa.Ends ts ∧ b = 0 ∧ p = 0
 | .error e => (∃ t, idx l a = some t) ∧ (e.1 == 0) = false ∧ b = e.1 ∧ p = e.2
noncomputable def isS (k : Int) (x : Str) : Except Err (List Tok) → Bool
 | .ok ts => isH k x ts
 | .error _ => false
noncomputable def Val {α : Type} (st : Except Err (List Tok)) (f : List Tok → Except Err (α × List Tok)) (x : α) : Prop := ∀ ts y r, st = .ok ts → f ts = .ok (y, r) → x = y
section
variable {l : List Tok} (hl : l.length < 1099511627776) (htok : ∀ t ∈ l, dy t) (hnum : ∀ t ∈ l, n9 t)
variable {st : Except Err (List Tok)} {a b p : Int} (N : List Str) (S_ : List (Int × Int)) (I : List Int) (Q : List Str) (C : List Cmd)
theorem St.at {st : Except Err (List Tok)} {a b p : Int} (h : St l st a b p) : ∃ t, idx l a = some t := by
 cases st with
 | ok ts =>
  obtain ⟨k, rfl, hd, he, _⟩ := h
  obtain ⟨t, r, rfl⟩ := he.ne
  exact ⟨t, (jd hd).1⟩
 | error e => exact h.1
theorem St.ok {ts : List Tok} (h : St l (.ok ts) a b p) : ∃ (k : Nat) (t : Tok) (r : List Tok), a = (k : Int) ∧ ts = t :: r ∧ l.drop k = t :: r ∧ Pa.Ends (t :: r) ∧ b = 0 ∧ p = 0 ∧ idx l a = some t ∧ t ∈ l ∧ l.drop (k + 1) = r ∧ k < l.length := by
 obtain ⟨k, rfl, hd, he, hb, hp⟩ := h
 obtain ⟨t, r, rfl⟩ := he.ne
 obtain ⟨h1, h2, h3, h4⟩ := jd hd
 exact ⟨k, t, r, rfl, rfl, hd, he, hb, hp, h1, h4, h2, h3⟩
theorem ju (c q x : Int) : aq c q l x N S_ I Q C 0 0 = some (c, q) := rfl
theorem o9 {b : Int} (hb : (b == 0) = false) (c q x p : Int) : aq c q l x N S_ I Q C b p = some (b, p) := by
 unfold aq; rw [hb]; rfl
theorem rD (h : St l st a b p) (k : Int) (x : Str) : aW k x l a N S_ I Q C b p = some (isS k x st) := by
 cases st with
 | ok ts =>
  obtain ⟨k', t, r, rfl, rfl, hd, he, rfl, rfl, hx, _⟩ := h.ok
  unfold aW
  simp only [bu, beq_self_eq_true, dT, hx, aj, Bool.true_and, isS, isH, isT]
  cases (t.1 == k)
  ·rfl
  ·simp only [dT, aj, Bool.true_and]
 | error e =>
  obtain ⟨_, he, rfl, rfl⟩ := h
  unfold aW
  simp only [bu, he, kC, Bool.false_and, isS]
theorem Fs (h : St l st a b p) : ∃ q, aC l a N S_ I Q C b p = some q ∧ ∀ ts, st = .ok ts → q = uI ts := by
 obtain ⟨t, ht⟩ := h.at
 refine ⟨t.2.2.2, by unfold aC; rw [ht]; rfl, fun ts hts => ?_⟩
 subst hts
 obtain ⟨k', t', r, rfl, rfl, hd, he, rfl, rfl, hx, _⟩ := h.ok
 rw [hx] at ht; cases ht; rfl
include hl in
theorem om (h : St l st a b p) (x : Str) : ∃ a' b' p', aR x l a N S_ I Q C b p = some (a', b', p') ∧ St l (aN st (aV x)) a' b' p' := by
 have hi := rD N S_ I Q C h 3 x
 unfold aR
 rw [hi, aj]
 cases st with
 | ok ts =>
  obtain ⟨k, t, r, rfl, rfl, hd, he, rfl, rfl, hx, hm, hd1, hk⟩ := h.ok
  simp only [isS, isH, aN, aV]
  cases hc : isT 3 x t
  ·simp only [Bool.not_false, cond_true, aC, hx, aj, ju]
   exact ⟨_, _, _, rfl, ⟨t, hx⟩, rfl, rfl, rfl⟩
  ·simp only [Bool.not_true, cond_false, cond_true, bM (show k < 4611686018427387904 by omega)]
   exact ⟨_, _, _, rfl, k + 1, rfl, hd1, he.tail (CO hc (by decide)), rfl, rfl⟩
 | error e =>
  obtain ⟨⟨t, hx⟩, he, rfl, rfl⟩ := h
  simp only [isS, Bool.not_false, cond_true, aC, hx, aj, o9 N S_ I Q C he, aN]
  exact ⟨_, _, _, rfl, ⟨t, hx⟩, he, rfl, rfl⟩
include hl in
theorem Ff (h : St l st a b p) (hN : N.length < 1099511627776) (hQ : Q.length < 1099511627776) (full : Bool) : ∃ s a' b' p', df full l a N S_ I Q C b p = some (s, a', b', p') ∧ St l (aE st (cL full N Q)) a' b' p' ∧ Val st (cL full N Q) s := by
 obtain ⟨t, ht⟩ := h.at
 have iN := vR (names := N) (by omega) t.2.1
 have iQ := vR (names := Q) (by omega) t.2.1
 unfold df
 simp only [ht, aj, EX, bu]
 cases st with
 | ok ts =>
  obtain ⟨k, t', r, rfl, rfl, hd, he, rfl, rfl, hx, hm, hd1, hk⟩ := h.ok
  rw [hx] at ht; cases ht
  simp only [aE, aN]
  have hs : cL full N Q (t :: r) = (bif t.1 != 1 then .error (2, t.2.2.2) else bif key t.2.1 || N.contains t.2.1 || Q.contains t.2.1 then .error (3, t.2.2.2) else bif full then .error (9, t.2.2.2) else .ok (t.2.1, r)) := rfl
  cases h1 : (t.1 != 1)
  case true =>
   rw [h1] at hs
   simp only [cond_true] at hs
   simp only [cond_true, ju, aj, hs, rest]
   exact ⟨_, _, _, _, rfl, ⟨⟨t, hx⟩, rfl, rfl, rfl⟩, fun ts y r' h2 h3 => by cases h2; rw [hs] at h3; cases h3⟩
  rw [h1] at hs
  simp only [cond_false] at hs ⊢
  have hc : (key t.2.1 || N.contains t.2.1 || Q.contains t.2.1) = (jP.contains t.2.1 || decide (0 ≤ cj N t.2.1) || decide (0 ≤ cj Q t.2.1)) := by rw [sA, sA]; rfl
  rw [hc] at hs
  have fin : ∀ c : Bool, (jP.contains t.2.1 || decide (0 ≤ cj N t.2.1) || decide (0 ≤ cj Q t.2.1)) = c →
    ∃ s a' b' p', (bif c then ((aq 3 t.2.2.2 l (k : Int) N S_ I Q C 0 0).bind fun r43 => some (t.2.1, (k : Int), r43.1, r43.2)) else (bif full then ((aq 9 t.2.2.2 l (k : Int) N S_ I Q C 0 0).bind fun r47 => some (t.2.1, (k : Int), r47.1, r47.2)) else (bif ((0 : Int) == 0) then some (t.2.1, (IntKind.i64.wrap ((k : Int) + 1)), 0, 0) else some (t.2.1, (k : Int), 0, 0)))) = some (s, a', b', p') ∧
     St l (rest (cL full N Q (t :: r))) a' b' p' ∧ Val (.ok (t :: r)) (cL full N Q) s := by
   intro c hcc
   rw [hcc] at hs
   cases c
   ·cases full
    ·simp only [cond_false] at hs
     refine ⟨_, _, _, _, rfl, ?_, fun ts y r' h2 h3 => by cases h2; rw [hs] at h3; cases h3; rfl⟩
     rw [hs, bM (show k < 4611686018427387904 by omega)]
     have : t.1 = 1 := by simpa using h1
     exact ⟨k + 1, rfl, hd1, he.tail (by omega), rfl, rfl⟩
    ·simp only [cond_false, cond_true] at hs
     exact ⟨_, _, _, _, rfl, by rw [hs]; exact ⟨⟨t, hx⟩, rfl, rfl, rfl⟩, fun ts y r' h2 h3 => by cases h2; rw [hs] at h3; cases h3⟩
   ·simp only [cond_true] at hs
    exact ⟨_, _, _, _, rfl, by rw [hs]; exact ⟨⟨t, hx⟩, rfl, rfl, rfl⟩, fun ts y r' h2 h3 => by cases h2; rw [hs] at h3; cases h3⟩
  have := fin _ rfl
  cases hk1 : jP.contains t.2.1
  ·simp only [Bool.not_false, dT, iN, aj, Bool.false_or, hk1] at this ⊢
   cases hk2 : decide (0 ≤ cj N t.2.1)
   ·simp only [Bool.not_false, dT, iQ, aj, Bool.false_or, hk2] at this ⊢
    exact this
   ·simp only [Bool.not_true, kC, Bool.true_or, hk2] at this ⊢
    exact this
  ·simp only [Bool.not_true, kC, Bool.true_or, hk1] at this ⊢
   exact this
 | error e =>
  obtain ⟨_, he, rfl, rfl⟩ := h
  simp only [aE, aN]
  have V : ∀ s, Val (.error e) (cL full N Q) s := fun s ts y r h => by cases h
  have hS : St l (.error e) a e.1 e.2 := ⟨⟨t, ht⟩, he, rfl, rfl⟩
  have iN' : ∀ g : Bool, ∃ z, ∀ k : Int → Option (Str × Int × Int × Int), aT g default (bn N t.2.1) k = k z := fun g => by
   cases g
   ·exact ⟨default, fun k => rfl⟩
   ·exact ⟨cj N t.2.1, fun k => by rw [dT, iN]; rfl⟩
  have iQ' : ∀ g : Bool, ∃ z, ∀ k : Int → Option (Str × Int × Int × Int), aT g default (bn Q t.2.1) k = k z := fun g => by
   cases g
   ·exact ⟨default, fun k => rfl⟩
   ·exact ⟨cj Q t.2.1, fun k => by rw [dT, iQ]; rfl⟩
  cases h1 : (t.1 != 1)
  case true =>
   simp only [cond_true, o9 N S_ I Q C he, aj]
   exact ⟨_, _, _, _, rfl, hS, V _⟩
  simp only [cond_false]
  obtain ⟨z1, e1⟩ := iN' (!(jP.contains t.2.1))
  rw [e1]
  obtain ⟨z2, e2⟩ := iQ' (!(jP.contains t.2.1 || decide (0 ≤ z1)))
  rw [e2]
  cases (jP.contains t.2.1 || decide (0 ≤ z1) || decide (0 ≤ z2))
  ·cases full
   ·simp only [cond_false, he]
    exact ⟨_, _, _, _, rfl, hS, V _⟩
   ·simp only [cond_true, cond_false, o9 N S_ I Q C he, aj]
    exact ⟨_, _, _, _, rfl, hS, V _⟩
  ·simp only [cond_true, o9 N S_ I Q C he, aj]
   exact ⟨_, _, _, _, rfl, hS, V _⟩
include hl in
theorem yB (neg : Bool) (h : St l st a b p) : ∃ n a' b' p', eP l N S_ I Q C b p neg a = some (n, a', b', p') ∧ St l (aE st (jk neg)) a' b' p' ∧ Val st (jk neg) n := by
 obtain ⟨t, ht⟩ := h.at
 unfold eP
 rw [ht, aj]
 cases st with
 | ok ts =>
  obtain ⟨k, t', r, rfl, rfl, hd, he, rfl, rfl, hx, hm, hd1, hk⟩ := h.ok
  rw [hx] at ht; cases ht
  simp only [aE, aN, jk, rest, Val]
  cases h1 : (t.1 != 2)
  ·simp only [cond_false, cY, bM (show k < 4611686018427387904 by omega)]
   have ht2 : t.1 = 2 := by simpa using h1
   have hE : Pa.Ends r := he.tail (by omega)
   cases neg
   ·exact ⟨_, _, _, _, rfl, ⟨k + 1, rfl, hd1, hE, rfl, rfl⟩, fun ts y r' h2 h3 => by cases h2; simp only [h1, cond_false] at h3; cases h3; rfl⟩
   ·exact ⟨_, _, _, _, rfl, ⟨k + 1, rfl, hd1, hE, rfl, rfl⟩, fun ts y r' h2 h3 => by cases h2; simp only [h1, cond_false, cond_true] at h3; cases h3; rfl⟩
  ·simp only [cond_true, ju, aj, cY]
   exact ⟨_, _, _, _, rfl, ⟨⟨t, hx⟩, rfl, rfl, rfl⟩, fun ts y r' h2 h3 => by cases h2; simp only [h1, cond_true] at h3; cases h3⟩
 | error e =>
  obtain ⟨_, he, rfl, rfl⟩ := h
  have hb : (e.1 != 0) = true := by simp only [bne, he, Bool.not_false]
  simp only [aE, aN, o9 N S_ I Q C he, aj, cY, bu, hb, cond_true]
  have hS : St l (.error e) a e.1 e.2 := ⟨⟨t, ht⟩, he, rfl, rfl⟩
  cases (t.1 != 2) <;> exact ⟨_, _, _, _, rfl, hS, fun ts y r h => by cases h⟩
include hl in
theorem C0 (h : St l st a b p) : ∃ n a' b' p', bX l a N S_ I Q C b p = some (n, a', b', p') ∧ St l (aE st cS) a' b' p' ∧ Val st cS n := by
 unfold bX
 rw [rD N S_ I Q C h 3 [45], aj]
 cases st with
 | ok ts =>
  simp only [isS]
  cases hc : isH 3 [45] ts
  ·simp only [cond_false]
   obtain ⟨n, a', b', p', h1, h2, h3⟩ := yB hl N S_ I Q C false h
   have e : cS ts = jk false ts := by unfold cS; rw [hc]; rfl
   exact ⟨n, a', b', p', h1, by simpa only [aE, aN, e] using h2, fun ts' y r h4 h5 => h3 ts' y r h4 (by cases h4; rw [← e]; exact h5)⟩
  ·simp only [cond_true]
   obtain ⟨k, t, r, rfl, rfl, hd, he, rfl, rfl, hx, hm, hd1, hk⟩ := h.ok
   have hE : Pa.Ends r := (gX he (by decide) hc).1
   have hS : St l (.ok r) (IntKind.i64.wrap ((k : Int) + 1)) 0 0 := by rw [bM (show k < 4611686018427387904 by omega)]; exact ⟨k + 1, rfl, hd1, hE, rfl, rfl⟩
   obtain ⟨n, a', b', p', h1, h2, h3⟩ := yB hl N S_ I Q C true hS
   have e : cS (t :: r) = jk true r := by unfold cS; rw [hc]; rfl
   exact ⟨n, a', b', p', h1, by simpa only [aE, aN, e] using h2, fun ts' y r' h4 h5 => h3 r y r' rfl (by cases h4; rw [← e]; exact h5)⟩
 | error e =>
  simp only [isS, cond_false]
  obtain ⟨n, a', b', p', h1, h2, h3⟩ := yB hl N S_ I Q C false h
  exact ⟨n, a', b', p', h1, h2, fun ts' y r h4 => by cases h4⟩
include hl htok hnum in
theorem EG (h : St l st a b p) (hN : N.length < 1099511627776) (want : Int) : ∃ x a' b' p', bf want l a N S_ I Q C b p = some (x, a', b', p') ∧ St l (aE st (bW want N)) a' b' p' ∧ Val st (bW want N) x := by
 have _ := hnum
 unfold bf
 cases st with
 | ok ts =>
  obtain ⟨k, t, r0, rfl, rfl, hd, he, rfl, rfl, hx, hm, hd1, hk⟩ := h.ok
  simp only [bne_self_eq_false, cond_false]
  obtain ⟨r, hr, hP⟩ := G5 (names := N) (by omega) (by omega) htok (a := k) (by rw [hd]; exact he)
  rw [hd] at hr
  have hre := Jz hr
  match r, hr, hP, hre with
  | .error (b, p), hr, hP, hre =>
   have hb := qX hr
   have hb0 : (b == 0) = false := by simpa using hb
   rw [hP, aj]
   simp only [hb, cond_true, ju, aj, aE, aN, bW, hre, rest]
   exact ⟨_, _, _, _, rfl, ⟨⟨t, hx⟩, hb0, rfl, rfl⟩, fun ts y r' h2 h3 => by cases h2; simp only [bW, hre] at h3; cases h3⟩
  | .ok (x, ts'), hr, ⟨k', hk', hP⟩, hre =>
   have hsz := hr.size _ rfl
   simp only [szJ, Nat.add_zero] at hsz
   have hlen : (t :: r0).length ≤ l.length := by rw [← hd]; simp
   have hends := (hr.ends he _ rfl).1
   rw [hP, aj]
   simp only [bne_self_eq_false, cond_false, Gz x (by omega), aj, aE, aN, bW, hre, rest, Val, gb]
   have hat : ∃ t', idx l (k' : Int) = some t' := by
    obtain ⟨t', r', hh⟩ := hends.ne
    simp only at hh
    rw [hh] at hk'
    exact ⟨t', (jd hk').1⟩
   cases h1 : ((rt x).2.1 != 0)
   case true =>
    have h10 : ((rt x).2.1 == 0) = false := by simpa using h1
    simp only [cond_true, ju, aj]
    exact ⟨_, _, _, _, rfl, ⟨hat, h10, rfl, rfl⟩, fun ts y r' h2 h3 => by cases h2; simp only [hre, h1, cond_true] at h3; cases h3⟩
   simp only [cond_false]
   cases h2 : ((rt x).1 != want)
   case true =>
    simp only [cond_true, ju, aj]
    exact ⟨_, _, _, _, rfl, ⟨hat, rfl, rfl, rfl⟩, fun ts y r' h4 h3 => by cases h4; simp only [hre, h1, cond_false, h2, cond_true] at h3; cases h3⟩
   simp only [cond_false]
   exact ⟨_, _, _, _, rfl, ⟨k', rfl, hk', hends, rfl, rfl⟩, fun ts y r' h4 h3 => by cases h4; simp only [hre, h1, cond_false, h2] at h3; cases h3; rfl⟩
 | error e =>
  obtain ⟨ht, he, rfl, rfl⟩ := h
  have hb : (e.1 != 0) = true := by simp only [bne, he, Bool.not_false]
  simp only [hb, cond_true, aE, aN]
  exact ⟨_, _, _, _, rfl, ⟨ht, he, rfl, rfl⟩, fun ts y r h => by cases h⟩
end
end Sy
end Go.Proofs.YtpnogcmollnjeaaGreatDoor
namespace Go.Proofs.YtpnogcmollnjeaaGreatDoor
namespace Sy
open Pa
theorem JY (lo hi : Int) : gi ([(lo, hi)] : List (Int × Int)) = some (jI lo hi) := by
 have e : gi ([(lo, hi)] : List (Int × Int)) = an (hZ [(lo, hi)]) au 0 := rfl
 rw [e]
 obtain ⟨m, hm⟩ : ∃ m, au = m + 2 := ⟨18446744073709551614, rfl⟩
 rw [hm, show m + 2 = (m + 1) + 1 from rfl, ao]
 have i0 : idx ([(lo, hi)] : List (Int × Int)) 0 = some (lo, hi) := rfl
 have d0 : decide ((0 : Int) < (List.length ([(lo, hi)] : List (Int × Int)) : Int)) = true := rfl
 have w0 : IntKind.i64.wrap (0 + 1) = 1 := rfl
 simp only [hZ, d0, cond_true, i0, aj, bu, w0]
 unfold jI
 cases decide (hi < lo)
 case true => rfl
 simp only [Bool.not_false, dT, aj, Bool.false_or, Bool.true_and]
 cases decide (lo < -1073741824)
 case true => rfl
 simp only [Bool.not_false, dT, aj, Bool.false_or, Bool.true_and]
 cases decide (1073741824 < hi)
 case true => rfl
 simp only [Bool.not_false, dT, aj, Bool.false_or, Bool.true_and]
 cases decide (65535 < IntKind.i64.wrap (hi - lo))
 ·rw [ao]; rfl
 ·rfl
section
variable {l : List Tok} (hl : l.length < 1099511627776) (htok : ∀ t ∈ l, dy t) (hnum : ∀ t ∈ l, n9 t)
variable {st : Except Err (List Tok)} {a b p : Int} (N : List Str) (S_ : List (Int × Int)) (I : List Int) (Q : List Str) (C : List Cmd)
variable (hN : N.length < 1099511627776) (hS : S_.length < 1099511627776) (hI : I.length < 1099511627776) (hQ : Q.length < 1099511627776) (hC : C.length < 1099511627776)
include hl hN hS hI hQ in
theorem NL (h : St l st a b p) : ∃ a' N' S' I' b' p', dq l a N S_ I Q C b p = some (a', N', S', I', b', p') ∧ St l (aE st (iM (N, S_, I, Q, C))) a' b' p' ∧
  (∀ ts m r, st = .ok ts → iM (N, S_, I, Q, C) ts = .ok (m, r) → m = (N', S', I', Q, C)) := by
 obtain ⟨name, a1, b1, p1, e1, s1, v1⟩ := Ff hl N S_ I Q C h hN hQ (decide (16 ≤ (List.length N : Int)))
 obtain ⟨q, e0, v0⟩ := Fs N S_ I Q C s1
 obtain ⟨lo, a2, b2, p2, e2, s2, v2⟩ := C0 hl N S_ I Q C s1
 obtain ⟨hi, a3, b3, p3, e3, s3, v3⟩ := C0 hl N S_ I Q C s2
 obtain ⟨fi, a4, b4, p4, e4, s4, v4⟩ := C0 hl N S_ I Q C s3
 obtain ⟨a5, b5, p5, e5, s5⟩ := om hl N S_ I Q C s4 [59]
 have k1 : az (List.length N + List.length ([name] : List Str)) 16 = true := cN (by simp; omega) (by simp; omega)
 have k2 : az (List.length S_ + List.length ([(lo, hi)] : List (Int × Int))) 16 = true := cN (by simp; omega) (by simp; omega)
 have k3 : az (List.length I + List.length ([fi] : List Int)) 8 = true := cN (by simp; omega) (by simp; omega)
 have hK : ∀ c42 c43, eb N S_ I (name, a1, b1, p1) (lo, a2, b2, p2) (hi, a3, b3, p3) (fi, a4, b4, p4) (a5, b5, p5) c42 c43 = some (a5, N ++ [name], S_ ++ [(lo, hi)], I ++ [fi], c42, c43) := fun c42 c43 => by
  unfold eb
  rw [c7 k1, c7 k2, c7 k3]
 unfold dq
 simp only [e1, aj, e0, e2, e3, e4, e5, JY, bu, hK]
 -- where it is wrong
 have bad : ∀ e : Err, aN (aE (aE (aE (aE st (cL (decide (16 ≤ (List.length N : Int))) N Q)) cS) cS) cS) (aV [59]) = .error e →
   (aE st (iM (N, S_, I, Q, C))) = .error e := by
  intro e he
  cases st with
  | error e' => simp only [aE, aN] at he ⊢; exact he
  | ok ts =>
   simp only [aE, aN, iM] at he ⊢
   cases h1 : cL (decide (16 ≤ (List.length N : Int))) N Q ts with
   | error e1 => rw [h1] at he; simp only [rest] at he ⊢; exact he
   | ok q1 =>
    rw [h1] at he; simp only [rest] at he ⊢
    cases h2 : cS q1.2 with
    | error e1 => rw [h2] at he; simp only [] at he ⊢; exact he
    | ok q2 =>
     rw [h2] at he; simp only [] at he ⊢
     cases h3 : cS q2.2 with
     | error e1 => rw [h3] at he; simp only [] at he ⊢; exact he
     | ok q3 =>
      rw [h3] at he; simp only [] at he ⊢
      cases h4 : cS q3.2 with
      | error e1 => rw [h4] at he; simp only [] at he ⊢; exact he
      | ok q4 =>
       rw [h4] at he; simp only [] at he ⊢
       rw [he]
 cases hst : aN (aE (aE (aE (aE st (cL (decide (16 ≤ (List.length N : Int))) N Q)) cS) cS) cS) (aV [59]) with
 | error e =>
  have hb := bad e hst
  rw [hst] at s5
  have hfail := o9 (l := l) N S_ I Q C (b := b5) (by rw [s5.2.2.1]; exact s5.2.1) 5 q a5 p5
  rw [hb]
  have V : ∀ N' S' I', ∀ ts m r, st = .ok ts → iM (N, S_, I, Q, C) ts = .ok (m, r) → m = (N', S', I', Q, C) := fun N' S' I' ts m r h1 h2 => by
   subst h1
   simp only [aE, aN, h2, rest] at hb
   cases hb
  cases (!(jI lo hi) || decide (fi < lo) || decide (hi < fi))
  ·simp only [cond_false]; exact ⟨_, _, _, _, _, _, rfl, s5, V _ _ _⟩
  ·simp only [cond_true, hfail, aj]; exact ⟨_, _, _, _, _, _, rfl, s5, V _ _ _⟩
 | ok ts5 =>
  rw [hst] at s5
  cases st with
  | error e' => simp only [aE, aN] at hst; cases hst
  | ok ts =>
   simp only [aE, aN] at hst
   cases h1 : cL (decide (16 ≤ (List.length N : Int))) N Q ts with
   | error e1 => rw [h1] at hst; cases hst
   | ok q1 =>
    obtain ⟨name', ts1⟩ := q1
    rw [h1] at hst; simp only [rest] at hst
    have en : name = name' := v1 _ _ _ rfl h1
    have t1 : aE (.ok ts) (cL (decide (16 ≤ (List.length N : Int))) N Q) = .ok ts1 := by simp only [aE, aN, h1, rest]
    have eq : q = uI ts1 := v0 _ t1
    cases h2 : cS ts1 with
    | error e1 => rw [h2] at hst; cases hst
    | ok q2 =>
     obtain ⟨lo', ts2⟩ := q2
     rw [h2] at hst; simp only at hst
     have e2' : lo = lo' := v2 _ _ _ t1 h2
     have t2 : aE (aE (.ok ts) (cL (decide (16 ≤ (List.length N : Int))) N Q)) cS = .ok ts2 := by rw [t1]; simp only [aE, aN, h2, rest]
     cases h3 : cS ts2 with
     | error e1 => rw [h3] at hst; cases hst
     | ok q3 =>
      obtain ⟨hi', ts3⟩ := q3
      rw [h3] at hst; simp only at hst
      have e3' : hi = hi' := v3 _ _ _ t2 h3
      have t3 : aE (aE (aE (.ok ts) (cL (decide (16 ≤ (List.length N : Int))) N Q)) cS) cS = .ok ts3 := by rw [t2]; simp only [aE, aN, h3, rest]
      cases h4 : cS ts3 with
      | error e1 => rw [h4] at hst; cases hst
      | ok q4 =>
       obtain ⟨fi', ts4⟩ := q4
       rw [h4] at hst; simp only at hst
       have e4' : fi = fi' := v4 _ _ _ t3 h4
       have hv : iM (N, S_, I, Q, C) ts = (bif !(jI lo hi) || decide (fi < lo) || decide (hi < fi) then .error (5, uI ts1) else .ok ((N ++ [name], S_ ++ [(lo, hi)], I ++ [fi], Q, C), ts5)) := by
        simp only [iM, h1, h2, h3, h4, hst, en, e2', e3', e4']
       simp only [aE, aN, hv]
       obtain ⟨k5, e5a, e5b, e5c, rfl, rfl⟩ := s5
       cases hq : (!(jI lo hi) || decide (fi < lo) || decide (hi < fi))
       ·simp only [cond_false, rest]
        exact ⟨_, _, _, _, _, _, rfl, ⟨k5, e5a, e5b, e5c, rfl, rfl⟩, fun ts' m r h5 h6 => by cases h5; rw [hv, hq] at h6; simp only [cond_false] at h6; cases h6; rfl⟩
       ·simp only [cond_true, ju, aj, rest]
        refine ⟨_, _, _, _, _, _, rfl, ?_, fun ts' m r h5 h6 => by cases h5; rw [hv, hq] at h6; simp only [cond_true] at h6; cases h6⟩
        have hat := St.at (l := l) (st := .ok ts5) (a := a5) (b := 0) (p := 0) ⟨k5, e5a, e5b, e5c, rfl, rfl⟩
        exact ⟨hat, rfl, rfl, eq⟩
end
end Sy
end Go.Proofs.YtpnogcmollnjeaaGreatDoor
namespace Go.Proofs.YtpnogcmollnjeaaGreatDoor
namespace Sy
open Pa
section
variable {l : List Tok} (hl : l.length < 1099511627776) (htok : ∀ t ∈ l, dy t) (hnum : ∀ t ∈ l, n9 t)
variable {st : Except Err (List Tok)} {a b p : Int} (N : List Str) (S_ : List (Int × Int)) (I : List Int) (Q : List Str) (C : List Cmd)
variable (hN : N.length < 1099511627776) (hQ : Q.length < 1099511627776) (hC : C.length < 1099511627776)
theorem xo (acc : List (Int × Ex)) (hacc : acc.length < 4611686018427387904) (again) (e : Tok) (i : Int) (a b p : Int) : ∀ (r pre : List (Int × Ex)), acc = pre ++ r → ∀ (M : Nat) (tw : Bool), r.length < M →
  an (bg l N S_ I Q C a b p acc again e i) M (tw, (pre.length : Int)) = bg l N S_ I Q C a b p acc again e i (fun _ => none) (tw || mO r i, (acc.length : Int))
 | [], pre, h, M, tw, hM => by
  obtain ⟨m, rfl⟩ : ∃ m, M = m + 1 := ⟨M - 1, by simp at hM; omega⟩
  rw [ao]
  have e1 : pre = acc := by simpa using h.symm
  subst e1
  simp only [bg, decide_eq_false (show ¬ ((pre.length : Int) < (List.length pre : Int)) by omega), cond_false, mO, List.any_nil, Bool.or_false]
 | x :: r, pre, h, M, tw, hM => by
  obtain ⟨m, rfl⟩ : ∃ m, M = m + 1 := ⟨M - 1, by omega⟩
  rw [ao]
  have hlen : pre.length < 4611686018427387904 := by rw [h] at hacc; simp at hacc; omega
  have ih := fun tw => xo acc hacc again e i a b p r (pre ++ [x]) (by rw [h]; simp) m tw (by simp at hM; omega)
  rw [show ((pre ++ [x]).length : Int) = ((pre.length + 1 : Nat) : Int) by simp] at ih
  have hg : ∀ k : (Int × Ex) → Option (Int × List Cmd × Int × Int), aT (!tw) (0, Ex.mk 0 0 0 []) (some x) k = k (bif tw then (0, Ex.mk 0 0 0 []) else x) := fun k => by cases tw <;> rfl
  refine Eq.trans (b := bif decide ((pre.length : Int) < (List.length acc : Int)) then (aT (!tw) (0, (Ex.mk 0 0 0 [])) (idx acc (pre.length : Int)) fun e55 => an (bg l N S_ I Q C a b p acc again e i) m (tw || (e55.1 == i), IntKind.i64.wrap ((pre.length : Int) + 1))) else none) ?_ ?_
  ·simp only [bg, fk h, cond_true, bu]
  ·rw [fk h, cond_true, mid h, hg, bM hlen, ih]
   congr 2
   simp only [mO, List.any_cons]
   cases tw <;> simp
include hl hC in
theorem yF (g5 : Ex × Int × Int × Int) (acc : List (Int × Ex)) (more : Bool) (M : Nat) (h : St l st a b p) (hm : (more && (b == 0)) = false) :
  ∃ a' b' p', an (bD l N S_ I Q C g5) (M + 1) (a, b, p, acc, more) = some (a', C ++ [(IntKind.i64.wrap ((Q.length : Int) - 1), g5.1, acc)], b', p') ∧ St l (aN st (aV [59])) a' b' p' := by
 obtain ⟨a', b', p', e1, s1⟩ := om hl N S_ I Q C h [59]
 rw [ao]
 simp only [bD, bu, hm, cond_false, e1, aj]
 have k1 : ∀ x : Cmd, az (List.length C + List.length ([x] : List Cmd)) 80 = true := fun x => cN (by simp; omega) (by simp; omega)
 rw [c7 (k1 _)]
 exact ⟨_, _, _, rfl, s1⟩
include hl htok hnum hN in
theorem OM (acc : List (Int × Ex)) (hacc : acc.length < 1099511627776) (again) (i : Int) (h : St l st a b p) :
  ∃ x a' b' p', cQ l N S_ I Q C acc again i b p a = again (a', b', p', acc ++ [(i, x)], isS 3 [44] (aE (aN st (aV [61])) (bW 1 N))) ∧
   St l (match aE (aN st (aV [61])) (bW 1 N) with | .ok ts => (bif isH 3 [44] ts then .ok ts.tail else .ok ts) | .error e => .error e) a' b' p' ∧ Val (aN st (aV [61])) (bW 1 N) x := by
 obtain ⟨a1, b1, p1, e1, s1⟩ := om hl N S_ I Q C h [61]
 obtain ⟨x, a2, b2, p2, e2, s2, v2⟩ := EG hl htok hnum N S_ I Q C s1 hN 1
 have e3 := rD N S_ I Q C s2 3 [44]
 have k1 : az (List.length acc + List.length ([(i, x)] : List (Int × Ex))) 56 = true := cN (by simp; omega) (by simp; omega)
 unfold cQ
 simp only [e1, aj, e2, c7 k1, e3]
 cases hst : aE (aN st (aV [61])) (bW 1 N) with
 | error e =>
  rw [hst] at s2
  simp only [isS, cond_false]
  exact ⟨x, _, _, _, rfl, s2, v2⟩
 | ok ts =>
  rw [hst] at s2
  simp only [isS]
  cases hc : isH 3 [44] ts
  ·simp only [cond_false]
   exact ⟨x, _, _, _, rfl, s2, v2⟩
  ·simp only [cond_true]
   obtain ⟨k, t, r, rfl, rfl, hd, he, rfl, rfl, hx, hm, hd1, hk⟩ := s2.ok
   refine ⟨x, _, _, _, rfl, ?_, v2⟩
   rw [bM (show k < 4611686018427387904 by omega)]
   exact ⟨k + 1, rfl, hd1, (gX he (by decide) hc).1, rfl, rfl⟩
include hl htok hnum hN hC in
theorem Na (g5 : Ex × Int × Int × Int) : ∀ (n : Nat) (ts : List Tok) (acc : List (Int × Ex)) (a : Int) (M f : Nat), ts.length ≤ n → n + 2 ≤ M → ts.length < f → acc.length + ts.length < 1099511627776 → St l (.ok ts) a 0 0 →
  ∃ a' C' b' p', an (bD l N S_ I Q C g5) M (a, 0, 0, acc, true) = some (a', C', b', p') ∧ St l (aN (rest (cz N f acc ts)) (aV [59])) a' b' p' ∧
   (∀ sets r, cz N f acc ts = .ok (sets, r) → C' = C ++ [(IntKind.i64.wrap ((Q.length : Int) - 1), g5.1, sets)]) := by
 intro n
 induction n with
 | zero =>
  intro ts acc a M f h1 _ _ _ hs
  obtain ⟨k, t, r, _, rfl, _⟩ := hs.ok
  simp at h1
 | succ n ih =>
  intro ts acc a M f h1 h2 h3 h4 hs
  obtain ⟨M, rfl⟩ : ∃ m, M = m + 1 := ⟨M - 1, by omega⟩
  obtain ⟨f, rfl⟩ : ∃ m, f = m + 1 := ⟨f - 1, by omega⟩
  obtain ⟨k, t, r, rfl, rfl, hd, he, _, _, hx, hm, hd1, hk⟩ := hs.ok
  rw [ao]
  generalize hag : an (bD l N S_ I Q C g5) M = again
  simp only [bD, bu, beq_self_eq_true, Bool.and_self, cond_true, hx, aj, vR (show N.length < 4611686018427387904 by omega)]
  have htw := xo (l := l) N S_ I Q C acc (by omega) again t (cj N t.2.1) (k : Int) 0 0 acc [] rfl au false (by show acc.length < 2 ^ 64; omega)
  rw [show (([] : List (Int × Ex)).length : Int) = 0 from rfl, Bool.false_or] at htw
  rw [htw]
  simp only [bg, decide_eq_false (show ¬ ((acc.length : Int) < (List.length acc : Int)) by omega), cond_false, bu, ju, aj]
  -- the state behind the name
  have step : ∀ (st1 : Except Err (List Tok)) (c b p : Int), St l st1 c b p → (st1 = .ok r ∨ ∃ e, st1 = .error e) →
    cz N (f + 1) acc (t :: r) = (match st1 with
     | .error e => .error e
     | .ok r0 => match aV [61] r0 with
      | .error e => .error e
      | .ok r1 => match bW 1 N r1 with
       | .error e => .error e
       | .ok (x, r2) => bif isH 3 [44] r2 then cz N f (acc ++ [(cj N t.2.1, x)]) r2.tail else .ok (acc ++ [(cj N t.2.1, x)], r2)) →
    ∃ a' C' b' p', cQ l N S_ I Q C acc again (cj N t.2.1) b p c = some (a', C', b', p') ∧ St l (aN (rest (cz N (f + 1) acc (t :: r))) (aV [59])) a' b' p' ∧
     (∀ sets r', cz N (f + 1) acc (t :: r) = .ok (sets, r') → C' = C ++ [(IntKind.i64.wrap ((Q.length : Int) - 1), g5.1, sets)]) := by
   intro st1 c b p hst1 hsh hse
   obtain ⟨x, a1, b1, p1, e1, s1, v1⟩ := OM hl htok hnum N S_ I Q C hN acc (by omega) again (cj N t.2.1) hst1
   rw [e1, ← hag]
   have hM1 : 1 ≤ M := by omega
   obtain ⟨M', rfl⟩ : ∃ m, M = m + 1 := ⟨M - 1, by omega⟩
   cases hX : aE (aN st1 (aV [61])) (bW 1 N) with
   | error e =>
    rw [hX] at s1
    simp only [isS] at s1 ⊢
    obtain ⟨a2, b2, p2, e2, s2⟩ := yF hl N S_ I Q C hC g5 (acc ++ [(cj N t.2.1, x)]) false M' s1 rfl
    have hse' : cz N (f + 1) acc (t :: r) = .error e := by
     rw [hse]
     cases st1 with
     | error e' => simp only [aE, aN] at hX ⊢; cases hX; rfl
     | ok r0 =>
      simp only [aE, aN] at hX ⊢
      cases q1 : aV [61] r0 with
      | error e' => rw [q1] at hX; simp only at hX ⊢; cases hX; rfl
      | ok r1 =>
       rw [q1] at hX; simp only at hX ⊢
       cases q2 : bW 1 N r1 with
       | error e' => rw [q2] at hX; simp only [rest] at hX ⊢; cases hX; rfl
       | ok q => rw [q2] at hX; simp only [rest] at hX; cases hX
    rw [hse']
    exact ⟨_, _, _, _, e2, s2, fun sets r' h => by cases h⟩
   | ok r2 =>
    rw [hX] at s1
    simp only [isS] at s1 ⊢
    obtain ⟨r0, r1, x', hr0, hr1, hr2⟩ : ∃ r0 r1 x', st1 = .ok r0 ∧ aV [61] r0 = .ok r1 ∧ bW 1 N r1 = .ok (x', r2) := by
     cases st1 with
     | error e' => simp only [aE, aN] at hX; cases hX
     | ok r0 =>
      simp only [aE, aN] at hX
      cases q1 : aV [61] r0 with
      | error e' => rw [q1] at hX; cases hX
      | ok r1 =>
       rw [q1] at hX; simp only at hX
       cases q2 : bW 1 N r1 with
       | error e' => rw [q2] at hX; cases hX
       | ok q => rw [q2] at hX; simp only [rest] at hX; cases hX; exact ⟨r0, r1, q.1, rfl, q1, q2⟩
    have hx' : x = x' := v1 r1 x' r2 (by rw [hr0]; simp only [aN, hr1]) hr2
    subst hx'
    rw [hr0] at hse
    simp only [hr1, hr2] at hse
    have hr0r : r0 = r := by rcases hsh with h | ⟨e, h⟩ <;> rw [hr0] at h <;> cases h; rfl
    subst hr0r
    have heR : Pa.Ends r0 := by
     rw [hr0] at hst1
     exact (hst1.ok).choose_spec.choose_spec.choose_spec.2.2.2.1 |> fun h => by
      have := (hst1.ok).choose_spec.choose_spec.choose_spec.2.1
      rw [this]; exact h
    have q1 := fV heR hr1
    have q2 := (jF q1.1 hr2).1
    have q2' : r2.length < r1.length := q2.2
    have q1' : r1.length < r0.length := q1.2
    cases hc : isH 3 [44] r2
    ·rw [hc] at s1 hse
     simp only [cond_false] at s1 hse
     obtain ⟨a2, b2, p2, e2, s2⟩ := yF hl N S_ I Q C hC g5 (acc ++ [(cj N t.2.1, x)]) false M' s1 rfl
     rw [hse]
     exact ⟨_, _, _, _, e2, s2, fun sets r' h => by cases h; rfl⟩
    ·rw [hc] at s1 hse
     simp only [cond_true] at s1 hse
     obtain ⟨t1, t2⟩ := gX q2.1 (by decide) hc
     have t2' : r2.tail.length + 1 = r2.length := t2
     have hlen : (acc ++ [(cj N t.2.1, x)]).length = acc.length + 1 := by simp
     simp only [List.length_cons] at h1 h3 h4
     have hb1 : b1 = 0 ∧ p1 = 0 := by obtain ⟨_, _, _, _, h5, h6⟩ := s1; exact ⟨h5, h6⟩
     obtain ⟨rfl, rfl⟩ := hb1
     obtain ⟨a2, C2, b2, p2, e2, s2, v2⟩ := ih r2.tail (acc ++ [(cj N t.2.1, x)]) a1 (M' + 1) f (by omega) (by omega) (by omega) (by rw [hlen]; omega) s1
     rw [hse]
     exact ⟨_, _, _, _, e2, s2, v2⟩
  cases c1 : (t.1 != 1)
  case true =>
   simp only [cond_true, cO, show ((2 : Int) == 0) = false from rfl, cond_false]
   refine step (.error (2, t.2.2.2)) (k : Int) 2 t.2.2.2 ⟨⟨t, hx⟩, rfl, rfl, rfl⟩ (.inr ⟨_, rfl⟩) ?_
   simp only [cz, c1, cond_true]
  simp only [cond_false]
  cases c2 : (decide (cj N t.2.1 < 0) || mO acc (cj N t.2.1))
  case true =>
   simp only [cond_true, cO, show ((3 : Int) == 0) = false from rfl, cond_false]
   refine step (.error (3, t.2.2.2)) (k : Int) 3 t.2.2.2 ⟨⟨t, hx⟩, rfl, rfl, rfl⟩ (.inr ⟨_, rfl⟩) ?_
   simp only [cz, c1, cond_false, c2, cond_true]
  simp only [cond_false, cO, beq_self_eq_true, cond_true, bM (show k < 4611686018427387904 by omega)]
  have ht1 : t.1 = 1 := by simpa using c1
  refine step (.ok r) ((k + 1 : Nat) : Int) 0 0 ⟨k + 1, rfl, hd1, he.tail (by omega), rfl, rfl⟩ (.inl rfl) ?_
  simp only [cz, c1, cond_false, c2]
  all_goals
   cases aV [61] r with
   | error e => rfl
   | ok r1 =>
    simp only
    cases bW 1 N r1 <;> rfl
include hl htok hnum hN hC in
theorem HA (h : St l st a b p) : ∃ a' C' b' p', cR l a N S_ I Q C b p = some (a', C', b', p') ∧
  St l (aN (aN (aE st (bW 2 N)) (aV [58])) (fun r2 => aN (rest (cz N (r2.length + 1) [] r2)) (aV [59]))) a' b' p' ∧
  (∀ ts g r1 r2 sets r3, st = .ok ts → bW 2 N ts = .ok (g, r1) → aV [58] r1 = .ok r2 → cz N (r2.length + 1) [] r2 = .ok (sets, r3) → C' = C ++ [(IntKind.i64.wrap ((Q.length : Int) - 1), g, sets)]) := by
 obtain ⟨x, a1, b1, p1, e1, s1, v1⟩ := EG hl htok hnum N S_ I Q C h hN 2
 obtain ⟨a2, b2, p2, e2, s2⟩ := om hl N S_ I Q C s1 [58]
 unfold cR
 simp only [e1, aj, e2]
 cases hX : aN (aE st (bW 2 N)) (aV [58]) with
 | error e =>
  rw [hX] at s2
  have hb : (false : Bool) = (b2 == 0) := by rw [s2.2.2.1]; exact s2.2.1.symm
  obtain ⟨a3, b3, p3, e3, s3⟩ := yF hl N S_ I Q C hC (x, a1, b1, p1) [] true 18446744073709551615 s2 (by rw [← hb]; rfl)
  rw [show au = 18446744073709551615 + 1 from rfl, e3]
  refine ⟨_, _, _, _, rfl, s3, fun ts g r1 r2 sets r3 h1 h2 h3 h4 => ?_⟩
  subst h1
  simp only [aE, aN, h2, rest, h3] at hX
  cases hX
 | ok r2 =>
  rw [hX] at s2
  obtain ⟨k, rfl, hd, he, rfl, rfl⟩ := s2
  have hlen : r2.length ≤ l.length := by rw [← hd]; simp
  obtain ⟨a3, C3, b3, p3, e3, s3, v3⟩ := Na hl htok hnum N S_ I Q C hN hC (x, a1, b1, p1) r2.length r2 [] (k : Int) au (r2.length + 1) (Nat.le_refl _) (by show _ ≤ 2 ^ 64; omega) (by omega) (by simp; omega) ⟨k, rfl, hd, he, rfl, rfl⟩
  refine ⟨_, _, _, _, e3, s3, fun ts g r1 r2' sets r3 h1 h2 h3 h4 => ?_⟩
  subst h1
  have hx : x = g := v1 ts g r1 rfl h2
  simp only [aE, aN, h2, rest, h3] at hX
  cases hX
  have := v3 sets r3 h4
  rw [this, hx]
include hl htok hnum hN hC in
theorem NG (h : St l st a b p) : ∃ a' C' b' p', dA l a N S_ I Q C b p = some (a', C', b', p') ∧ St l (aE st (gw (N, S_, I, Q, C))) a' b' p' ∧
  (∀ ts m r, st = .ok ts → gw (N, S_, I, Q, C) ts = .ok (m, r) → m = (N, S_, I, Q, C')) := by
 unfold dA
 have key : ∀ (st1 : Except Err (List Tok)) (b1 p1 : Int), St l st1 a b1 p1 → ((∃ e, st1 = .error e ∧ aE st (gw (N, S_, I, Q, C)) = .error e) ∨ (st1 = st ∧ decide (256 ≤ (C.length : Int)) = false)) →
   ∃ a' C' b' p', cR l a N S_ I Q C b1 p1 = some (a', C', b', p') ∧ St l (aE st (gw (N, S_, I, Q, C))) a' b' p' ∧
    (∀ ts m r, st = .ok ts → gw (N, S_, I, Q, C) ts = .ok (m, r) → m = (N, S_, I, Q, C')) := by
  intro st1 b1 p1 hs hor
  obtain ⟨a', C', b', p', e1, s1, v1⟩ := HA hl htok hnum N S_ I Q C hN hC hs
  refine ⟨a', C', b', p', e1, ?_, ?_⟩
  ·rcases hor with ⟨e, rfl, he⟩ | ⟨rfl, hd⟩
   ·rw [he]; exact s1
   ·have : aE st1 (gw (N, S_, I, Q, C)) = aN (aN (aE st1 (bW 2 N)) (aV [58])) (fun r2 => aN (rest (cz N (r2.length + 1) [] r2)) (aV [59])) := by
     cases st1 with
     | error e => rfl
     | ok ts =>
      simp only [aE, aN, gw, hd, cond_false]
      cases bW 2 N ts with
      | error e => rfl
      | ok q =>
       simp only [rest]
       cases aV [58] q.2 with
       | error e => rfl
       | ok r2 =>
        simp only
        cases cz N (r2.length + 1) [] r2 with
        | error e => rfl
        | ok q3 =>
         simp only
         cases aV [59] q3.2 <;> rfl
    rw [this]; exact s1
  ·intro ts m r h1 h2
   rcases hor with ⟨e, rfl, he⟩ | ⟨rfl, hd⟩
   ·subst h1
    simp only [aE, aN, h2, rest] at he
    cases he
   ·subst h1
    simp only [gw, hd, cond_false] at h2
    cases q1 : bW 2 N ts with
    | error e => rw [q1] at h2; cases h2
    | ok q =>
     obtain ⟨g, r1⟩ := q
     rw [q1] at h2; simp only at h2
     cases q2 : aV [58] r1 with
     | error e => rw [q2] at h2; cases h2
     | ok r2 =>
      rw [q2] at h2; simp only at h2
      cases q3 : cz N (r2.length + 1) [] r2 with
      | error e => rw [q3] at h2; cases h2
      | ok qq =>
       obtain ⟨sets, r3⟩ := qq
       rw [q3] at h2; simp only at h2
       cases q4 : aV [59] r3 with
       | error e => rw [q4] at h2; cases h2
       | ok r4 =>
        rw [q4] at h2; cases h2
        rw [v1 ts g r1 r2 sets r3 rfl q1 q2 q3]
 cases hd : decide (256 ≤ (List.length C : Int))
 ·simp only [cond_false, bu]
  exact key st b p h (.inr ⟨rfl, hd⟩)
 ·simp only [cond_true, bu]
  obtain ⟨q, e0, v0⟩ := Fs N S_ I Q C h
  rw [e0, aj]
  cases st with
  | ok ts =>
   obtain ⟨k, t, r, rfl, rfl, hd', he, rfl, rfl, hx, _⟩ := h.ok
   rw [ju, aj]
   have hq : q = uI (t :: r) := v0 _ rfl
   refine key (.error (9, q)) 9 q ⟨⟨t, hx⟩, rfl, rfl, rfl⟩ (.inl ⟨_, rfl, ?_⟩)
   simp only [aE, aN, gw, hd, cond_true, rest, hq]
  | error e =>
   have he := h.2.1
   have hcopy := h
   obtain ⟨_, _, rfl, rfl⟩ := hcopy
   rw [o9 N S_ I Q C he, aj]
   exact key (.error e) e.1 e.2 h (.inl ⟨e, rfl, rfl⟩)
end
end Sy
end Go.Proofs.YtpnogcmollnjeaaGreatDoor
namespace Go.Proofs.YtpnogcmollnjeaaGreatDoor
namespace Sy
open Pa
theorem Jb : ∀ (f : Nat) (m : Mdl) (ts : List Tok) (p : Mdl × List Tok), Pa.Ends ts → fK f m ts = .ok p → cg ts p.2 := by
 intro f
 induction f with
 | zero => intro _ _ _ _ h; simp [fK] at h
 | succ f ih =>
  intro m ts p he h
  simp only [fK] at h
  cases hc : isH 3 [125] ts
  ·rw [hc] at h
   simp only [cond_false] at h
   cases h1 : gw m ts with
   | error e => rw [h1] at h; cases h
   | ok q =>
    obtain ⟨m', r⟩ := q
    rw [h1] at h
    simp only at h
    have s1 : cg ts r := (y9 he h1).1
    exact s1.trans (ih m' r p s1.1 h)
  ·rw [hc] at h
   cases h
   obtain ⟨h1, h2⟩ := gX he (by decide) hc
   exact ⟨h1, by show ts.tail.length < ts.length; omega⟩
abbrev R8 := Int × List Str × List (Int × Int) × List Int × List Str × List Cmd × Int × Int
abbrev RP := Mdl × Int × Int
section
variable {l : List Tok} (hl : l.length < 1000000000) (htok : ∀ t ∈ l, dy t) (hnum : ∀ t ∈ l, n9 t)
variable {st : Except Err (List Tok)} {a b p : Int} (N : List Str) (S_ : List (Int × Int)) (I : List Int) (Q : List Str)
variable (hN : N.length < 1000000000) (hQ : Q.length < 1000000000)
theorem sH {C : List Cmd} (e1 e2 : Int) (again46 : R8 → Option RP) (nm : Str × Int × Int × Int) (hl : l.length < 1099511627776) (M : Nat) (h : St l st a b p) (en : Bool) (hb : ((b == 0) && !en) = false) :
  ∃ a' b' p', an (dw (l, e1, e2) Q again46 N S_ I nm) (M + 1) (a, C, b, p, en) = again46 (a', N, S_, I, Q ++ [nm.1], C, b', p') ∧ St l (aN st (aV [125])) a' b' p' := by
 obtain ⟨a', b', p', e3, s3⟩ := om hl N S_ I (Q ++ [nm.1]) C h [125]
 rw [ao]
 simp only [dw, bu, hb, cond_false, e3, aj]
 exact ⟨_, _, _, rfl, s3⟩
include hl htok hnum hN hQ in
theorem L8 (e1 e2 : Int) (again46 : R8 → Option RP) (nm : Str × Int × Int × Int) : ∀ (n : Nat) (ts : List Tok) (C : List Cmd) (a : Int) (M f : Nat), ts.length ≤ n → n + 2 ≤ M → ts.length < f → C.length + ts.length < 1099511627776 - 1 → St l (.ok ts) a 0 0 →
  ∃ a' C' b' p', an (dw (l, e1, e2) Q again46 N S_ I nm) M (a, C, 0, 0, isH 3 [125] ts) = again46 (a', N, S_, I, Q ++ [nm.1], C', b', p') ∧
   St l (rest (fK f (N, S_, I, Q ++ [nm.1], C) ts)) a' b' p' ∧ (∀ m r, fK f (N, S_, I, Q ++ [nm.1], C) ts = .ok (m, r) → m = (N, S_, I, Q ++ [nm.1], C') ∧ C'.length + r.length < C.length + ts.length) := by
 have hQ' : (Q ++ [nm.1]).length < 1099511627776 := by simp; omega
 intro n
 induction n with
 | zero =>
  intro ts C a M f h1 _ _ _ hs
  obtain ⟨k, t, r, _, rfl, _⟩ := hs.ok
  simp at h1
 | succ n ih =>
  intro ts C a M f h1 h2 h3 h4 hs
  obtain ⟨M, rfl⟩ : ∃ m, M = m + 1 := ⟨M - 1, by omega⟩
  obtain ⟨f, rfl⟩ : ∃ m, f = m + 1 := ⟨f - 1, by omega⟩
  have hE : Pa.Ends ts := by obtain ⟨_, _, _, h, _⟩ := hs; exact h
  cases hc : isH 3 [125] ts
  · -- a command
   have hsc : fK (f + 1) (N, S_, I, Q ++ [nm.1], C) ts = (match gw (N, S_, I, Q ++ [nm.1], C) ts with | .error e => .error e | .ok (m', r) => fK f m' r) := by
    simp only [fK, hc, cond_false]
    all_goals (cases gw (N, S_, I, Q ++ [nm.1], C) ts <;> rfl)
   obtain ⟨a1, C1, b1, p1, e3, s1, v1⟩ := NG (by omega) htok hnum N S_ I (Q ++ [nm.1]) C (by omega) (by omega) hs
   have e4 := rD N S_ I (Q ++ [nm.1]) C1 s1 3 [125]
   rw [ao]
   simp only [dw, bu, beq_self_eq_true, Bool.not_false, Bool.and_self, cond_true, e3, aj, e4]
   cases hq : gw (N, S_, I, Q ++ [nm.1], C) ts with
   | error e =>
    have hX : aE (.ok ts) (gw (N, S_, I, Q ++ [nm.1], C)) = .error e := by simp only [aE, aN, hq, rest]
    rw [hX] at s1
    simp only [hX, isS]
    obtain ⟨M', rfl⟩ : ∃ m, M = m + 1 := ⟨M - 1, by omega⟩
    have hb1 : (b1 == 0) = false := by rw [s1.2.2.1]; exact s1.2.1
    obtain ⟨a2, b2, p2, e5, s2⟩ := sH N S_ I Q (C := C1) e1 e2 again46 nm (by omega) M' s1 false (by rw [hb1]; rfl)
    rw [hsc, hq]
    exact ⟨_, _, _, _, e5, s2, fun m r h => by cases h⟩
   | ok q =>
    obtain ⟨m', r⟩ := q
    have hX : aE (.ok ts) (gw (N, S_, I, Q ++ [nm.1], C)) = .ok r := by simp only [aE, aN, hq, rest]
    rw [hX] at s1
    simp only [hX, isS]
    have hm' := v1 ts m' r rfl hq
    obtain ⟨sh, g, r1, r2, sets, r3, _, _, _, _, hp, _⟩ := y9 hE hq
    have hC1 : C1 = C ++ [(IntKind.i64.wrap (((Q ++ [nm.1]).length : Int) - 1), g, sets)] := by
     simp only at hp
     rw [hm'] at hp
     simp only [Prod.mk.injEq, true_and] at hp
     exact hp
    have hC1l : C1.length = C.length + 1 := by rw [hC1]; simp
    have shr : r.length < ts.length := sh.2
    have hb1 : b1 = 0 ∧ p1 = 0 := by obtain ⟨_, _, _, _, h5, h6⟩ := s1; exact ⟨h5, h6⟩
    obtain ⟨rfl, rfl⟩ := hb1
    obtain ⟨a2, C2, b2, p2, e5, s2, v2⟩ := ih r C1 a1 M f (by omega) (by omega) (by omega) (by omega) s1
    rw [hsc, hq]
    simp only
    rw [hm']
    exact ⟨_, _, _, _, e5, s2, fun m r' h => ⟨(v2 m r' h).1, by have := (v2 m r' h).2; omega⟩⟩
  ·have hsc : fK (f + 1) (N, S_, I, Q ++ [nm.1], C) ts = .ok ((N, S_, I, Q ++ [nm.1], C), ts.tail) := by simp only [fK, hc, cond_true]
   obtain ⟨a2, b2, p2, e5, s2⟩ := sH N S_ I Q (C := C) e1 e2 again46 nm (by omega) M hs true (by simp)
   rw [hsc]
   refine ⟨_, _, _, _, e5, ?_, fun m r h => by cases h; exact ⟨rfl, by have := (gX hE (by decide) hc).2; omega⟩⟩
   have : aN (.ok ts) (aV [125]) = rest (.ok ((N, S_, I, Q ++ [nm.1], C), ts.tail) : Except Err (Mdl × List Tok)) := by
    obtain ⟨t, r, rfl⟩ := hE.ne
    simp only [aN, aV, rest, List.tail_cons]
    simp only [isH] at hc
    rw [hc]; rfl
   rw [← this]; exact s2
noncomputable def Big (m : Mdl) (ts : List Tok) : Prop := m.1.length + ts.length < 1000000000 ∧ m.2.1.length + ts.length < 1000000000 ∧ m.2.2.1.length + ts.length < 1000000000 ∧ m.2.2.2.1.length + ts.length < 1000000000 ∧ m.2.2.2.2.length + ts.length < 1000000000
theorem xt {e3 e4 : Int} (e1 e2 : Int) (m : Mdl) (h : St l (.error (e3, e4)) a b p) (M : Nat) : an (cD (l, e1, e2)) (M + 1) (a, m.1, m.2.1, m.2.2.1, m.2.2.2.1, m.2.2.2.2, b, p) = some (([], [], [], [], []), e3, e4) := by
 obtain ⟨⟨t, hx⟩, he, rfl, rfl⟩ := h
 rw [ao]
 simp only at he
 have hb : (b != 0) = true := by simp only [bne, he, Bool.not_false]
 simp only [cD, bu, he, kC, Bool.false_and, cond_false, eV, aC, hx, aj, aq, hb, cond_true]
 cases ((List.length m.1 : Int) == 0) <;> rfl
include hl htok hnum in
theorem JW (e1 e2 : Int) : ∀ (n : Nat) (ts : List Tok) (m : Mdl) (a : Int) (M f : Nat), ts.length ≤ n → n + 2 ≤ M → ts.length < f → Big m ts → St l (.ok ts) a 0 0 →
  an (cD (l, e1, e2)) M (a, m.1, m.2.1, m.2.2.1, m.2.2.2.1, m.2.2.2.2, 0, 0) = some (wu (iA f m ts)) := by
 intro n
 induction n with
 | zero =>
  intro ts m a M f h1 _ _ _ hs
  obtain ⟨k, t, r, _, rfl, _⟩ := hs.ok
  simp at h1
 | succ n ih =>
  intro ts m a M f h1 h2 h3 hB hs
  obtain ⟨M, rfl⟩ : ∃ m, M = m + 1 := ⟨M - 1, by omega⟩
  obtain ⟨f, rfl⟩ : ∃ m, f = m + 1 := ⟨f - 1, by omega⟩
  obtain ⟨k, t, r, rfl, rfl, hd, he, _, _, hx, hm, hd1, hk⟩ := hs.ok
  obtain ⟨N, S_, I, Q, C⟩ := m
  obtain ⟨B1, B2, B3, B4, B5⟩ := hB
  simp only [List.length_cons] at B1 B2 B3 B4 B5 h1 h3
  have iv := rD N S_ I Q C hs 1 [118, 97, 114]
  have ip := rD N S_ I Q C hs 1 [112, 114, 111, 99]
  rw [ao]
  generalize hag : an (cD (l, e1, e2)) M = again
  simp only [cD, bu, beq_self_eq_true, dT, hx, aj, Bool.true_and]
  have hsi : iA (f + 1) (N, S_, I, Q, C) (t :: r) = (bif t.1 == 4 then (bif N.isEmpty then .error (2, t.2.2.2) else .ok (N, S_, I, Q, C))
   else bif isT 1 [118, 97, 114] t then (match iM (N, S_, I, Q, C) r with
    | .error e => .error e
    | .ok (m', r') => iA f m' r')
   else bif isT 1 [112, 114, 111, 99] t then (match kb (N, S_, I, Q, C) r with
    | .error e => .error e
    | .ok (m', r') => iA f m' r')
   else .error (2, t.2.2.2)) := by
   simp only [iA]
   all_goals (cases iM (N, S_, I, Q, C) r <;> cases kb (N, S_, I, Q, C) r <;> rfl)
  cases c4 : (t.1 == 4)
  case true =>
   have c4' : (t.1 != 4) = false := by simp only [bne, c4, Bool.not_true]
   rw [hsi, c4]
   simp only [c4', cond_false, cond_true]
   have hne : ((List.length N : Int) == 0) = N.isEmpty := by cases N with
    | nil => rfl
    | cons x r => simp only [List.length_cons, List.isEmpty_cons]; exact beq_eq_false_iff_ne.2 (by omega)
   rw [hne]
   cases N.isEmpty
   ·simp only [cond_false, eV, bne_self_eq_false, wu]
   ·simp only [cond_true, aC, hx, aj, ju, eV, wu]; rfl
  have c4' : (t.1 != 4) = true := by simp only [bne, c4, Bool.not_false]
  simp only [isS, isH] at iv ip
  simp only [c4', cond_true, iv, ip, aj]
  have hE1 : Pa.Ends r := he.tail (by simpa using c4)
  have hs1 : St l (.ok r) ((k + 1 : Nat) : Int) 0 0 := ⟨k + 1, rfl, hd1, hE1, rfl, rfl⟩
  have wk : IntKind.i64.wrap ((k : Int) + 1) = ((k + 1 : Nat) : Int) := bM (by omega)
  obtain ⟨M', hM'⟩ : ∃ m, M = m + 1 := ⟨M - 1, by omega⟩
  cases cv : isT 1 [118, 97, 114] t
  ·cases cp : isT 1 [112, 114, 111, 99] t
   · -- neither
    rw [hsi, c4, cv, cp]
    simp only [cond_false, Bool.not_false, Bool.and_self, cond_true, aC, hx, aj, ju, eX, show ((2 : Int) == 0) = false from rfl, eS, eY, bu]
    rw [← hag, hM']
    exact xt (e3 := 2) (e4 := t.2.2.2) e1 e2 (N, S_, I, Q, C) ⟨⟨t, hx⟩, rfl, rfl, rfl⟩ M'
   · -- a process
    rw [hsi, c4, cv, cp]
    simp only [cond_false, Bool.not_true, Bool.not_false, Bool.and_false, cond_true, eX, beq_self_eq_true, eS, eY, wk, bu]
    obtain ⟨nm, a1, b1, p1, e3, s1, v1⟩ := Ff (by omega) N S_ I Q C hs1 (by omega) (by omega) false
    have k1 : az (List.length Q + List.length ([nm] : List Str)) 16 = true := cN (by simp; omega) (by simp; omega)
    obtain ⟨a2, b2, p2, e4, s2⟩ := om (by omega) N S_ I (Q ++ [nm]) C s1 [123]
    have e5 := rD N S_ I (Q ++ [nm]) C s2 3 [125]
    simp only [e3, aj, c7 k1, e4, e5]
    cases hq : aN (aE (.ok r) (cL false N Q)) (aV [123]) with
    | error e =>
     rw [hq] at s2
     have hb1 : (b2 == 0) = false := by rw [s2.2.2.1]; exact s2.2.1
     obtain ⟨a3, b3, p3, e6, s3⟩ := sH N S_ I Q (C := C) e1 e2 again (nm, a1, b1, p1) (by omega) 18446744073709551615 s2 false (by rw [hb1]; rfl)
     simp only [isS]
     rw [show au = 18446744073709551615 + 1 from rfl, e6]
     have hp : kb (N, S_, I, Q, C) r = .error e := by
      simp only [kb]
      simp only [aE, aN] at hq
      cases q1 : cL false N Q r with
      | error e' => rw [q1] at hq; simp only [rest] at hq ⊢; cases hq; rfl
      | ok q =>
       rw [q1] at hq; simp only [rest] at hq ⊢
       rw [hq]
     rw [hp]
     simp only [aN] at s3
     obtain ⟨ee1, ee2⟩ := e
     rw [← hag, hM']
     exact xt e1 e2 (N, S_, I, Q ++ [nm], C) s3 M'
    | ok r2 =>
     rw [hq] at s2
     obtain ⟨r1, hr1, hr2⟩ : ∃ r1, cL false N Q r = .ok (nm, r1) ∧ aV [123] r1 = .ok r2 := by
      simp only [aE, aN] at hq
      cases q1 : cL false N Q r with
      | error e' => rw [q1] at hq; cases hq
      | ok q =>
       obtain ⟨nm', r1⟩ := q
       rw [q1] at hq; simp only [rest] at hq
       have := v1 r nm' r1 rfl q1
       subst this
       exact ⟨r1, rfl, hq⟩
     have hb : b2 = 0 ∧ p2 = 0 := by obtain ⟨_, _, _, _, h5, h6⟩ := s2; exact ⟨h5, h6⟩
     obtain ⟨rfl, rfl⟩ := hb
     have sh1 := (wQ hE1 hr1).1
     have sh2 := fV sh1.1 hr2
     have l1 : r1.length < r.length := sh1.2
     have l2 : r2.length < r1.length := sh2.2
     have hp : kb (N, S_, I, Q, C) r = fK (r2.length + 1) (N, S_, I, Q ++ [nm], C) r2 := by simp only [kb, hr1, hr2]
     have hle : r2.length ≤ l.length := by obtain ⟨k2, _, h, _⟩ := s2; rw [← h]; simp
     obtain ⟨a3, C3, b3, p3, e6, s3, v3⟩ := L8 hl htok hnum N S_ I Q (by omega) (by omega) e1 e2 again (nm, a1, b1, p1) r2.length r2 C a2 au (r2.length + 1) (Nat.le_refl _) (by show _ ≤ 2 ^ 64; omega) (by omega) (by omega) s2
     simp only [isS]
     rw [e6, hp]
     cases hcm : fK (r2.length + 1) (N, S_, I, Q ++ [nm], C) r2 with
     | error e =>
      rw [hcm] at s3
      simp only [rest] at s3
      obtain ⟨ee1, ee2⟩ := e
      rw [← hag, hM']
      exact xt e1 e2 (N, S_, I, Q ++ [nm], C3) s3 M'
     | ok q =>
      obtain ⟨m', r'⟩ := q
      rw [hcm] at s3
      simp only [rest] at s3
      obtain ⟨hm', hlen⟩ := v3 m' r' hcm
      have sh3 := Jb _ _ _ _ sh2.1 hcm
      have l3 : r'.length < r2.length := sh3.2
      have hb : b3 = 0 ∧ p3 = 0 := by obtain ⟨_, _, _, _, h5, h6⟩ := s3; exact ⟨h5, h6⟩
      obtain ⟨rfl, rfl⟩ := hb
      simp only
      rw [← hag, hm']
      have hQl : (Q ++ [nm]).length = Q.length + 1 := by simp
      exact ih r' (N, S_, I, Q ++ [nm], C3) a3 M f (by omega) (by omega) (by omega) ⟨by simp only; omega, by simp only; omega, by simp only; omega, by simp only; omega, by simp only; omega⟩ s3
  · -- a variable
   have cp : isT 1 [112, 114, 111, 99] t = false := by
    unfold isT at cv ⊢
    simp only [Bool.and_eq_true, beq_iff_eq] at cv
    rw [cv.2]
    simp
   rw [hsi, c4, cv]
   simp only [cond_false, Bool.not_true, Bool.false_and, cond_true, eX, beq_self_eq_true, eS, cp, wk, bu]
   obtain ⟨a1, N', S', I', b1, p1, e3, s1, v1⟩ := NL (by omega) N S_ I Q C (by omega) (by omega) (by omega) (by omega) hs1
   simp only [e3, aj, eY, cond_false]
   cases hq : iM (N, S_, I, Q, C) r with
   | error e =>
    simp only [aE, aN, hq, rest] at s1
    obtain ⟨ee1, ee2⟩ := e
    rw [← hag, hM']
    exact xt e1 e2 (N', S', I', Q, C) s1 M'
   | ok q =>
    obtain ⟨m', r'⟩ := q
    simp only [aE, aN, hq, rest] at s1
    have hm' := v1 r m' r' rfl hq
    obtain ⟨sh, name, lo, hi, first, hp, _⟩ := Eo hE1 hq
    have l1 : r'.length < r.length := sh.2
    have hb : b1 = 0 ∧ p1 = 0 := by obtain ⟨_, _, _, _, h5, h6⟩ := s1; exact ⟨h5, h6⟩
    obtain ⟨rfl, rfl⟩ := hb
    simp only
    simp only at hp
    rw [hm'] at hp
    simp only [Prod.mk.injEq, and_true] at hp
    obtain ⟨hp1, hp2, hp3⟩ := hp
    have q1 : N'.length = N.length + 1 := by rw [hp1]; simp
    have q2 : S'.length = S_.length + 1 := by rw [hp2]; simp
    have q3 : I'.length = I.length + 1 := by rw [hp3]; simp
    rw [← hag, hm']
    exact ih r' (N', S', I', Q, C) a1 M f (by omega) (by omega) (by omega) ⟨by simp only; omega, by simp only; omega, by simp only; omega, by simp only; omega, by simp only; omega⟩ s1
end
theorem Kt {text : Str} {l : List Tok} (ht : cZ text = some (l, 0, 0)) (hl : l.length < 500000000) (htok : ∀ t ∈ l, dy t) (hnum : ∀ t ∈ l, n9 t) (he : Pa.Ends l) :
  cG text = some (wu (sys l)) := by
 unfold cG
 rw [ht, aj]
 simp only [bne_self_eq_false, cond_false]
 exact JW (by omega) htok hnum 0 0 l.length l ([], [], [], [], []) 0 au (l.length + 1) (Nat.le_refl _) (by show _ ≤ 2 ^ 64; omega) (by omega) ⟨by simp; omega, by simp; omega, by simp; omega, by simp; omega, by simp; omega⟩ ⟨0, rfl, rfl, he, rfl, rfl⟩
end Sy
end Go.Proofs.YtpnogcmollnjeaaGreatDoor
namespace Go.Proofs.YtpnogcmollnjeaaGreatDoor
namespace Sy
open Pa
theorem Kj (text : Str) : cG text = some (wu (wB text)) := by
 unfold wB
 by_cases h : 65536 < text.length
 ·rw [if_pos h]
  unfold cG
  rw [Lx.tS]
  unfold Lx.tokens
  rw [if_pos h]
  rfl
 ·rw [if_neg h]
  have ht : cZ text = some (Lx.res (Lx.lex text)) := by rw [Lx.tS, Lx.FB (by omega)]
  cases hl : Lx.lex text with
  | ok l =>
   rw [hl] at ht
   have hg := CN hl
   exact Kt ht (by have := hg.len; omega) hg.ok hg.num hg.ends
  | error e =>
   rw [hl] at ht
   have hne : (e.1 != 0) = true := bne_iff_ne.2 (Dr _ _ _ _ hl)
   unfold cG
   rw [ht, aj]
   simp only [Lx.res, hne, cond_true, wu]
end Sy
end Go.Proofs.YtpnogcmollnjeaaGreatDoor
namespace Go.Proofs.YtpnogcmollnjeaaGreatDoor
namespace Sp
theorem ED (d : Nat) (h : d < 10) : Lx.dig (UInt8.ofNat (48 + d)) = d ∧ Lx.isDigit (UInt8.ofNat (48 + d)) = true := by
 have : d = 0 ∨ d = 1 ∨ d = 2 ∨ d = 3 ∨ d = 4 ∨ d = 5 ∨ d = 6 ∨ d = 7 ∨ d = 8 ∨ d = 9 := by omega
 rcases this with rfl | rfl | rfl | rfl | rfl | rfl | rfl | rfl | rfl | rfl <;> exact ⟨rfl, rfl⟩
theorem wj : ∀ (N n : Nat), n ≤ N → Lx.c9 0 (Lib.decDigits n) = n ∧ (Lib.decDigits n).all Lx.isDigit = true ∧ Lib.decDigits n ≠ [] := by
 intro N
 induction N with
 | zero =>
  intro n h
  obtain rfl : n = 0 := by omega
  rw [Lib.decDigits, dif_pos (by omega)]
  exact ⟨rfl, rfl, by simp⟩
 | succ N ih =>
  intro n h
  rw [Lib.decDigits]
  split
  ·rename_i hn
   obtain ⟨h1, h2⟩ := ED n hn
   refine ⟨?_, by simp only [List.all_cons, h2, List.all_nil, Bool.and_self], by simp⟩
   show 10 * 0 + Lx.dig (UInt8.ofNat (48 + n)) = n
   rw [h1]; omega
  ·rename_i hn
   obtain ⟨h1, h2⟩ := ED (n % 10) (by omega)
   obtain ⟨i1, i2, _⟩ := ih (n / 10) (by omega)
   refine ⟨?_, by simp only [List.all_append, i2, List.all_cons, h2, List.all_nil, Bool.and_self], by simp⟩
   unfold Lx.c9 at *
   rw [List.foldl_append, i1]
   show 10 * ((n / 10 : Nat) : Int) + Lx.dig (UInt8.ofNat (48 + n % 10)) = n
   rw [h1]; omega
theorem Ek {m n : Nat} (h : Lib.decDigits m = Lib.decDigits n) : m = n := by
 have h1 := (wj m m (Nat.le_refl _)).1
 have h2 := (wj n n (Nat.le_refl _)).1
 rw [h, h2] at h1
 omega
theorem vL {c : UInt8} (h : Lx.isDigit c = true) : c ≠ 45 ∧ c ≠ 32 := by
 constructor <;> (intro e; subst e; cases h)
theorem yW (n : Nat) : ∀ c ∈ Lib.decDigits n, Lx.isDigit c = true := fun c hc => List.all_eq_true.1 (wj n n (Nat.le_refl _)).2.1 c hc
theorem Kh {x y : Int} (h : Lib.itoa x = Lib.itoa y) : x = y := by
 have hh : ∀ (m n : Nat), Lib.decDigits m ≠ 45 :: Lib.decDigits n := fun m n e => by
  have := yW m 45 (by rw [e]; simp)
  exact (vL this).1 rfl
 unfold Lib.itoa at h
 split at h <;> split at h
 ·have := Ek (List.cons.inj h).2
  omega
 ·exact absurd h.symm (hh _ _)
 ·exact absurd h (hh _ _)
 ·have := Ek h
  omega
theorem zT (x : Int) : ∀ c ∈ Lib.itoa x, c ≠ 32 := by
 intro c hc
 unfold Lib.itoa at hc
 split at hc
 ·rcases List.mem_cons.1 hc with rfl | hc
  ·decide
  ·exact (vL (yW _ c hc)).2
 ·exact (vL (yW _ c hc)).2
theorem qw : ∀ (k u : Nat), u < 10 ^ (k + 1) → Lib.nDigits u ≤ k + 1
 | 0, u, h => by rw [Lib.nDigits_small (by simpa using h)]; omega
 | k + 1, u, h => by
  by_cases hu : u < 10
  ·rw [Lib.nDigits_small hu]; omega
  ·rw [Lib.nDigits_big hu]
   have := qw k (u / 10) (by rw [Nat.div_lt_iff_lt_mul (by omega), ← Nat.pow_succ]; exact h)
   omega
theorem Al {n : Int} (h0 : -9223372036854775808 ≤ n) (h1 : n ≤ 9223372036854775807) : (Lib.itoa n).length ≤ 20 := by
 unfold Lib.itoa
 split
 ·rw [List.length_cons, Lib.decDigits_length]
  have := qw 18 n.natAbs (by omega)
  omega
 ·rw [Lib.decDigits_length]
  have := qw 18 n.toNat (by omega)
  omega
noncomputable def cU (v : List Int) : Str := v.flatMap fun n => Lib.itoa n ++ [32]
theorem Mj {a b r s : Str} (ha : ∀ c ∈ a, c ≠ 32) (hb : ∀ c ∈ b, c ≠ 32) (h : a ++ 32 :: r = b ++ 32 :: s) : a = b ∧ r = s := by
 induction a generalizing b with
 | nil =>
  cases b with
  | nil => simp only [List.nil_append, List.cons.injEq, true_and] at h; exact ⟨rfl, h⟩
  | cons c b => simp only [List.nil_append, List.cons_append, List.cons.injEq] at h; exact absurd h.1.symm (hb c (by simp))
 | cons c a ih =>
  cases b with
  | nil => simp only [List.nil_append, List.cons_append, List.cons.injEq] at h; exact absurd h.1 (ha c (by simp))
  | cons d b =>
   simp only [List.cons_append, List.cons.injEq] at h
   obtain ⟨rfl, h⟩ := h
   obtain ⟨rfl, h2⟩ := ih (fun c hc => ha c (List.mem_cons_of_mem _ hc)) (fun c hc => hb c (List.mem_cons_of_mem _ hc)) h
   exact ⟨rfl, h2⟩
theorem Bz : ∀ {a b : List Int}, cU a = cU b → a = b
 | [], [], _ => rfl
 | [], y :: b, h => by
  simp only [cU, List.flatMap_nil, List.flatMap_cons] at h
  have := congrArg List.length h
  simp at this
 | x :: a, [], h => by
  simp only [cU, List.flatMap_nil, List.flatMap_cons] at h
  have := congrArg List.length h
  simp at this
 | x :: a, y :: b, h => by
  simp only [cU, List.flatMap_cons, List.append_assoc, List.singleton_append] at h
  obtain ⟨h1, h2⟩ := Mj (zT x) (zT y) h
  rw [Kh h1, Bz h2]
theorem JV (a b : List Int) : cU (a ++ b) = cU a ++ cU b := by simp [cU]
theorem A1 (s : Str) : strOf (bytesOf s) = s := by
 induction s with
 | nil => rfl
 | cons c s ih =>
  simp only [strOf, bytesOf, List.map_cons, List.map_map] at ih ⊢
  rw [ih]; simp
theorem vg (a b : Str) : bytesOf (a ++ b) = bytesOf a ++ bytesOf b := by simp [bytesOf]
theorem mL (s : Str) : (bytesOf s).length = s.length := by simp [bytesOf]
noncomputable def I64 (v : List Int) : Prop := ∀ n ∈ v, -9223372036854775808 ≤ n ∧ n ≤ 9223372036854775807
theorem IP {v : List Int} (h : I64 v) : (cU v).length ≤ 21 * v.length := by
 induction v with
 | nil => simp [cU]
 | cons n v ih =>
  have h1 := h n (by simp)
  have := Al h1.1 h1.2
  have := ih (fun m hm => h m (List.mem_cons_of_mem _ hm))
  simp only [cU, List.flatMap_cons, List.length_append, List.length_cons, List.length_nil] at *
  omega
theorem copy_eq (f : Bool) (l : List Int) : dK f l = some true := by cases f <;> rfl
theorem O7 {s : Str} {l : List Int} (f : Bool) (h : l.length + s.length ≤ 140737488355328) : dm s f l = some ((s.length : Int), true, l ++ bytesOf s) := by
 unfold dm
 rw [copy_eq, aj, Sy.c7 (Sy.cN (by omega) (by omega))]
theorem O2 {l : List Int} (c : Int) (f : Bool) (h : l.length + 1 ≤ 140737488355328) : dJ c f l = some (true, l ++ [c]) := by
 unfold dJ
 rw [copy_eq, aj, Sy.c7 (Sy.cN (by simp; omega) (by simp; omega))]
theorem HN (f : Bool) {s : Str} (h : bytesOf s ≠ []) : eR f (bytesOf s) = some s := by
 have e : strOf (bytesOf s) = s := A1 s
 cases hb : bytesOf s with
 | nil => exact absurd hb h
 | cons c l =>
  rw [hb] at e
  unfold eR
  rw [show idx (c :: l) 0 = some c from rfl, aj, Sy.c7 (by simp), e]
theorem Ou {x : Int} (h : ze x = true) : A7 x = some (Lib.itoa x) := Sy.c7 h _
theorem Ae (v : List Int) (hv : I64 v) (hl : v.length < 1000000000) (hne : v ≠ []) : ∀ (r pre : List Int), v = pre ++ r → ∀ (M : Nat) (f : Bool), r.length < M →
  an (lM v) M (f, bytesOf (cU pre), (pre.length : Int)) = some (cU v)
 | [], pre, h, M, f, hM => by
  obtain ⟨m, rfl⟩ : ∃ m, M = m + 1 := ⟨M - 1, by simp at hM; omega⟩
  rw [ao]
  have e : pre = v := by simpa using h.symm
  subst e
  simp only [lM, decide_eq_false (show ¬ ((pre.length : Int) < (List.length pre : Int)) by omega), cond_false]
  rw [HN, aj]
  cases pre with
  | nil => exact absurd rfl hne
  | cons x r =>
   intro e
   have : (bytesOf (cU (x :: r))).length ≠ 0 := by rw [mL]; simp [cU]
   rw [e] at this
   exact this rfl
 | x :: r, pre, h, M, f, hM => by
  obtain ⟨m, rfl⟩ : ∃ m, M = m + 1 := ⟨M - 1, by omega⟩
  rw [ao]
  have hx := hv x (by rw [h]; simp)
  have hlen : pre.length + r.length + 1 = v.length := by rw [h]; simp; omega
  have hi : ze x = true := B8.2 hx
  have hp : I64 pre := fun n hn => hv n (by rw [h]; exact List.mem_append_left _ hn)
  have hb := IP hp
  have hxl := Al hx.1 hx.2
  have ih := Ae v hv hl hne r (pre ++ [x]) (by rw [h]; simp) m true (by simp at hM; omega)
  rw [show ((pre ++ [x]).length : Int) = ((pre.length + 1 : Nat) : Int) by simp] at ih
  have e1 : bytesOf (cU (pre ++ [x])) = (bytesOf (cU pre) ++ bytesOf (Lib.itoa x)) ++ [32] := by
   rw [JV, vg]
   simp only [cU, List.flatMap_cons, List.flatMap_nil, List.append_nil, vg, List.append_assoc]
   rfl
  rw [e1] at ih
  simp only [lM, Sy.fk h, cond_true, Sy.mid h, aj, Ou hi]
  rw [O7 f (by rw [mL]; omega), aj]
  simp only
  rw [O2 32 true (by rw [List.length_append, mL, mL]; omega), aj]
  simp only [Pa.bM (show pre.length < 4611686018427387904 by omega)]
  exact ih
theorem Mz {v : List Int} (hv : I64 v) (hl : v.length < 1000000000) (hne : v ≠ []) : uf v = some (cU v) :=
 Ae v hv hl hne v [] rfl au false (by show v.length < 2 ^ 64; omega)
/-! sets of states -/
noncomputable def jK (l : List (List Int)) (v : List Int) : List (List Int) := if l.contains v then l else l ++ [v]
noncomputable def lC (acc l : List (List Int)) : List (List Int) := l.foldl jK acc
noncomputable def Seen (l : List (List Int)) (at_ : Option (List (Str × Bool))) : Prop := (at_ = none → l = []) ∧ ∀ v, ka at_ (cU v) false = l.contains v
theorem JQ : Seen [] none := ⟨fun _ => rfl, fun _v => rfl⟩
theorem HK (l : List (Str × Bool)) (k k' : Str) : (lR (lZ l k true) k').getD false = ((k' == k) || (lR l k').getD false) := by
 induction l with
 | nil =>
  simp only [lZ, lR]
  cases hk : (k' == k) <;> rfl
 | cons p l ih =>
  simp only [lZ]
  cases h1 : (k == p.1)
  ·simp only [cond_false, lR]
   cases h2 : (k' == p.1)
   ·simp only [cond_false]; exact ih
   ·simp only [cond_true]
    have e1 : k' = p.1 := by simpa using h2
    have e2 : (k' == k) = false := by
     rw [beq_eq_false_iff_ne] at h1 ⊢
     intro e; exact h1 (by rw [← e, e1])
    rw [e2, Bool.false_or]
  ·simp only [cond_true, lR]
   have e1 : k = p.1 := by simpa using h1
   cases h2 : (k' == k)
   ·simp only [cond_false, Bool.false_or]
    have : (k' == p.1) = false := by rw [← e1]; exact h2
    rw [this]; rfl
   ·rfl
theorem add_eq {v : List Int} {l : List (List Int)} {at_ : Option (List (Str × Bool))} (hv : I64 v) (hl : v.length < 1000000000) (hne : v ≠ []) (hll : l.length < 1000000000) (hs : Seen l at_) :
  ∃ at', fy v l at_ = some (jK l v, at') ∧ Seen (jK l v) at' := by
 have k1 : az (List.length l + List.length ([v] : List (List Int))) 24 = true := Sy.cN (by simp; omega) (by simp; omega)
 have key : ∀ mp : List (Str × Bool), Seen l (some mp) → ∃ at', kA v l (some mp) = some (jK l v, at') ∧ Seen (jK l v) at' := fun mp hs => by
  unfold kA
  rw [Mz hv hl hne, aj, hs.2 v]
  unfold jK
  cases hc : l.contains v
  ·simp only [Bool.not_false, cond_true, aj, Sy.c7 k1, Bool.false_eq_true, if_false]
   refine ⟨_, rfl, (fun h => by cases h), fun u => ?_⟩
   have h1 := hs.2 u
   unfold ka at h1 ⊢
   simp only [Option.getD_some] at h1 ⊢
   rw [HK, h1]
   have e : (cU u == cU v) = (u == v) := by
    by_cases h : u = v
    ·rw [h]; simp
    ·rw [beq_eq_false_iff_ne.2 h, beq_eq_false_iff_ne.2 (fun e => h (Bz e))]
   rw [e]
   simp only [List.contains_eq_any_beq, List.any_append, List.any_cons, List.any_nil, Bool.or_false]
   rw [Bool.or_comm]
  ·simp only [Bool.not_true, cond_false, if_true]
   exact ⟨_, rfl, hs⟩
 unfold fy
 cases at_ with
 | none =>
  simp only [Option.isNone_none, cond_true]
  refine key [] ⟨(fun h => by cases h), fun u => ?_⟩
  exact hs.2 u
 | some mp =>
  simp only [Option.isNone_some, cond_false]
  exact key mp hs
theorem wP (l : List (List Int)) (v : List Int) : (jK l v).length ≤ l.length + 1 := by
 unfold jK; split <;> simp
theorem BN {l : List (List Int)} {v u : List Int} : u ∈ jK l v ↔ u ∈ l ∨ u = v := by
 unfold jK
 split
 ·rename_i h
  have : v ∈ l := by simpa using h
  constructor
  ·exact .inl
  ·rintro (h | rfl)
   ·exact h
   ·exact this
 ·simp
theorem Br : ∀ (m l : List (List Int)), (lC l m).length ≤ l.length + m.length
 | [], l => by simp [lC]
 | v :: m, l => by
  have := Br m (jK l v)
  have := wP l v
  simp only [lC, List.foldl_cons, List.length_cons] at *
  omega
theorem rS {u : List Int} : ∀ {m l : List (List Int)}, u ∈ lC l m ↔ u ∈ l ∨ u ∈ m
 | [], l => by simp [lC]
 | v :: m, l => by
  have := rS (u := u) (m := m) (l := jK l v)
  simp only [lC, List.foldl_cons] at *
  rw [this, BN]
  simp only [List.mem_cons]
  constructor
  ·rintro ((h | h) | h)
   ·exact .inl h
   ·exact .inr (.inl h)
   ·exact .inr (.inr h)
  ·rintro (h | h | h)
   ·exact .inl (.inl h)
   ·exact .inl (.inr h)
   ·exact .inr h
end Sp
end Go.Proofs.YtpnogcmollnjeaaGreatDoor
