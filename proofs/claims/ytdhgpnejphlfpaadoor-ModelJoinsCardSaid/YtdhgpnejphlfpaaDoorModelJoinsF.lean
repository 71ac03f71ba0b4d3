/-
  Own texts for the statement ModelJoins, cut down to what it needs: DenR, ExprLex, TrA, TrPa, TrSys, TrPb, TrGen, SysT, MoStrip, MoLoc, LexProg, PrKey, PrRead, PrRead2, SysErr, TrType, MoA, MoB, MoBlk, MoPart, MoPart2. (cut and joined by a program)
-/
import Derived.Test.YtdhgpnejphlfpaaDoorModelJoinsA
import Derived.Test.YtdhgpnejphlfpaaDoorModelJoinsB
import Derived.Test.YtdhgpnejphlfpaaDoorModelJoinsC
import Derived.Test.YtdhgpnejphlfpaaDoorModelJoinsD
import Derived.Test.YtdhgpnejphlfpaaDoorModelJoinsE
import Derived.KernelRfl
namespace Go.Proofs.YtdhgpnejphlfpaaDoor
open Go.Proofs
noncomputable section
set_option maxRecDepth 100000
def pO : Ent := ⟨7, [.str, .str], .bool, [], fun s => eC s.1 s.2⟩
def nY (eta : Ex → Ex) (_du : Sh → (R : Type) → Option R → Option R) (r13 : Q12) (r29 : Q12) (c170 : (List Q5)) (i173 : Int) (again174 : ((List Q5) × Int) → Option Bool) (e178 : Q5) (r194 : Ex) (again207 : (Q15 × Int) → Option Bool) : Q15 × Int → Option Bool := fun ⟨l203, k206⟩ => (idx r29.1.2.2.2.2 i173).bind fun e208 => bif (decide (k206 < (List.length e208.2.2 : Int))) then ( (idx r29.1.2.2.2.2 i173).bind fun e219 => (idx e219.2.2 k206).bind fun e227 => (idx r29.1.2.2.2.2 i173).bind fun e233 => (idx e233.2.2 k206).bind fun e241 => (cn (eta e241.2) (List.length r13.1.1 : Int)).bind fun r247 => chk (aM (List.length l203 + List.length ([((IntKind.i64.wrap (e227.1 + (List.length r13.1.1 : Int))), (eta r247))] : List Q10)) 56) <| again207 ((l203 ++ ([((IntKind.i64.wrap (e227.1 + (List.length r13.1.1 : Int))), (eta r247))] : List Q10)), (IntKind.i64.wrap (k206 + 1)))) else ( chk (aM (List.length c170 + List.length ([((IntKind.i64.wrap (e178.1 + (List.length r13.1.2.2.2.1 : Int))), (eta r194), l203)] : List Q5)) 80) <| again174 ((c170 ++ ([((IntKind.i64.wrap (e178.1 + (List.length r13.1.2.2.2.1 : Int))), (eta r194), l203)] : List Q5)), (IntKind.i64.wrap (i173 + 1))))
def nV (eta : Ex → Ex) (du : Sh → (R : Type) → Option R → Option R) (r3 : Bool) (r13 : Q12) (r29 : Q12) (r102 : Q12) (again174 : ((List Q5) × Int) → Option Bool) : (List Q5) × Int → Option Bool := fun ⟨c170, i173⟩ => bif (decide (i173 < (List.length r29.1.2.2.2.2 : Int))) then ( (idx r29.1.2.2.2.2 i173).bind fun e178 => (idx r29.1.2.2.2.2 i173).bind fun e186 => (cn (eta e186.2.1) (List.length r13.1.1 : Int)).bind fun r194 => an (nY eta du r13 r29 c170 i173 again174 e178 r194) ar ([], 0)) else ( ah (r102.2.1 == 0) fun b266 => ah (r3 && b266) fun b268 => az b268 default (fE r102.1 (((([] : List Str) ++ r13.1.1) ++ r29.1.1), ((([] : List Q7) ++ r13.1.2.1) ++ r29.1.2.1), ((([] : List Int) ++ r13.1.2.2.1) ++ r29.1.2.2.1), ((([] : List Str) ++ r13.1.2.2.2.1) ++ r29.1.2.2.2.1), c170)) fun r270 => ah (b268 && r270) fun b276 => some b276)
def nT (eta : Ex → Ex) (du : Sh → (R : Type) → Option R → Option R) (a : Str) (b : Str) (r3 : Bool) (r13 : Q12) (r29 : Q12) (again80 : Int → Option Bool) (i79 : Int) : Option Bool := bif (decide (i79 < (List.length r29.1.2.2.2.1 : Int))) then ( (idx r29.1.2.2.2.1 i79).bind fun e84 => (bD r13.1.1 e84).bind fun r86 => az (!r86) [] (idx r29.1.2.2.2.1 i79) fun e89 => az (!r86) default (bD r13.1.2.2.2.1 e89) fun r91 => ah (r86 || r91) fun b97 => bif b97 then ( some r3) else ( again80 (IntKind.i64.wrap (i79 + 1)))) else ( chk (yK a [10]) <| chk (yK (a ++ [10]) b) <| (cM ((a ++ [10]) ++ b)).bind fun r102 => chk (aM (List.length ([] : List Str) + List.length r13.1.1) 16) <| chk (aM (List.length (([] : List Str) ++ r13.1.1) + List.length r29.1.1) 16) <| chk (aM (List.length ([] : List Q7) + List.length r13.1.2.1) 16) <| chk (aM (List.length (([] : List Q7) ++ r13.1.2.1) + List.length r29.1.2.1) 16) <| chk (aM (List.length ([] : List Int) + List.length r13.1.2.2.1) 8) <| chk (aM (List.length (([] : List Int) ++ r13.1.2.2.1) + List.length r29.1.2.2.1) 8) <| chk (aM (List.length ([] : List Str) + List.length r13.1.2.2.2.1) 16) <| chk (aM (List.length (([] : List Str) ++ r13.1.2.2.2.1) + List.length r29.1.2.2.2.1) 16) <| chk (aM (List.length ([] : List Q5) + List.length r13.1.2.2.2.2) 80) <| an (nV eta du r3 r13 r29 r102) ar ((([] : List Q5) ++ r13.1.2.2.2.2), 0))
def n5 (eta : Ex → Ex) (du : Sh → (R : Type) → Option R → Option R) (a : Str) (b : Str) (r3 : Bool) (r13 : Q12) (r29 : Q12) (again58 : Int → Option Bool) (i57 : Int) : Option Bool := bif (decide (i57 < (List.length r29.1.1 : Int))) then ( (idx r29.1.1 i57).bind fun e62 => (bD r13.1.1 e62).bind fun r64 => az (!r64) [] (idx r29.1.1 i57) fun e67 => az (!r64) default (bD r13.1.2.2.2.1 e67) fun r69 => ah (r64 || r69) fun b75 => bif b75 then ( some r3) else ( again58 (IntKind.i64.wrap (i57 + 1)))) else ( an (nT eta du a b r3 r13 r29) ar 0)
def fX (eta : Ex → Ex) (du : Sh → (R : Type) → Option R → Option R) (a : Str) (b : Str) : Option Bool := (gU).bind fun r3 => ah (decide (400 < (List.length a : Int))) fun b6 => ah (decide (400 < (List.length b : Int))) fun b8 => ah (b6 || b8) fun b10 => bif b10 then ( some r3) else ( (cM a).bind fun r13 => (cM b).bind fun r29 => ah (r13.2.1 != 0) fun b45 => ah (r29.2.1 != 0) fun b47 => ah (b45 || b47) fun b49 => ah (decide (16 < (IntKind.i64.wrap ((List.length r13.1.1 : Int) + (List.length r29.1.1 : Int))))) fun b51 => ah (b49 || b51) fun b53 => bif b53 then ( some r3) else ( an (n5 eta du a b r3 r13 r29) ar 0))
theorem nZ : (pO).Ok X0.P X0.Γ :=
 aD (.c .o (.c .o (.l ⟨[(false, 12, (.int .i64))], []⟩ (.c (.r [6, 40000] .o) (.l ⟨[(false, 13, (.int .i64))], []⟩ (.c (.r [6, 40000] .o) (.r [6, 9, 40000] (.r [30000, 20009] (.l ⟨[(true, 17, (.bx 33 0 true [.same, .same, .same, .same, (.own (.p (.i .i64) (.p .ex (.l (.p (.i .i64) .ex)))) 54 true)])), (false, 18, (.int .i64))], []⟩ (.c (.r [40000] (.l ⟨[(true, 17, (.bx 33 0 true [.same, .same, .same, .same, .same])), (true, 19, (.bx 54 0 true [.same, .same, .same, .same, .same, (.own (.p (.i .i64) .ex) 57 true)])), (false, 20, (.int .i64))], []⟩ (.c (.r [19, 40000] .o) .o))) .o)))))))))) Tryd.call7 Tryd.func7 (ok1 q9 (ok1 rD (ok1 p6 (ok1 pJ (ok1 rL ok0))))) ok0 ok0 fun s => (show _ = fX cq duE s.1 s.2 from by kernel_rfl).trans ((congrArg (fun eta => fX eta duE s.1 s.2) aJ).trans ((congrArg (fun du => fX id du s.1 s.2) aT).trans (by kernel_rfl)))
end
end Go.Proofs.YtdhgpnejphlfpaaDoor
namespace Go.Proofs.YtdhgpnejphlfpaaDoor
namespace Lx
theorem NR {α : Type} (xs : List α) (k : Nat) : idx xs (k : Int) = xs[k]? := by simp [idx]
theorem PH {α : Type} {xs : List α} {k : Nat} (h : k < xs.length) : idx xs (k : Int) = some xs[k] := by rw [NR, List.getElem?_eq_getElem h]
theorem au {σ ρ : Type} (F : (σ → Option ρ) → σ → Option ρ) (n : Nat) (s : σ) : an F (n + 1) s = F (an F n) s := rfl
theorem cD {ρ : Type} (k : Option ρ) : chk true k = k := rfl
theorem zh {ρ : Type} (c : Bool) (k : Option ρ) : w8 false c k = k := rfl
theorem Fa {α ρ : Type} (d : α) (m : Option α) (k : α → Option ρ) : az true d m k = m.bind k := rfl
theorem CI {α ρ : Type} (d : α) (m : Option α) (k : α → Option ρ) : az false d m k = k d := rfl
theorem di {α ρ : Type} (x : α) (k : α → Option ρ) : (some x).bind k = k x := rfl
theorem Gx {α ρ : Type} (x : α) (k : α → Option ρ) : ah x k = k x := rfl
theorem yP {i : Int} {n : Nat} (h0 : 0 ≤ i) (h1 : i < n) : inB i n = true := ob.2 ⟨h0, h1⟩
theorem sE {i j : Int} {n : Nat} (h0 : 0 ≤ i) (h1 : i ≤ j) (h2 : j ≤ n) : mo i j n = true := yO.2 ⟨⟨h0, h1⟩, h2⟩
theorem Bi {m l : Str} (h : m.length + l.length ≤ 9223372036854775807) : yK m l = true := Nat.ble_eq_true_of_le h
theorem dj {k b : Nat} (h : k * b ≤ 140737488355328) (h2 : k ≤ 9223372036854775807) : aM k b = true := by
 simp only [aM, Bool.and_eq_true]; exact ⟨Nat.ble_eq_true_of_le h, Nat.ble_eq_true_of_le h2⟩
theorem vj (l : Str) (k : Nat) (h : k < l.length) : gK l (k : Int) = (l[k].toNat : Int) := by
 simp [gK, List.getD, h]
theorem Nu (l : Str) (i j : Nat) : cut l (i : Int) (j : Int) = (l.drop i).take (j - i) := rfl
theorem Gj (l : Str) (i : Nat) : cut l (i : Int) (l.length : Int) = l.drop i := by
 rw [Nu, List.take_of_length_le (by simp)]
theorem sG {p : Prop} [Decidable p] (h : p) : decide p = true := decide_eq_true h
theorem sx {p : Prop} [Decidable p] (h : ¬ p) : decide p = false := decide_eq_false h
theorem uU : ar = 18446744073709551616 := rfl
theorem Of {σ ρ : Type} {F : (σ → Option ρ) → σ → Option ρ} {N : Nat} (st : Nat → σ) (n : Nat) (r : Option ρ)
  (step : ∀ again k, k < n → F again (st k) = again (st (k + 1))) (last : ∀ again, F again (st n) = r) :
  ∀ k, k ≤ n → n - k < N → an F N (st k) = r := by
 induction N with
 | zero => intro k _ h; omega
 | succ N ih =>
  intro k hk hN
  rw [au]
  by_cases hkn : k < n
  ·rw [step _ k hkn]; exact ih (k + 1) (by omega) (by omega)
  ·have : k = n := by omega
   subst this; exact last _
theorem fixN_upto {σ ρ : Type} {F : (σ → Option ρ) → σ → Option ρ} {N : Nat} (st : Nat → σ) (n m : Nat) (_hm : m ≤ n) (r : Option ρ)
  (step : ∀ again k, k < m → F again (st k) = again (st (k + 1))) (last : ∀ again, F again (st m) = r) (h0 : m < N) : an F N (st 0) = r :=
 Of st m r step last 0 (Nat.zero_le _) (by omega)
abbrev Tok := Int × Str × Int × Int
noncomputable def il (c : UInt8) : Bool := c == 32 || c == 9 || c == 10 || c == 13
noncomputable def gS (c : UInt8) : Bool := (decide (97 ≤ c) && decide (c ≤ 122)) || (decide (65 ≤ c) && decide (c ≤ 90)) || c == 95
noncomputable def isDigit (c : UInt8) : Bool := decide (48 ≤ c) && decide (c ≤ 57)
noncomputable def fe (c : UInt8) : Bool := gS c || isDigit c
noncomputable def jP (c : UInt8) : Bool := c != 10
theorem uh (c d : UInt8) : ((c.toNat : Int) == (d.toNat : Int)) = (c == d) := by
 rw [Bool.eq_iff_iff]
 simp only [beq_iff_eq]
 constructor
 ·intro h; exact UInt8.toNat_inj.1 (by omega)
 ·intro h; rw [h]
theorem Ar (c d : UInt8) : decide ((c.toNat : Int) ≤ (d.toNat : Int)) = decide (c ≤ d) := by
 rw [Bool.eq_iff_iff]
 simp only [decide_eq_true_eq, UInt8.le_iff_toNat_le]
 omega
/-! runs -/
theorem qH {p : UInt8 → Bool} : ∀ (l : Str) (k : Nat), (∀ i (h : i < l.length), i < k → p l[i] = true) → k ≤ l.length → (∀ h : k < l.length, p l[k] = false) → l.takeWhile p = l.take k
 | [], k, _, hk, _ => by simp
 | c :: l, 0, _, _, h2 => by
  have := h2 (by simp)
  simp at this
  simp [this]
 | c :: l, k + 1, h1, hk, h2 => by
  have hc := h1 0 (by simp) (by omega)
  simp at hc
  rw [List.takeWhile_cons, if_pos hc, List.take_succ_cons, qH l k (fun i h hik => by
   have := h1 (i + 1) (by simp; omega) (by omega)
   simpa using this) (by simpa using hk) (fun h => by
   have := h2 (by simp; omega)
   simpa using this)]
theorem A5 {p : UInt8 → Bool} {f : Int → Option Bool} (hf : ∀ c : UInt8, f (c.toNat : Int) = some (p c)) {text : Str} (hlen : text.length < 9223372036854775807)
  {F : (Int → Option Str) → Int → Option Str}
  (hF : ∀ again t1, F again t1 = bif (decide (t1 < (List.length text : Int))) then (chk (inB t1 (List.length text)) <| (f (gK text t1)).bind fun r6 => bif (!r6) then (chk (mo 0 t1 (List.length text)) <| some (cut text 0 t1)) else (again (IntKind.i64.wrap (t1 + 1)))) else (some text)) :
  an F ar 0 = some (text.takeWhile p) := by
 have key : ∀ N k, k ≤ text.length → text.length - k < N → (∀ i (h : i < text.length), i < k → p text[i] = true) → an F N ((k : Nat) : Int) = some (text.takeWhile p) := by
  intro N
  induction N with
  | zero => intro k _ h; omega
  | succ N ih =>
   intro k hk hN hp
   rw [au, hF]
   by_cases hlt : k < text.length
   ·rw [sG (by omega), cond_true, yP (by omega) (by omega), cD, vj _ _ hlt, hf, di]
    cases hpk : p text[k]
    ·simp only [Bool.not_false, cond_true]
     rw [sE (by omega) (by omega) (by omega), cD, qH text k hp hk (fun _ => hpk)]
     simp [cut]
    ·simp only [Bool.not_true, cond_false]
     rw [w64 (by omega)]
     exact ih (k + 1) (by omega) (by omega) (fun i h hi => by
      rcases Nat.lt_or_ge i k with h' | h'
      ·exact hp i h h'
      ·have : i = k := by omega
       subst this; exact hpk)
   ·rw [sx (by omega), cond_false, qH text k hp hk (fun h => absurd h hlt), List.take_of_length_le (by omega)]
 exact key ar 0 (by omega) (by rw [uU]; omega) (fun i _ h => by omega)
/-! numbers -/
noncomputable def dig (c : UInt8) : Int := (c.toNat : Int) - 48
noncomputable def ck (n : Int) (s : Str) : Int := s.foldl (fun n c => 10 * n + dig c) n
noncomputable def big (n : Int) : Bool := decide (1073741824 < n)
theorem Jr {c : UInt8} (h : isDigit c = true) : 0 ≤ dig c ∧ dig c ≤ 9 := by
 simp only [isDigit, Bool.and_eq_true, decide_eq_true_eq, UInt8.le_iff_toNat_le] at h
 unfold dig
 have h1 : (48 : UInt8).toNat = 48 := rfl
 have h2 : (57 : UInt8).toNat = 57 := rfl
 omega
theorem nC : ∀ (s : Str) (n : Int), 0 ≤ n → s.all isDigit = true → n ≤ ck n s
 | [], n, _, _ => Int.le_refl _
 | c :: s, n, hn, h => by
  simp only [List.all_cons, Bool.and_eq_true] at h
  have hd := Jr h.1
  have := nC s (10 * n + dig c) (by omega) h.2
  show n ≤ ck (10 * n + dig c) s
  omega
theorem GZ (s : Str) (k : Nat) (h : k < s.length) (hd : isDigit s[k] = true) : lS s k = (s[k].toNat : Int) ∧ ij s k = k + 1 := by
 have hc : (s[k].toNat : Nat) < 128 := by
  simp only [isDigit, Bool.and_eq_true, decide_eq_true_eq, UInt8.le_iff_toNat_le] at hd
  have h2 : (57 : UInt8).toNat = 57 := rfl
  omega
 have hget : (⟨s.toArray⟩ : ByteArray).get! k = s[k] := by
  show s.toArray[k]! = s[k]
  simp [h]
 have hdec : Utf8.decode ⟨s.toArray⟩ k = (s[k].toNat, 1) := by
  unfold Utf8.decode
  simp only [Nat.add_zero, hget]
  rw [if_pos hc]
 exact ⟨by simp [lS, hdec], by simp [ij, hdec]⟩
theorem Dk (s : Str) (n : Int) (k : Nat) (h : k < s.length) : ck n (s.take (k + 1)) = 10 * ck n (s.take k) + dig s[k] := by
 unfold ck
 rw [List.take_succ_eq_append_getElem h, List.foldl_append]
 rfl
/-! signs -/
noncomputable def eR : List Str := [[60, 45, 62], [45, 62], [61, 61], [33, 61], [60, 61], [62, 61], [60], [62], [61], [43], [45], [42], [40], [41], [123], [125], [59], [44], [58], [38], [124], [33]]
noncomputable def dH (s : Str) : Str := (eR.find? (fun g => g.isPrefixOf s)).getD []
/-! one step -/
inductive Step where
 | skip (k : Nat)
 | err (e : Int)
 | tok (k : Int) (t : Str) (n : Int)
noncomputable def step : Str → Step
 | [] => .skip 0
 | c :: s =>
  if il c then .skip 1
  else if c == 35 then .skip ((c :: s).takeWhile jP).length
  else if gS c then (if 32 < ((c :: s).takeWhile fe).length then .err 9 else .tok 1 ((c :: s).takeWhile fe) 0)
  else if isDigit c then (if big (ck 0 ((c :: s).takeWhile isDigit)) then .err 9 else .tok 2 ((c :: s).takeWhile isDigit) (ck 0 ((c :: s).takeWhile isDigit)))
  else if dH (c :: s) == [] then .err 2 else .tok 3 (dH (c :: s)) 0
noncomputable def dP : Nat → Nat → Str → Except (Int × Int) (List Tok)
 | 0, _, _ => .ok []
 | _ + 1, at_, [] => .ok [(4, [], 0, (at_ : Int))]
 | f + 1, at_, c :: s =>
  match step (c :: s) with
  | .skip k => dP f (at_ + k) ((c :: s).drop k)
  | .err e => .error (e, at_)
  | .tok k t n => match dP f (at_ + t.length) ((c :: s).drop t.length) with
   | .ok l => .ok ((k, t, n, (at_ : Int)) :: l)
   | .error e => .error e
noncomputable def res : Except (Int × Int) (List Tok) → List Tok × Int × Int
 | .ok l => (l, 0, 0)
 | .error e => ([], e.1, e.2)
noncomputable def tokens (s : Str) : List Tok × Int × Int := if 65536 < s.length then ([], 9, 0) else res (dP (s.length + 1) 0 s)
theorem jU (p : UInt8 → Bool) : ∀ s : Str, (s.takeWhile p).all p = true
 | [] => rfl
 | c :: s => by
  rw [List.takeWhile_cons]
  split
  ·rename_i h; simp only [List.all_cons, h, Bool.true_and]; exact jU p s
  ·rfl
theorem pL (p : UInt8 → Bool) (s : Str) : (s.takeWhile p).length ≤ s.length := (List.takeWhile_prefix p).length_le
theorem lV {p : UInt8 → Bool} {c : UInt8} {s : Str} (h : p c = true) : 1 ≤ ((c :: s).takeWhile p).length := by
 rw [List.takeWhile_cons, if_pos h]; simp
theorem qL {c : UInt8} (h : gS c = true) : fe c = true := by simp [fe, h]
theorem I3 : ∀ g ∈ eR, 1 ≤ g.length := by decide
theorem vt {s : Str} (h : (dH s == []) = false) : dH s ∈ eR ∧ dH s <+: s ∧ eR.find? (fun g => g.isPrefixOf s) = some (dH s) := by
 unfold dH at *
 cases hf : eR.find? (fun g => g.isPrefixOf s) with
 | none => rw [hf] at h; simp at h
 | some g =>
  refine ⟨List.mem_of_find?_eq_some hf, ?_, rfl⟩
  have := List.find?_some hf
  simpa using this
theorem step_take {c : UInt8} {s : Str} (hb : il c = false) (hc : (c == 35) = false) {k : Int} {t : Str} {n : Int} (h : step (c :: s) = .tok k t n) : 1 ≤ t.length ∧ t <+: (c :: s) := by
 simp only [step, hb, hc, Bool.false_eq_true, if_false] at h
 cases hlet : gS c
 ·simp only [hlet, Bool.false_eq_true, if_false] at h
  cases hdig : isDigit c
  ·simp only [hdig, Bool.false_eq_true, if_false] at h
   cases hsg : (dH (c :: s) == [])
   ·simp only [hsg, Bool.false_eq_true, if_false, Step.tok.injEq] at h
    obtain ⟨_, rfl, _⟩ := h
    obtain ⟨h1, h2, _⟩ := vt hsg
    exact ⟨I3 _ h1, h2⟩
   ·simp [hsg] at h
  ·simp only [hdig, if_true] at h
   split at h
   ·cases h
   ·simp only [Step.tok.injEq] at h
    obtain ⟨_, rfl, _⟩ := h
    exact ⟨lV hdig, List.takeWhile_prefix _⟩
 ·simp only [hlet, if_true] at h
  split at h
  ·cases h
  ·simp only [Step.tok.injEq] at h
   obtain ⟨_, rfl, _⟩ := h
   exact ⟨lV (qL hlet), List.takeWhile_prefix _⟩
noncomputable def Jn (out : List Tok) : Except (Int × Int) (List Tok) → List Tok × Int × Int
 | .ok l => (out ++ l, 0, 0)
 | .error e => ([], e.1, e.2)
theorem B9 {s : Str} {k : Nat} {c : UInt8} {r : Str} (h : s.drop k = c :: r) : ∃ hk : k < s.length, s[k] = c := by
 have hk : k < s.length := by
  rcases Nat.lt_or_ge k s.length with h' | h'
  ·exact h'
  ·rw [List.drop_of_length_le h'] at h; cases h
 refine ⟨hk, ?_⟩
 rw [List.drop_eq_getElem_cons hk] at h
 exact (List.cons.inj h).1
theorem vW {c : UInt8} {s : Str} {e : Int} (h : step (c :: s) = .err e) : e ≠ 0 := by
 simp only [step] at h
 split at h
 ·cases h
 ·split at h
  ·cases h
  ·split at h
   ·split at h
    ·cases h; decide
    ·cases h
   ·split at h
    ·split at h
     ·cases h; decide
     ·cases h
    ·split at h
     ·cases h; decide
     ·cases h
section
variable {text s : Str} {at_ : Nat} (hd : text.drop at_ = s) (hat : at_ ≤ text.length)
include hd hat
end
abbrev Res := Except (Int × Int) (List Tok)
noncomputable def shT (k : Nat) (x : Tok) : Tok := (x.1, x.2.1, x.2.2.1, x.2.2.2 + (k : Int))
noncomputable def shE (k : Nat) : Res → Res
 | .ok l => .ok (l.map (shT k))
 | .error e => .error (e.1, e.2 + (k : Int))
noncomputable def Cf (x : Tok) : Res → Res
 | .ok l => .ok (x :: l)
 | .error e => .error e
theorem step_skip {c : UInt8} {s : Str} {k : Nat} (h : step (c :: s) = .skip k) : 1 ≤ k ∧ k ≤ (c :: s).length := by
 cases hb : il c
 ·cases hc : (c == 35)
  ·simp only [step, hb, hc, Bool.false_eq_true, if_false] at h
   repeat (split at h <;> try (cases h))
  ·simp only [step, hb, hc, Bool.false_eq_true, if_false, if_true, Step.skip.injEq] at h
   subst h
   have : c = 35 := by simpa using hc
   subst this
   exact ⟨lV (by decide), pL _ _⟩
 ·simp only [step, hb, if_true, Step.skip.injEq] at h
  subst h; simp
theorem kO {c : UInt8} {s : Str} {k : Int} {t : Str} {n : Int} (h : step (c :: s) = .tok k t n) : il c = false ∧ (c == 35) = false ∧ 1 ≤ t.length ∧ t <+: (c :: s) := by
 cases hb : il c
 ·cases hc : (c == 35)
  ·obtain ⟨h1, h2⟩ := step_take hb hc h; exact ⟨rfl, rfl, h1, h2⟩
  ·simp only [step, hb, hc, Bool.false_eq_true, if_false, if_true] at h; cases h
 ·simp only [step, hb, if_true] at h; cases h
theorem vL : ∀ (f f' at_ : Nat) (s : Str), s.length < f → s.length < f' → dP f at_ s = dP f' at_ s
 | 0, _, _, _, h, _ => by omega
 | _, 0, _, _, _, h => by omega
 | f + 1, f' + 1, at_, [], _, _ => rfl
 | f + 1, f' + 1, at_, c :: s, h, h' => by
  simp only [dP]
  cases hst : step (c :: s) with
  | skip k =>
   obtain ⟨h1, h2⟩ := step_skip hst
   simp only []
   exact vL f f' _ _ (by simp at *; omega) (by simp at *; omega)
  | err e => rfl
  | tok k t n =>
   obtain ⟨_, _, h1, h2⟩ := kO hst
   simp only []
   rw [vL f f' _ ((c :: s).drop t.length) (by simp at *; omega) (by simp at *; omega)]
theorem uP : ∀ (f at_ k : Nat) (s : Str), dP f (at_ + k) s = shE k (dP f at_ s)
 | 0, _, _, _ => rfl
 | f + 1, at_, k, [] => by simp [dP, shE, shT]
 | f + 1, at_, k, c :: s => by
  simp only [dP]
  cases hst : step (c :: s) with
  | skip j =>
   simp only []
   rw [show at_ + k + j = (at_ + j) + k from by omega]
   exact uP f _ k _
  | err e => simp [shE]
  | tok j t n =>
   simp only []
   rw [show at_ + k + t.length = (at_ + t.length) + k from by omega, uP f (at_ + t.length) k]
   cases dP f (at_ + t.length) ((c :: s).drop t.length) <;> simp [shE, shT]
noncomputable def lex (s : Str) : Res := dP (s.length + 1) 0 s
theorem CD (f at_ : Nat) (s : Str) (h : s.length < f) : dP f at_ s = shE at_ (lex s) := by
 have := uP f 0 at_ s
 rw [Nat.zero_add] at this
 rw [this, lex, vL f (s.length + 1) 0 s h (by omega)]
theorem lex_nil : lex [] = .ok [(4, [], 0, 0)] := rfl
theorem rq {c : UInt8} {s : Str} {k : Nat} (h : step (c :: s) = .skip k) : lex (c :: s) = shE k (lex ((c :: s).drop k)) := by
 obtain ⟨h1, h2⟩ := step_skip h
 conv => lhs; unfold lex
 simp only [dP, h]
 rw [Nat.zero_add]
 exact CD _ _ _ (by simp at *; omega)
theorem xo {c : UInt8} {s : Str} {e : Int} (h : step (c :: s) = .err e) : lex (c :: s) = .error (e, 0) := by
 unfold lex
 simp only [dP, h]; rfl
theorem xJ {c : UInt8} {s : Str} {k : Int} {t : Str} {n : Int} (h : step (c :: s) = .tok k t n) : lex (c :: s) = Cf (k, t, n, 0) (shE t.length (lex ((c :: s).drop t.length))) := by
 obtain ⟨_, _, h1, h2⟩ := kO h
 conv => lhs; unfold lex
 simp only [dP, h]
 rw [Nat.zero_add, CD _ t.length _ (by simp at *; omega)]
 cases shE t.length (lex ((c :: s).drop t.length)) <;> rfl
theorem Ax {P : Str → Prop} (h0 : P [])
  (hs : ∀ c s k, step (c :: s) = .skip k → P ((c :: s).drop k) → P (c :: s))
  (he : ∀ c s e, step (c :: s) = .err e → P (c :: s))
  (ht : ∀ c s k t n, step (c :: s) = .tok k t n → P ((c :: s).drop t.length) → P (c :: s)) : ∀ s, P s := by
 have key : ∀ (m : Nat) (s : Str), s.length < m → P s := by
  intro m
  induction m with
  | zero => intro s h; omega
  | succ m ih =>
   intro s h
   cases s with
   | nil => exact h0
   | cons c s =>
    cases hst : step (c :: s) with
    | skip k =>
     obtain ⟨h1, h2⟩ := step_skip hst
     exact hs c s k hst (ih _ (by simp at *; omega))
    | err e => exact he c s e hst
    | tok k t n =>
     obtain ⟨_, _, h1, h2⟩ := kO hst
     exact ht c s k t n hst (ih _ (by simp at *; omega))
 exact fun s => key _ s (Nat.lt_succ_self _)
/-! what stands behind -/
theorem l7 {p : UInt8 → Bool} {b : UInt8} {r : Str} (hb : p b = false) : ∀ s : Str, (s ++ b :: r).takeWhile p = s.takeWhile p
 | [] => by simp [hb]
 | c :: s => by
  simp only [List.cons_append, List.takeWhile_cons]
  rw [l7 hb s]
theorem zb {b : UInt8} {r : Str} : ∀ (g s : Str), b ∉ g → g.isPrefixOf (s ++ b :: r) = g.isPrefixOf s
 | [], s, _ => by simp [List.isPrefixOf]
 | x :: g, [], h => by
  have : (x == b) = false := by
   simp only [List.mem_cons, not_or] at h
   simpa using fun e => h.1 e.symm
  simp [List.isPrefixOf, this]
 | x :: g, c :: s, h => by
  simp only [List.cons_append, List.isPrefixOf]
  rw [zb g s (fun hm => h (List.mem_cons_of_mem _ hm))]
noncomputable def xy (b : UInt8) : Bool := il b || b == 35
theorem Bk {b : UInt8} (h : xy b = true) : b = 32 ∨ b = 9 ∨ b = 10 ∨ b = 13 ∨ b = 35 := by
 simp only [xy, il, Bool.or_eq_true, beq_iff_eq] at h
 rcases h with (((h | h) | h) | h) | h <;> simp [h]
theorem KM {b : UInt8} (h : xy b = true) : ∀ g ∈ eR, b ∉ g := by
 rcases Bk h with rfl | rfl | rfl | rfl | rfl <;> decide
theorem HY {b : UInt8} (h : xy b = true) : fe b = false ∧ isDigit b = false := by
 rcases Bk h with rfl | rfl | rfl | rfl | rfl <;> decide
theorem find_congr {α : Type} {p q : α → Bool} : ∀ {l : List α}, (∀ x ∈ l, p x = q x) → l.find? p = l.find? q
 | [], _ => rfl
 | x :: l, h => by
  have h1 := h x (by simp)
  have h2 := find_congr (l := l) (fun y hy => h y (List.mem_cons_of_mem _ hy))
  simp only [List.find?_cons, h1, h2]
theorem G4 {b : UInt8} {r : Str} (h : xy b = true) (s : Str) : dH (s ++ b :: r) = dH s := by
 unfold dH
 rw [find_congr (fun g hg => zb g s (KM h g hg))]
theorem yB {b : UInt8} {r : Str} (h : xy b = true) (c : UInt8) (s : Str) (hc : (c == 35) = false ∨ b = 10) : step ((c :: s) ++ b :: r) = step (c :: s) := by
 obtain ⟨h1, h2⟩ := HY h
 have e1 : ((c :: s) ++ b :: r).takeWhile fe = (c :: s).takeWhile fe := l7 h1 _
 have e2 : ((c :: s) ++ b :: r).takeWhile isDigit = (c :: s).takeWhile isDigit := l7 h2 _
 have e3 : dH ((c :: s) ++ b :: r) = dH (c :: s) := G4 h _
 simp only [List.cons_append] at e1 e2 e3
 show step (c :: (s ++ b :: r)) = _
 simp only [step]
 rw [e1, e2, e3]
 rcases hc with hc | rfl
 ·rw [hc]; simp only [Bool.false_eq_true, if_false]
 ·have e4 : ((c :: s) ++ (10 : UInt8) :: r).takeWhile jP = (c :: s).takeWhile jP := l7 (by decide) _
  simp only [List.cons_append] at e4
  rw [e4]
theorem oJ {p : UInt8 → Bool} : ∀ {t : Str}, t.all p = true → t.takeWhile p = t
 | [], _ => rfl
 | c :: t, h => by
  simp only [List.all_cons, Bool.and_eq_true] at h
  rw [List.takeWhile_cons, if_pos h.1, oJ h.2]
theorem zO : ∀ g ∈ eR, dH g = g ∧ ∃ c s, g = c :: s ∧ il c = false ∧ (c == 35) = false ∧ gS c = false ∧ isDigit c = false := by
 intro g hg
 have h1 : ∀ g ∈ eR, dH g = g ∧ (match g with | [] => false | c :: _ => !il c && !(c == 35) && !gS c && !isDigit c) = true := by decide
 obtain ⟨h1, h2⟩ := h1 g hg
 refine ⟨h1, ?_⟩
 cases g with
 | nil => cases h2
 | cons c s =>
  simp only [Bool.and_eq_true, Bool.not_eq_true'] at h2
  exact ⟨c, s, rfl, h2.1.1.1, h2.1.1.2, h2.1.2, h2.2⟩
theorem BM {c : UInt8} {s : Str} {k : Int} {t : Str} {n : Int} (h : step (c :: s) = .tok k t n) : step t = .tok k t n ∧ (∃ s', t = c :: s') ∧ (k = 1 ∨ k = 2 ∨ k = 3) ∧ (k ≠ 2 → n = 0) := by
 obtain ⟨hb, hc, ht1, ht2⟩ := kO h
 have hcs : ∃ s', t = c :: s' := by
  cases t with
  | nil => simp at ht1
  | cons d t =>
   obtain ⟨u, hu⟩ := ht2
   simp only [List.cons_append, List.cons.injEq] at hu
   exact ⟨t, by rw [hu.1]⟩
 obtain ⟨s', rfl⟩ := hcs
 simp only [step, hb, hc, Bool.false_eq_true, if_false] at h ⊢
 cases hlet : gS c
 ·simp only [hlet, Bool.false_eq_true, if_false] at h ⊢
  cases hdig : isDigit c
  ·simp only [hdig, Bool.false_eq_true, if_false] at h ⊢
   cases hsg : (dH (c :: s) == [])
   ·simp only [hsg, Bool.false_eq_true, if_false, Step.tok.injEq] at h
    obtain ⟨rfl, h2, rfl⟩ := h
    obtain ⟨hm, _, _⟩ := vt hsg
    rw [h2] at hm
    rw [(zO _ hm).1]
    exact ⟨rfl, ⟨s', rfl⟩, .inr (.inr rfl), fun _ => rfl⟩
   ·simp [hsg] at h
  ·simp only [hdig, if_true] at h ⊢
   split at h
   ·cases h
   ·rename_i hbig
    simp only [Step.tok.injEq] at h
    obtain ⟨rfl, h2, rfl⟩ := h
    have hall := jU isDigit (c :: s)
    rw [h2] at hall hbig
    rw [oJ hall, h2, if_neg hbig]
    exact ⟨rfl, ⟨s', rfl⟩, .inr (.inl rfl), fun h => absurd rfl h⟩
 ·simp only [hlet, if_true] at h ⊢
  split at h
  ·cases h
  ·rename_i h32
   simp only [Step.tok.injEq] at h
   obtain ⟨rfl, h2, rfl⟩ := h
   have hall := jU fe (c :: s)
   rw [h2] at hall h32
   rw [oJ hall, if_neg h32]
   exact ⟨rfl, ⟨s', rfl⟩, .inl rfl, fun _ => rfl⟩
/-! two texts with a line feed between them -/
noncomputable def pX (m : Nat) (rb : Res) : Res → Res
 | .ok l => match shE m rb with
  | .ok lb => .ok (l.dropLast ++ lb)
  | .error e => .error e
 | .error e => .error e
theorem BB : ∀ (s : Str) (l : List Tok), lex s = .ok l → l ≠ [] := by
 intro s
 refine Ax (P := fun s => ∀ (l : List Tok), lex s = .ok l → l ≠ []) ?_ ?_ ?_ ?_ s
 ·intro l h; rw [lex_nil] at h; cases h; simp
 ·intro c s k hst ih l h
  rw [rq hst] at h
  cases hl : lex ((c :: s).drop k) with
  | ok l' => rw [hl] at h; simp only [shE, Except.ok.injEq] at h; have := ih l' hl; subst h; simpa using this
  | error e => rw [hl] at h; cases h
 ·intro c s e hst l h; rw [xo hst] at h; cases h
 ·intro c s k t n hst ih l h
  rw [xJ hst] at h
  cases hl : lex ((c :: s).drop t.length) with
  | ok l' => rw [hl] at h; simp only [shE, Cf, Except.ok.injEq] at h; subst h; simp
  | error e => rw [hl] at h; cases h
theorem N7 (j k : Nat) (x : Tok) : shT j (shT k x) = shT (k + j) x := by
 simp only [shT, Prod.mk.injEq, true_and]; omega
theorem GB (m k : Nat) (rb ra : Res) : pX (m + k) rb (shE k ra) = shE k (pX m rb ra) := by
 cases ra with
 | ok l =>
  cases rb with
  | ok lb =>
   simp only [shE, pX, List.map_append, List.map_dropLast, List.map_map, Except.ok.injEq]
   congr 1
   exact List.map_congr_left (fun x _ => (N7 k m x).symm)
  | error e => simp only [shE, pX, Except.error.injEq, Prod.mk.injEq, true_and]; omega
 | error e => simp [shE, pX]
theorem Kb (b : Str) : ∀ a, lex (a ++ 10 :: b) = pX (a.length + 1) (lex b) (lex a) := by
 refine Ax ?_ ?_ ?_ ?_
 ·have hst : step ((10 : UInt8) :: b) = .skip 1 := rfl
  show lex (10 :: b) = _
  rw [rq hst, lex_nil]
  simp only [List.drop_succ_cons, List.drop_zero, List.length_nil, Nat.zero_add, pX]
  cases shE 1 (lex b) <;> simp
 ·intro c s k hst ih
  have h2 : step ((c :: s) ++ (10 : UInt8) :: b) = .skip k := by rw [yB (by decide) c s (.inr rfl)]; exact hst
  obtain ⟨hk1, hk2⟩ := step_skip hst
  have e1 := rq (c := c) (s := s ++ 10 :: b) h2
  have e2 : (c :: (s ++ 10 :: b)).drop k = (c :: s).drop k ++ 10 :: b := by
   rw [← List.cons_append, List.drop_append_of_le_length hk2]
  rw [e2, ih] at e1
  rw [List.cons_append, e1, rq hst, ← GB]
  congr 1
  simp only [List.length_drop]
  simp at hk2 ⊢; omega
 ·intro c s e hst
  have h2 : step ((c :: s) ++ (10 : UInt8) :: b) = .err e := by rw [yB (by decide) c s (.inr rfl)]; exact hst
  have e1 := xo (c := c) (s := s ++ 10 :: b) h2
  rw [List.cons_append, e1, xo hst]; rfl
 ·intro c s k t n hst ih
  have h2 : step ((c :: s) ++ (10 : UInt8) :: b) = .tok k t n := by rw [yB (by decide) c s (.inr rfl)]; exact hst
  obtain ⟨_, _, ht1, ht2⟩ := kO hst
  have hk2 := ht2.length_le
  have e1 := xJ (c := c) (s := s ++ 10 :: b) h2
  have e2 : (c :: (s ++ 10 :: b)).drop t.length = (c :: s).drop t.length ++ 10 :: b := by
   rw [← List.cons_append, List.drop_append_of_le_length hk2]
  rw [e2, ih, ← GB] at e1
  rw [List.cons_append, e1, xJ hst]
  have e3 : ((c :: s).drop t.length).length + 1 + t.length = (c :: s).length + 1 := by
   simp only [List.length_drop]; simp at hk2 ⊢; omega
  rw [e3]
  cases hl : lex ((c :: s).drop t.length) with
  | ok l' =>
   have := BB _ _ hl
   cases lex b with
   | ok lb =>
    simp only [shE, Cf, pX]
    rw [List.dropLast_cons_of_ne_nil (by simpa using this)]
    rfl
   | error e => rfl
  | error e => rfl
end Lx
end Go.Proofs.YtdhgpnejphlfpaaDoor
namespace Go.Proofs.YtdhgpnejphlfpaaDoor
theorem ug (e : Ex) : 1 ≤ e.sz := by rw [Ex.KW]; omega
theorem Jb {x : Ex} : ∀ {l : List Ex}, x ∈ l → x.sz ≤ szL l
 | y :: l, h => by
  simp only [szL]
  rcases List.mem_cons.1 h with rfl | h
  ·omega
  ·have := Jb h; omega
theorem Fy : ∀ (l : List Ex), l.length ≤ szL l
 | [] => Nat.le_refl _
 | x :: l => by have := Fy l; have := ug x; simp only [szL, List.length_cons]; omega
theorem qj {e x : Ex} (h : x ∈ e.l) : x.sz < e.sz := by have := Jb h; rw [Ex.KW e]; omega
theorem z4 (e : Ex) : e.l.length < e.sz := by have := Fy e.l; rw [Ex.KW e]; omega
theorem aq {α ρ : Type} (x : α) (k : α → Option ρ) : (some x).bind k = k x := rfl
theorem cz {α ρ : Type} (x : α) (k : α → Option ρ) : ah x k = k x := rfl
theorem gi {α ρ : Type} (d : α) (m : Option α) (k : α → Option ρ) : az true d m k = m.bind k := rfl
theorem uV {α ρ : Type} (d : α) (m : Option α) (k : α → Option ρ) : az false d m k = k d := rfl
theorem A1 {l pre r : List Ex} {x : Ex} (h : l = pre ++ x :: r) : idx l (pre.length : Int) = some x := by subst h; simp [idx]
theorem im {n : Nat} (h : n < 4611686018427387904) : IntKind.i64.wrap ((n : Int) + 1) = ((n + 1 : Nat) : Int) := by rw [w64 (by omega)]; omega
theorem Pr {l pre r : List Ex} {x : Ex} (h : l = pre ++ x :: r) : decide ((pre.length : Int) < (List.length l : Int)) = true := by subst h; simp; omega
theorem O3 {l pre : List Ex} (h : l = pre ++ []) : decide ((pre.length : Int) < (List.length l : Int)) = false := by subst h; simp
noncomputable def p9 (op a : Int) (i b t : Bool) : Int × Int × Int :=
 bif decide (op ≤ 6) && i then (1, 0, 0)
 else bif decide (6 < op) && decide (op ≤ 12) && i || op == 13 || op == 14 || decide (15 ≤ op) && decide (op ≤ 19) && b then (2, 0, 0)
 else bif decide (15 ≤ op) && t then (3, 0, 0) else (0, 4, a)
mutual
noncomputable def ty : Ex → Int × Int × Int
 | .mk op _ a l => tyA op a l true true true
noncomputable def tyA (op a : Int) : List Ex → Bool → Bool → Bool → Int × Int × Int
 | [], i, b, t => p9 op a i b t
 | x :: r, i, b, t => bif (ty x).2.1 != 0 then (0, (ty x).2.1, (ty x).2.2) else tyA op a r (i && (ty x).1 == 1) (b && (ty x).1 == 2) (t && (ty x).1 != 1)
end
theorem Cv (e : Ex) : ty e = tyA e.op e.at_ e.l true true true := by cases e; simp only [ty, Ex.op, Ex.at_, Ex.l]
theorem IS (op a : Int) (i b t : Bool) : (p9 op a i b t).2.1 = 0 → (p9 op a i b t).1 = 1 ∨ (p9 op a i b t).1 = 2 ∨ (p9 op a i b t).1 = 3 := by
 unfold p9
 cases decide (op ≤ 6) && i
 ·cases decide (6 < op) && decide (op ≤ 12) && i || op == 13 || op == 14 || decide (15 ≤ op) && decide (op ≤ 19) && b
  ·cases decide (15 ≤ op) && t
   ·intro h; cases h
   ·intro _; exact .inr (.inr rfl)
  ·intro _; exact .inr (.inl rfl)
 ·intro _; exact .inl rfl
theorem Gl (op a : Int) : ∀ (l : List Ex) (i b t : Bool), (tyA op a l i b t).2.1 = 0 → (tyA op a l i b t).1 = 1 ∨ (tyA op a l i b t).1 = 2 ∨ (tyA op a l i b t).1 = 3
 | [], i, b, t => IS op a i b t
 | x :: r, i, b, t => by
  simp only [tyA]
  cases h : (ty x).2.1 != 0
  ·simp only [cond_false]; exact Gl op a r _ _ _
  ·simp only [cond_true]
   intro h0
   rw [h0] at h; cases h
theorem PZ (e : Ex) : (ty e).2.1 = 0 → (ty e).1 = 1 ∨ (ty e).1 = 2 ∨ (ty e).1 = 3 := by rw [Cv]; exact Gl _ _ _ _ _ _
noncomputable def kJ (op : Int) : Int := bif op == 1 || op == 2 || op == 13 || op == 14 then 0 else bif op == 6 || op == 15 || op == 20 || op == 21 || op == 22 then 1 else 2
noncomputable def nG (op n len want vars : Int) : Bool :=
 !(decide (op < 1) || decide (24 < op) || len != want) && !((op == 1) && (decide (n < 0) || decide (1073741824 < n)) || (op == 2) && (decide (n < 0) || decide (vars ≤ n)) || decide (2 < op) && n != 0)
mutual
noncomputable def gw (vars : Int) : Ex → Bool
 | .mk op n _ l => nG op n (l.length : Int) (kJ op) vars && ry vars l
noncomputable def ry (vars : Int) : List Ex → Bool
 | [] => true
 | x :: r => gw vars x && ry vars r
end
theorem FO (vars : Int) (e : Ex) : gw vars e = (nG e.op e.n (e.l.length : Int) (kJ e.op) vars && ry vars e.l) := by cases e; simp only [gw, Ex.op, Ex.n, Ex.l]
noncomputable def tr (b : Bool) : Int := bif b then 1 else 0
noncomputable def evF (op n : Int) (v : List Int) (a b : Int) : Int :=
 bif op == 1 then n else bif op == 2 then (bif decide (n < 0) || decide ((List.length v : Int) ≤ n) then 0 else v.getD n.toNat 0)
 else bif op == 3 then IntKind.i64.wrap (a + b) else bif op == 5 then IntKind.i64.wrap (a * b) else bif op == 6 then IntKind.i64.wrap (0 - a) else bif op == 4 then IntKind.i64.wrap (a - b)
 else bif op == 8 then tr ((a == b) != true) else bif op == 7 then tr ((a == b) != false) else bif op == 19 then tr ((a == b) != false)
 else bif op == 12 then tr (decide (a < b) != true) else bif op == 9 then tr (decide (a < b) != false) else bif op == 11 then tr (decide (a ≤ b) != true) else bif op == 10 then tr (decide (a ≤ b) != false)
 else bif op == 13 then 1 else bif op == 15 then IntKind.i64.wrap (1 - a) else bif op == 16 then IntKind.i64.wrap (a * b) else bif op == 17 then max a b else bif op == 18 then max (IntKind.i64.wrap (1 - a)) b else 0
mutual
noncomputable def ev (v : List Int) : Ex → Int
 | .mk op n _ l => evF op n v (ev0 v l) (ev1 v l)
noncomputable def ev0 (v : List Int) : List Ex → Int
 | [] => 0
 | x :: _ => ev v x
noncomputable def ev1 (v : List Int) : List Ex → Int
 | [] => 0
 | _ :: r => ev0 v r
end
noncomputable def Cw (op a len i b t : Int) : Int × Int × Int :=
 bif decide (op ≤ 6) && (i == len) then (1, 0, 0)
 else bif decide (7 ≤ op) && decide (op ≤ 12) && (i == len) || op == 13 || op == 14 then (2, 0, 0)
 else bif decide (15 ≤ op) && decide (op ≤ 19) && (b == len) then (2, 0, 0)
 else bif decide (15 ≤ op) && (b + t == len) then (3, 0, 0) else (0, 4, a)
mutual
noncomputable def rt : Ex → Int × Int × Int
 | .mk op _ a l => rtA op a (l.length : Int) l 0 0 0
noncomputable def rtA (op a len : Int) : List Ex → Int → Int → Int → Int × Int × Int
 | [], i, b, t => Cw op a len i b t
 | x :: r, i, b, t => bif (rt x).2.1 != 0 then (0, (rt x).2.1, (rt x).2.2) else rtA op a len r (bif (rt x).1 == 1 then i + 1 else i) (bif (rt x).1 == 2 then b + 1 else b) (bif (rt x).1 == 3 then t + 1 else t)
end
theorem rt_eq (e : Ex) : rt e = rtA e.op e.at_ (e.l.length : Int) e.l 0 0 0 := by cases e; simp only [rt, Ex.op, Ex.at_, Ex.l]
theorem tT {α ρ : Type} (g : Bool) (d v : α) (k : α → Option ρ) : az g d (some v) k = k (bif g then v else d) := by cases g <;> rfl
theorem Mb (op a len : Int) (i b t : Int) : p9 op a (i == len) (b == len) (b + t == len) = Cw op a len i b t := by
 unfold p9 Cw
 have h6 : decide (6 < op) = decide (7 ≤ op) := by
  by_cases h : 6 < op
  ·rw [decide_eq_true h, decide_eq_true (by omega)]
  ·rw [decide_eq_false h, decide_eq_false (by omega)]
 rw [h6]
 cases (decide (op ≤ 6) && (i == len))
 ·cases (decide (7 ≤ op) && decide (op ≤ 12) && (i == len))
  ·cases (op == 13)
   ·cases (op == 14)
    ·cases (decide (15 ≤ op) && decide (op ≤ 19) && (b == len)) <;> rfl
    ·rfl
   ·rfl
  ·rfl
 ·rfl
theorem zI (op a len : Int) : ∀ (r : List Ex) (m : Int) (i b t : Int), (∀ x ∈ r, ty x = rt x) → m + r.length = len → 0 ≤ i ∧ 0 ≤ b ∧ 0 ≤ t → i + b + t = m →
  tyA op a r (i == m) (b == m) (b + t == m) = rtA op a len r i b t
 | [], m, i, b, t, _, hm, h0, _ => by
  obtain rfl : m = len := by simpa using hm
  simp only [tyA, rtA]
  exact Mb op a m i b t
 | x :: r, m, i, b, t, hx, hm, h0, hs => by
  have e := hx x (by simp)
  have one := PZ x
  simp only [tyA, rtA, e] at one ⊢
  cases hf : ((rt x).2.1 != 0)
  ·simp only [cond_false]
   have ih := zI op a len r (m + 1)
   have hr : ∀ y ∈ r, ty y = rt y := fun y hy => hx y (List.mem_cons_of_mem _ hy)
   have hm' : m + 1 + (r.length : Int) = len := by simp only [List.length_cons] at hm; omega
   have q : ∀ z : Int, z ≤ m → ((z == m) && true) = (z + 1 == m + 1) := fun z _ => by
    rw [Bool.and_true, Bool.eq_iff_iff, beq_iff_eq, beq_iff_eq]; omega
   have q0 : ∀ z : Int, z ≤ m → ((z == m) && false) = (z == m + 1) := fun z hz => by
    rw [Bool.and_false]; symm; rw [beq_eq_false_iff_ne]; omega
   rcases one (by simpa using hf) with h1 | h1 | h1
   ·rw [h1]
    have := ih (i + 1) b t hr hm' ⟨by omega, by omega, by omega⟩ (by omega)
    rw [← q i (by omega), ← q0 b (by omega), ← q0 (b + t) (by omega)] at this
    exact this
   ·rw [h1]
    have := ih i (b + 1) t hr hm' ⟨by omega, by omega, by omega⟩ (by omega)
    rw [show b + 1 + t = b + t + 1 by omega, ← q0 i (by omega), ← q b (by omega), ← q (b + t) (by omega)] at this
    exact this
   ·rw [h1]
    have := ih i b (t + 1) hr hm' ⟨by omega, by omega, by omega⟩ (by omega)
    rw [show b + (t + 1) = b + t + 1 by omega, ← q0 i (by omega), ← q0 b (by omega), ← q (b + t) (by omega)] at this
    exact this
  ·rfl
theorem Ie : ∀ (N : Nat) (e : Ex), e.sz ≤ N → ty e = rt e := by
 intro N
 induction N with
 | zero => intro e h; have := ug e; omega
 | succ N ih =>
  intro e h
  rw [Cv, rt_eq]
  exact zI e.op e.at_ (e.l.length : Int) e.l 0 0 0 0 (fun x hx => ih x (by have := qj hx; omega)) (by omega) ⟨by omega, by omega, by omega⟩ rfl
theorem Bx {vars : Int} {e : Ex} (h : gw vars e = true) : (1 ≤ e.op ∧ e.op ≤ 24) ∧ (e.l.length : Int) = kJ e.op ∧ (e.op = 1 → 0 ≤ e.n ∧ e.n ≤ 1073741824) ∧ (e.op = 2 → 0 ≤ e.n ∧ e.n < vars) ∧ ∀ x ∈ e.l, gw vars x = true := by
 rw [FO] at h
 simp only [nG, Bool.and_eq_true, Bool.not_eq_true', Bool.or_eq_false_iff, decide_eq_false_iff_not, bne_eq_false_iff_eq, Bool.and_eq_false_imp, beq_iff_eq] at h
 obtain ⟨⟨⟨⟨h1, h2⟩, h3⟩, ⟨h4, h5⟩, _⟩, h6⟩ := h
 refine ⟨by omega, h3, fun h => by have := h4 h; omega, fun h => by have := h5 h; omega, ?_⟩
 have : ∀ (l : List Ex), ry vars l = true → ∀ x ∈ l, gw vars x = true := fun l => by
  induction l with
  | nil => intro _ x hx; cases hx
  | cons y r ih =>
   intro h x hx
   simp only [ry, Bool.and_eq_true] at h
   rcases List.mem_cons.1 hx with rfl | hx
   ·exact h.1
   ·exact ih h.2 x hx
 exact this _ h6
end Go.Proofs.YtdhgpnejphlfpaaDoor
namespace Go.Proofs.YtdhgpnejphlfpaaDoor
noncomputable def pV : List Str := [[116, 114, 117, 101], [102, 97, 108, 115, 101], [88], [70], [71], [85], [82], [118, 97, 114], [112, 114, 111, 99]]
noncomputable def Jt : List Str := [[], [], [], [43], [45], [42], [45], [61, 61], [33, 61], [60], [60, 61], [62], [62, 61], [116, 114, 117, 101], [102, 97, 108, 115, 101], [33], [38], [124], [45, 62], [60, 45, 62], [88], [70], [71], [85], [82]]
noncomputable def yz (op : Int) : Str := Jt.getD op.toNat []
namespace Pa
abbrev Tok := Int × Str × Int × Int
abbrev Out := Except (Int × Int) (Ex × List Tok)
noncomputable def key (s : Str) : Bool := pV.contains s
noncomputable def sgn (t : Tok) : Bool := t.1 == 3 || (t.1 == 1 && key t.2.1)
noncomputable def ops : Nat → List Int
 | 1 => [19]
 | 2 => [18]
 | 3 => [17]
 | 4 => [16]
 | 5 => [23, 24]
 | 6 => [15, 20, 21, 22]
 | 7 => [7, 8, 9, 10, 11, 12]
 | 8 => [3, 4]
 | 9 => [5]
 | 10 => [6]
 | 11 => [13, 14]
 | _ => []
noncomputable def fnd (l : List Int) (t : Tok) : Option Int := bif sgn t then l.find? (fun o => yz o == t.2.1) else none
noncomputable def ek (s : Nat) (t : Tok) : Option Int := fnd (ops s) t
noncomputable def kd : Nat → Nat
 | 6 => 0
 | 10 => 0
 | 1 => 1
 | 2 => 1
 | 5 => 1
 | 7 => 1
 | 3 => 2
 | 4 => 2
 | 8 => 2
 | 9 => 2
 | 11 => 3
 | _ => 4
noncomputable def xz (s : Nat) : Bool := s == 1 || s == 2 || s == 5 || s == 6 || s == 10
noncomputable def dn (s : Nat) (d : Int) : Int := bif xz s then d + 1 else d
noncomputable def lY (s : Nat) (d : Int) : Bool := xz s && decide (320 ≤ d)
noncomputable def nx (s : Nat) : Nat := bif s == 7 then 8 else s
noncomputable def at_ (names : List Str) (v : Str) : Option Nat := names.findIdx? (fun x => v == x)
noncomputable def open_ (t : Tok) : Bool := t.1 == 3 && t.2.1 == [40]
noncomputable def close_ (t : Tok) : Bool := t.1 == 3 && t.2.1 == [41]
noncomputable def iw (t : Tok) : Bool := t.1 == 1 && !key t.2.1
noncomputable def Ik (k : Int) (a : Int) (r : Out) : Out := r.map fun p => (.mk k 0 a [p.1], p.2)
noncomputable def HB (k : Int) (a : Int) (x : Ex) (r : Out) : Out := r.map fun p => (.mk k 0 a [x, p.1], p.2)
inductive Job where
 | line (s : Nat)
 | loop (s : Nat) (a : Ex)
open Job
inductive P (names : List Str) : Job → Int → List Tok → Out → Prop
 | big {s d t ts} : lY s d = true → P names (line s) d (t :: ts) (.error (9, t.2.2.2))
 | pre {s d t ts k r} : kd s = 0 → lY s d = false → ek s t = some k → P names (line s) (dn s d) ts r → P names (line s) d (t :: ts) (Ik k t.2.2.2 r)
 | other {s d t ts r} : kd s = 0 → lY s d = false → ek s t = none → P names (line (s + 1)) (dn s d) (t :: ts) r → P names (line s) d (t :: ts) r
 | rErr {s d ts e} : kd s = 1 → lY s d = false → P names (line (s + 1)) (dn s d) ts (.error e) → P names (line s) d ts (.error e)
 | rOne {s d ts a t ts'} : kd s = 1 → lY s d = false → P names (line (s + 1)) (dn s d) ts (.ok (a, t :: ts')) → ek s t = none → P names (line s) d ts (.ok (a, t :: ts'))
 | rTwo {s d ts a t ts' k r} : kd s = 1 → lY s d = false → P names (line (s + 1)) (dn s d) ts (.ok (a, t :: ts')) → ek s t = some k → P names (line (nx s)) (dn s d) ts' r → P names (line s) d ts (HB k t.2.2.2 a r)
 | lErr {s d ts e} : kd s = 2 → P names (line (s + 1)) d ts (.error e) → P names (line s) d ts (.error e)
 | lGo {s d ts a ts' r} : kd s = 2 → P names (line (s + 1)) d ts (.ok (a, ts')) → P names (loop s a) d ts' r → P names (line s) d ts r
 | lpEnd {s a d t ts} : ek s t = none → P names (loop s a) d (t :: ts) (.ok (a, t :: ts))
 | lpErr {s a d t ts k e} : ek s t = some k → P names (line (s + 1)) d ts (.error e) → P names (loop s a) d (t :: ts) (.error e)
 | lpGo {s a d t ts k b ts' r} : ek s t = some k → P names (line (s + 1)) d ts (.ok (b, ts')) → P names (loop s (.mk k 0 t.2.2.2 [a, b])) d ts' r → P names (loop s a) d (t :: ts) r
 | oWord {s d t ts k} : kd s = 3 → ek s t = some k → P names (line s) d (t :: ts) (.ok (.mk k 0 t.2.2.2 [], ts))
 | oNum {s d t ts} : kd s = 3 → ek s t = none → (t.1 == 2) = true → P names (line s) d (t :: ts) (.ok (.mk 1 t.2.2.1 t.2.2.2 [], ts))
 | oVar {s d t ts i} : kd s = 3 → ek s t = none → (t.1 == 2) = false → iw t = true → at_ names t.2.1 = some i → P names (line s) d (t :: ts) (.ok (.mk 2 (i : Int) t.2.2.2 [], ts))
 | oName {s d t ts} : kd s = 3 → ek s t = none → (t.1 == 2) = false → iw t = true → at_ names t.2.1 = none → P names (line s) d (t :: ts) (.error (3, t.2.2.2))
 | oOpen {s d t ts a c ts'} : kd s = 3 → ek s t = none → (t.1 == 2) = false → iw t = false → open_ t = true → P names (line 1) d ts (.ok (a, c :: ts')) → close_ c = true → P names (line s) d (t :: ts) (.ok (a, ts'))
 | oErr {s d t ts e} : kd s = 3 → ek s t = none → (t.1 == 2) = false → iw t = false → open_ t = true → P names (line 1) d ts (.error e) → P names (line s) d (t :: ts) (.error e)
 | oClose {s d t ts a c ts'} : kd s = 3 → ek s t = none → (t.1 == 2) = false → iw t = false → open_ t = true → P names (line 1) d ts (.ok (a, c :: ts')) → close_ c = false → P names (line s) d (t :: ts) (.error (2, c.2.2.2))
 | oForm {s d t ts} : kd s = 3 → ek s t = none → (t.1 == 2) = false → iw t = false → open_ t = false → P names (line s) d (t :: ts) (.error (2, t.2.2.2))
theorem iZ {s : Nat} {d : Int} (h : lY s d = true) : kd s = 0 ∨ kd s = 1 := by
 unfold lY xz at h
 simp only [Bool.and_eq_true, Bool.or_eq_true, beq_iff_eq] at h
 rcases h.1 with (((rfl | rfl) | rfl) | rfl) | rfl <;> simp [kd]
theorem P.det {names : List Str} {j : Job} {d : Int} {ts : List Tok} {r r' : Out} (h : P names j d ts r) (h' : P names j d ts r') : r = r' := by
 induction h generalizing r' with
 | big h0 => have := iZ h0; cases h' <;> simp_all
 | pre h0 h1 h2 h3 ih => cases h' <;> simp_all <;> (rename_i h4; rw [ih h4])
 | other h0 h1 h2 h3 ih =>
  cases h' with
  | other _ _ _ h => exact ih h
  | _ => simp_all
 | rErr h0 h1 h2 ih =>
  cases h' with
  | rErr _ _ h => exact ih h
  | rOne _ _ h => cases ih h
  | rTwo _ _ h => cases ih h
  | _ => simp_all
 | rOne h0 h1 h2 h3 ih =>
  cases h' with
  | rErr _ _ h => cases ih h
  | rOne _ _ h => exact ih h
  | rTwo _ _ h h4 => cases ih h; simp_all
  | _ => simp_all
 | rTwo h0 h1 h2 h3 h4 ih ih2 =>
  cases h' with
  | rErr _ _ h => cases ih h
  | rOne _ _ h => cases ih h; simp_all
  | rTwo _ _ h h5 h6 => cases ih h; rw [h3] at h5; cases h5; rw [ih2 h6]
  | _ => simp_all
 | lErr h0 h1 ih =>
  cases h' with
  | lErr _ h => exact ih h
  | lGo _ h => cases ih h
  | big h => have := iZ h; simp_all
  | _ => simp_all
 | lGo h0 h1 h2 ih ih2 =>
  cases h' with
  | lErr _ h => cases ih h
  | lGo _ h h3 => cases ih h; exact ih2 h3
  | big h => have := iZ h; simp_all
  | _ => simp_all
 | lpEnd h0 => cases h' <;> simp_all
 | lpErr h0 h1 ih =>
  cases h' with
  | lpErr _ h => exact ih h
  | lpGo _ h => cases ih h
  | _ => simp_all
 | lpGo h0 h1 h2 ih ih2 =>
  cases h' with
  | lpErr _ h => cases ih h
  | lpGo h4 h h3 => cases ih h; rw [h0] at h4; cases h4; exact ih2 h3
  | _ => simp_all
 | oOpen h0 h1 h2 h3 h4 h5 h6 ih =>
  cases h' with
  | oOpen _ _ _ _ _ h _ => cases ih h; rfl
  | oErr _ _ _ _ _ h => cases ih h
  | oClose _ _ _ _ _ h h7 => cases ih h; simp_all
  | big h => have := iZ h; simp_all
  | _ => simp_all
 | oErr h0 h1 h2 h3 h4 h5 ih =>
  cases h' with
  | oOpen _ _ _ _ _ h _ => cases ih h
  | oErr _ _ _ _ _ h => exact ih h
  | oClose _ _ _ _ _ h h7 => cases ih h
  | big h => have := iZ h; simp_all
  | _ => simp_all
 | oClose h0 h1 h2 h3 h4 h5 h6 ih =>
  cases h' with
  | oOpen _ _ _ _ _ h _ => cases ih h; simp_all
  | oErr _ _ _ _ _ h => cases ih h
  | oClose _ _ _ _ _ h h7 => cases ih h; rfl
  | big h => have := iZ h; simp_all
  | _ => simp_all
 | oWord h0 h1 => cases h' <;> first | (rename_i h; have := iZ h; simp_all; done) | simp_all
 | oNum h0 h1 h2 => cases h' <;> first | (rename_i h; have := iZ h; simp_all; done) | simp_all
 | oVar h0 h1 h2 h3 h4 => cases h' <;> first | (rename_i h; have := iZ h; simp_all; done) | simp_all
 | oName h0 h1 h2 h3 h4 => cases h' <;> first | (rename_i h; have := iZ h; simp_all; done) | simp_all
 | oForm h0 h1 h2 h3 h4 => cases h' <;> first | (rename_i h; have := iZ h; simp_all; done) | simp_all
noncomputable def Ends : List Tok → Prop
 | [] => False
 | t :: ts => Ends ts ∨ (ts = [] ∧ t.1 = 4)
theorem Ends.tail {t : Tok} {ts : List Tok} (h : Ends (t :: ts)) (h4 : t.1 ≠ 4) : Ends ts := by
 rcases h with h | ⟨_, h⟩
 ·exact h
 ·exact absurd h h4
theorem Ends.ne {ts : List Tok} (h : Ends ts) : ∃ t r, ts = t :: r := by
 cases ts with
 | nil => exact h.elim
 | cons t r => exact ⟨t, r, rfl⟩
theorem Jz {t : Tok} (h : sgn t = true) : t.1 ≠ 4 := by
 unfold sgn at h
 intro h4
 rw [h4] at h; simp at h
theorem N0 {l : List Int} {t : Tok} {k : Int} (h : fnd l t = some k) : sgn t = true := by
 unfold fnd at h
 cases hs : sgn t
 ·rw [hs] at h; cases h
 ·rfl
theorem OS {l : List Int} {t : Tok} {k : Int} (h : fnd l t = some k) : t.1 ≠ 4 := Jz (N0 h)
theorem sF {s : Nat} {t : Tok} {k : Int} (h : ek s t = some k) : t.1 ≠ 4 := OS h
noncomputable def shorter : Job → Nat → Nat → Prop
 | line _, a, b => a < b
 | loop _ _, a, b => a ≤ b
theorem P.ends {names : List Str} {j : Job} {d : Int} {ts : List Tok} {r : Out} (h : P names j d ts r) : Ends ts → ∀ p, r = .ok p → Ends p.2 ∧ shorter j p.2.length ts.length := by
 induction h with
 | big => intro _ p h; cases h
 | @pre s d t ts k r h0 h1 h2 h3 ih =>
  intro he p h
  cases r with
  | error e => cases h
  | ok q =>
   obtain ⟨i1, i2⟩ := ih (he.tail (sF h2)) q rfl
   cases h
   refine ⟨i1, ?_⟩
   simp only [shorter, List.length_cons] at *; omega
 | other h0 h1 h2 h3 ih => intro he p h; exact ih he p h
 | rErr => intro _ p h; cases h
 | rOne h0 h1 h2 h3 ih => intro he p h; exact ih he p h
 | @rTwo s d ts a t ts' k r h0 h1 h2 h3 h4 ih ih2 =>
  intro he p h
  cases r with
  | error e => cases h
  | ok q =>
   obtain ⟨i1, i2⟩ := ih he _ rfl
   obtain ⟨i3, i4⟩ := ih2 (i1.tail (sF h3)) q rfl
   cases h
   refine ⟨i3, ?_⟩
   simp only [shorter, List.length_cons] at *; omega
 | lErr => intro _ p h; cases h
 | lGo h0 h1 h2 ih ih2 =>
  intro he p h
  obtain ⟨i1, i2⟩ := ih he _ rfl
  obtain ⟨i3, i4⟩ := ih2 i1 p h
  refine ⟨i3, ?_⟩
  simp only [shorter] at *; omega
 | lpEnd h0 => intro he p h; cases h; exact ⟨he, Nat.le_refl _⟩
 | lpErr => intro _ p h; cases h
 | lpGo h0 h1 h2 ih ih2 =>
  intro he p h
  obtain ⟨i1, i2⟩ := ih (he.tail (sF h0)) _ rfl
  obtain ⟨i3, i4⟩ := ih2 i1 p h
  refine ⟨i3, ?_⟩
  simp only [shorter, List.length_cons] at *; omega
 | oWord h0 h1 => intro he p h; cases h; exact ⟨he.tail (sF h1), Nat.lt_succ_self _⟩
 | oNum h0 h1 h2 => intro he p h; cases h; exact ⟨he.tail (by have := beq_iff_eq.1 h2; omega), Nat.lt_succ_self _⟩
 | oVar h0 h1 h2 h3 h4 => intro he p h; cases h; exact ⟨he.tail (by unfold iw at h3; simp only [Bool.and_eq_true, beq_iff_eq] at h3; omega), Nat.lt_succ_self _⟩
 | oName => intro _ p h; cases h
 | oOpen h0 h1 h2 h3 h4 h5 h6 ih =>
  intro he p h
  cases h
  obtain ⟨i1, i2⟩ := ih (he.tail (by unfold open_ at h4; simp only [Bool.and_eq_true, beq_iff_eq] at h4; omega)) _ rfl
  refine ⟨i1.tail (by unfold close_ at h6; simp only [Bool.and_eq_true, beq_iff_eq] at h6; omega), ?_⟩
  simp only [shorter, List.length_cons] at *; omega
 | oErr => intro _ p h; cases h
 | oClose => intro _ p h; cases h
 | oForm => intro _ p h; cases h
theorem P.err {names : List Str} {j : Job} {d : Int} {ts : List Tok} {r : Out} (h : P names j d ts r) : ∀ e, r = .error e → e.1 = 9 ∨ e.1 = 2 ∨ e.1 = 3 := by
 induction h with
 | big => intro e h; cases h; exact .inl rfl
 | @pre s d t ts k r h0 h1 h2 h3 ih =>
  intro e h
  cases r with
  | error e' => cases h; exact ih _ rfl
  | ok q => cases h
 | other h0 h1 h2 h3 ih => exact ih
 | rErr _ _ _ ih => exact ih
 | rOne => intro e h; cases h
 | @rTwo s d ts a t ts' k r h0 h1 h2 h3 h4 ih ih2 =>
  intro e h
  cases r with
  | error e' => cases h; exact ih2 _ rfl
  | ok q => cases h
 | lErr _ _ ih => exact ih
 | lGo _ _ _ _ ih => exact ih
 | lpEnd => intro e h; cases h
 | lpErr _ _ ih => exact ih
 | lpGo _ _ _ _ ih => exact ih
 | oWord => intro e h; cases h
 | oNum => intro e h; cases h
 | oVar => intro e h; cases h
 | oName => intro e h; cases h; exact .inr (.inr rfl)
 | oOpen => intro e h; cases h
 | oErr _ _ _ _ _ _ ih => exact ih
 | oClose => intro e h; cases h; exact .inr (.inl rfl)
 | oForm => intro e h; cases h; exact .inr (.inl rfl)
end Pa
end Go.Proofs.YtdhgpnejphlfpaaDoor
namespace Go.Proofs.YtdhgpnejphlfpaaDoor
namespace Sy
open Pa
abbrev Cmd := Int × Ex × List (Int × Ex)
abbrev Mdl := List Str × List (Int × Int) × List Int × List Str × List Cmd
abbrev Err := Int × Int
noncomputable def sy (names : List Str) (ts : List Tok) : Out :=
 open Classical in if h : ∃ r, P names (.line 1) 0 ts r then Classical.choose h else .error (2, 0)
theorem EG {names : List Str} {ts : List Tok} {r : Out} (h : P names (.line 1) 0 ts r) : sy names ts = r := by
 unfold sy
 rw [dif_pos ⟨r, h⟩]
 exact (Classical.choose_spec (⟨r, h⟩ : ∃ r, P names (.line 1) 0 ts r)).det h
theorem KE {names : List Str} {ts : List Tok} {p : Ex × List Tok} (h : sy names ts = .ok p) : P names (.line 1) 0 ts (.ok p) := by
 unfold sy at h
 split at h
 ·rename_i hx
  have := Classical.choose_spec hx
  rw [h] at this; exact this
 ·cases h
noncomputable def isT (k : Int) (x : Str) (t : Tok) : Bool := (t.1 == k) && (t.2.1 == x)
noncomputable def H2 : List Tok → Int
 | [] => 0
 | t :: _ => t.2.2.2
noncomputable def isH (k : Int) (x : Str) : List Tok → Bool
 | [] => false
 | t :: _ => isT k x t
noncomputable def aZ (x : Str) (ts : List Tok) : Except Err (List Tok) := match ts with
 | [] => .error (2, 0)
 | t :: r => bif isT 3 x t then .ok r else .error (2, t.2.2.2)
noncomputable def er (full : Bool) (names procs : List Str) (ts : List Tok) : Except Err (Str × List Tok) := match ts with
 | [] => .error (2, 0)
 | t :: r => bif t.1 != 1 then .error (2, t.2.2.2) else bif key t.2.1 || names.contains t.2.1 || procs.contains t.2.1 then .error (3, t.2.2.2) else bif full then .error (9, t.2.2.2) else .ok (t.2.1, r)
noncomputable def iW (neg : Bool) (ts : List Tok) : Except Err (Int × List Tok) := match ts with
 | [] => .error (2, 0)
 | t :: r => bif t.1 != 2 then .error (2, t.2.2.2) else .ok (bif neg then IntKind.i64.wrap (0 - t.2.2.1) else t.2.2.1, r)
noncomputable def eY (ts : List Tok) : Except Err (Int × List Tok) := bif isH 3 [45] ts then iW true ts.tail else iW false ts
noncomputable def dk (lo hi : Int) : Bool := !(decide (hi < lo)) && !(decide (lo < -1073741824)) && !(decide (1073741824 < hi)) && !(decide (65535 < IntKind.i64.wrap (hi - lo)))
noncomputable def jl (m : Mdl) (ts : List Tok) : Except Err (Mdl × List Tok) :=
 match er (decide (16 ≤ (m.1.length : Int))) m.1 m.2.2.2.1 ts with
 | .error e => .error e
 | .ok (name, ts1) => match eY ts1 with
  | .error e => .error e
  | .ok (lo, ts2) => match eY ts2 with
   | .error e => .error e
   | .ok (hi, ts3) => match eY ts3 with
    | .error e => .error e
    | .ok (first, ts4) => match aZ [59] ts4 with
     | .error e => .error e
     | .ok ts5 => bif !(dk lo hi) || decide (first < lo) || decide (hi < first) then .error (5, H2 ts1) else .ok ((m.1 ++ [name], m.2.1 ++ [(lo, hi)], m.2.2.1 ++ [first], m.2.2.2.1, m.2.2.2.2), ts5)
noncomputable def dY (want : Int) (names : List Str) (ts : List Tok) : Except Err (Ex × List Tok) :=
 match sy names ts with
 | .error e => .error e
 | .ok (x, r) => bif (rt x).2.1 != 0 then .error ((rt x).2.1, (rt x).2.2) else bif (rt x).1 != want then .error (4, x.at_) else .ok (x, r)
noncomputable def bO (names : List Str) (v : Str) : Int := match at_ names v with
 | some i => (i : Int)
 | none => -1
noncomputable def iy (acc : List (Int × Ex)) (i : Int) : Bool := acc.any (fun s => s.1 == i)
noncomputable def eo (names : List Str) : Nat → List (Int × Ex) → List Tok → Except Err (List (Int × Ex) × List Tok)
 | 0, _, _ => .error (2, 0)
 | f + 1, acc, ts => match ts with
  | [] => .error (2, 0)
  | t :: r => bif t.1 != 1 then .error (2, t.2.2.2) else bif decide (bO names t.2.1 < 0) || iy acc (bO names t.2.1) then .error (3, t.2.2.2) else
   match aZ [61] r with
   | .error e => .error e
   | .ok r1 => match dY 1 names r1 with
    | .error e => .error e
    | .ok (x, r2) => bif isH 3 [44] r2 then eo names f (acc ++ [(bO names t.2.1, x)]) r2.tail else .ok (acc ++ [(bO names t.2.1, x)], r2)
noncomputable def kg (m : Mdl) (ts : List Tok) : Except Err (Mdl × List Tok) :=
 bif decide (256 ≤ (m.2.2.2.2.length : Int)) then .error (9, H2 ts) else
 match dY 2 m.1 ts with
 | .error e => .error e
 | .ok (g, r1) => match aZ [58] r1 with
  | .error e => .error e
  | .ok r2 => match eo m.1 (r2.length + 1) [] r2 with
   | .error e => .error e
   | .ok (sets, r3) => match aZ [59] r3 with
    | .error e => .error e
    | .ok r4 => .ok ((m.1, m.2.1, m.2.2.1, m.2.2.2.1, m.2.2.2.2 ++ [(IntKind.i64.wrap ((m.2.2.2.1.length : Int) - 1), g, sets)]), r4)
noncomputable def fU : Nat → Mdl → List Tok → Except Err (Mdl × List Tok)
 | 0, _, _ => .error (2, 0)
 | f + 1, m, ts => bif isH 3 [125] ts then .ok (m, ts.tail) else match kg m ts with
  | .error e => .error e
  | .ok (m', r) => fU f m' r
noncomputable def eT (m : Mdl) (ts : List Tok) : Except Err (Mdl × List Tok) :=
 match er false m.1 m.2.2.2.1 ts with
 | .error e => .error e
 | .ok (name, r1) => match aZ [123] r1 with
  | .error e => .error e
  | .ok r2 => fU (r2.length + 1) (m.1, m.2.1, m.2.2.1, m.2.2.2.1 ++ [name], m.2.2.2.2) r2
noncomputable def bB : Nat → Mdl → List Tok → Except Err Mdl
 | 0, _, _ => .error (2, 0)
 | f + 1, m, ts => match ts with
  | [] => .error (2, 0)
  | t :: r => bif t.1 == 4 then (bif m.1.isEmpty then .error (2, t.2.2.2) else .ok m)
   else bif isT 1 [118, 97, 114] t then (match jl m r with
    | .error e => .error e
    | .ok (m', r') => bB f m' r')
   else bif isT 1 [112, 114, 111, 99] t then (match eT m r with
    | .error e => .error e
    | .ok (m', r') => bB f m' r')
   else .error (2, t.2.2.2)
noncomputable def sys (l : List Tok) : Except Err Mdl := bB (l.length + 1) ([], [], [], [], []) l
noncomputable def Ap : Except Err Mdl → Mdl × Int × Int
 | .ok m => (m, 0, 0)
 | .error e => (([], [], [], [], []), e.1, e.2)
/-! what is read is shorter, and ends as it ended -/
noncomputable def cL (ts ts' : List Tok) : Prop := Pa.Ends ts' ∧ ts'.length < ts.length
theorem kE {k : Int} {x : Str} {t : Tok} (h : isT k x t = true) (hk : k ≠ 4) : t.1 ≠ 4 := by
 unfold isT at h
 simp only [Bool.and_eq_true, beq_iff_eq] at h
 omega
theorem dJ {x : Str} {ts r : List Tok} (he : Pa.Ends ts) (h : aZ x ts = .ok r) : cL ts r := by
 obtain ⟨t, ts', rfl⟩ := he.ne
 simp only [aZ] at h
 cases hc : isT 3 x t
 ·rw [hc] at h; cases h
 ·rw [hc] at h; cases h
  exact ⟨he.tail (kE hc (by decide)), Nat.lt_succ_self _⟩
theorem oh {full : Bool} {names procs : List Str} {ts : List Tok} {p : Str × List Tok} (he : Pa.Ends ts) (h : er full names procs ts = .ok p) :
  cL ts p.2 ∧ key p.1 = false ∧ names.contains p.1 = false ∧ procs.contains p.1 = false ∧ full = false := by
 obtain ⟨t, ts', rfl⟩ := he.ne
 simp only [er] at h
 cases h1 : (t.1 != 1)
 ·rw [h1] at h
  simp only [cond_false] at h
  cases h2 : (key t.2.1 || names.contains t.2.1 || procs.contains t.2.1)
  ·rw [h2] at h
   simp only [cond_false] at h
   cases full
   ·cases h
    simp only [Bool.or_eq_false_iff] at h2
    have : t.1 = 1 := by simpa using h1
    exact ⟨⟨he.tail (by omega), Nat.lt_succ_self _⟩, h2.1.1, h2.1.2, h2.2, rfl⟩
   ·cases h
  ·rw [h2] at h; cases h
 ·rw [h1] at h; cases h
theorem C0 {neg : Bool} {ts : List Tok} {p : Int × List Tok} (he : Pa.Ends ts) (h : iW neg ts = .ok p) : cL ts p.2 := by
 obtain ⟨t, ts', rfl⟩ := he.ne
 simp only [iW] at h
 cases h1 : (t.1 != 2)
 ·rw [h1] at h
  cases h
  have : t.1 = 2 := by simpa using h1
  exact ⟨he.tail (by omega), Nat.lt_succ_self _⟩
 ·rw [h1] at h; cases h
theorem oz {k : Int} {x : Str} {ts : List Tok} (he : Pa.Ends ts) (hk : k ≠ 4) (h : isH k x ts = true) : Pa.Ends ts.tail ∧ ts.tail.length + 1 = ts.length := by
 obtain ⟨t, ts', rfl⟩ := he.ne
 exact ⟨he.tail (kE h hk), rfl⟩
theorem qu {ts : List Tok} {p : Int × List Tok} (he : Pa.Ends ts) (h : eY ts = .ok p) : cL ts p.2 := by
 unfold eY at h
 cases hc : isH 3 [45] ts
 ·rw [hc] at h; exact C0 he h
 ·rw [hc] at h
  obtain ⟨h1, h2⟩ := oz he (by decide) hc
  obtain ⟨h3, h4⟩ := C0 h1 h
  exact ⟨h3, by omega⟩
theorem gL {want : Int} {names : List Str} {ts : List Tok} {p : Ex × List Tok} (he : Pa.Ends ts) (h : dY want names ts = .ok p) :
  cL ts p.2 ∧ P names (.line 1) 0 ts (.ok p) ∧ (rt p.1).2.1 = 0 ∧ (rt p.1).1 = want := by
 unfold dY at h
 cases hr : sy names ts with
 | error e => rw [hr] at h; cases h
 | ok q =>
  obtain ⟨x, r⟩ := q
  rw [hr] at h
  simp only at h
  cases h1 : ((rt x).2.1 != 0)
  ·rw [h1] at h
   simp only [cond_false] at h
   cases h2 : ((rt x).1 != want)
   ·rw [h2] at h
    cases h
    have hp := KE hr
    exact ⟨hp.ends he _ rfl, hp, by simpa using h1, by simpa using h2⟩
   ·rw [h2] at h; cases h
  ·rw [h1] at h; cases h
theorem cL.trans {a b c : List Tok} (h : cL a b) (k : cL b c) : cL a c := ⟨k.1, Nat.lt_trans k.2 h.2⟩
theorem C4 {names : List Str} : ∀ (f : Nat) (acc : List (Int × Ex)) (ts : List Tok) (p : List (Int × Ex) × List Tok), Pa.Ends ts → eo names f acc ts = .ok p → cL ts p.2 := by
 intro f
 induction f with
 | zero => intro _ _ _ _ h; simp [eo] at h
 | succ f ih =>
  intro acc ts p he h
  obtain ⟨t, r, rfl⟩ := he.ne
  simp only [eo] at h
  cases h1 : (t.1 != 1)
  case true => rw [h1] at h; cases h
  rw [h1] at h
  simp only [cond_false] at h
  cases h2 : (decide (bO names t.2.1 < 0) || iy acc (bO names t.2.1))
  case true => rw [h2] at h; cases h
  rw [h2] at h
  simp only [cond_false] at h
  have ht : t.1 = 1 := by simpa using h1
  have he1 := he.tail (by omega)
  cases h3 : aZ [61] r with
  | error e => rw [h3] at h; cases h
  | ok r1 =>
   rw [h3] at h
   simp only at h
   have s1 := dJ he1 h3
   cases h4 : dY 1 names r1 with
   | error e => rw [h4] at h; cases h
   | ok q =>
    obtain ⟨x, r2⟩ := q
    rw [h4] at h
    simp only at h
    have s2 : cL r1 r2 := (gL s1.1 h4).1
    have s12 : cL (t :: r) r2 := ⟨s2.1, by have := s1.2; have := s2.2; simp only [List.length_cons]; omega⟩
    cases h5 : isH 3 [44] r2
    ·rw [h5] at h
     cases h
     exact s12
    ·rw [h5] at h
     simp only [cond_true] at h
     obtain ⟨e1, e2⟩ := oz s2.1 (by decide) h5
     have := ih _ _ _ e1 h
     exact ⟨this.1, by have := this.2; have := s12.2; omega⟩
theorem tY {m : Mdl} {ts : List Tok} {p : Mdl × List Tok} (he : Pa.Ends ts) (h : jl m ts = .ok p) : cL ts p.2 ∧
  ∃ name lo hi first, p.1 = (m.1 ++ [name], m.2.1 ++ [(lo, hi)], m.2.2.1 ++ [first], m.2.2.2.1, m.2.2.2.2) ∧ dk lo hi = true ∧ lo ≤ first ∧ first ≤ hi ∧ m.1.length < 16 ∧ m.1.contains name = false := by
 unfold jl at h
 cases h1 : er (decide (16 ≤ (m.1.length : Int))) m.1 m.2.2.2.1 ts with
 | error e => rw [h1] at h; cases h
 | ok q1 =>
  obtain ⟨name, ts1⟩ := q1
  rw [h1] at h
  simp only at h
  obtain ⟨s1, _, hnm, _, hfull⟩ := oh he h1
  cases h2 : eY ts1 with
  | error e => rw [h2] at h; cases h
  | ok q2 =>
   obtain ⟨lo, ts2⟩ := q2
   rw [h2] at h
   simp only at h
   have s2 := qu s1.1 h2
   cases h3 : eY ts2 with
   | error e => rw [h3] at h; cases h
   | ok q3 =>
    obtain ⟨hi, ts3⟩ := q3
    rw [h3] at h
    simp only at h
    have s3 := qu s2.1 h3
    cases h4 : eY ts3 with
    | error e => rw [h4] at h; cases h
    | ok q4 =>
     obtain ⟨first, ts4⟩ := q4
     rw [h4] at h
     simp only at h
     have s4 := qu s3.1 h4
     cases h5 : aZ [59] ts4 with
     | error e => rw [h5] at h; cases h
     | ok ts5 =>
      rw [h5] at h
      simp only at h
      have s5 := dJ s4.1 h5
      cases h6 : (!(dk lo hi) || decide (first < lo) || decide (hi < first))
      ·rw [h6] at h
       cases h
       simp only [Bool.or_eq_false_iff, decide_eq_false_iff_not, Bool.not_eq_false'] at h6
       simp only [decide_eq_false_iff_not] at hfull
       exact ⟨(((s1.trans s2).trans s3).trans s4).trans s5, name, lo, hi, first, rfl, h6.1.1, by omega, by omega, by omega, hnm⟩
      ·rw [h6] at h; cases h
theorem xD {m : Mdl} {ts : List Tok} {p : Mdl × List Tok} (he : Pa.Ends ts) (h : kg m ts = .ok p) : cL ts p.2 ∧
  ∃ g r1 r2 sets r3, m.2.2.2.2.length < 256 ∧ dY 2 m.1 ts = .ok (g, r1) ∧ Pa.Ends r2 ∧ eo m.1 (r2.length + 1) [] r2 = .ok (sets, r3) ∧
   p.1 = (m.1, m.2.1, m.2.2.1, m.2.2.2.1, m.2.2.2.2 ++ [(IntKind.i64.wrap ((m.2.2.2.1.length : Int) - 1), g, sets)]) ∧ aZ [58] r1 = .ok r2 ∧ aZ [59] r3 = .ok p.2 := by
 unfold kg at h
 cases h0 : decide (256 ≤ (m.2.2.2.2.length : Int))
 case true => rw [h0] at h; cases h
 rw [h0] at h
 simp only [cond_false] at h
 simp only [decide_eq_false_iff_not] at h0
 cases h1 : dY 2 m.1 ts with
 | error e => rw [h1] at h; cases h
 | ok q1 =>
  obtain ⟨g, r1⟩ := q1
  rw [h1] at h
  simp only at h
  have s1 := (gL he h1).1
  cases h2 : aZ [58] r1 with
  | error e => rw [h2] at h; cases h
  | ok r2 =>
   rw [h2] at h
   simp only at h
   have s2 := dJ s1.1 h2
   cases h3 : eo m.1 (r2.length + 1) [] r2 with
   | error e => rw [h3] at h; cases h
   | ok q3 =>
    obtain ⟨sets, r3⟩ := q3
    rw [h3] at h
    simp only at h
    have s3 := C4 _ _ _ _ s2.1 h3
    cases h4 : aZ [59] r3 with
    | error e => rw [h4] at h; cases h
    | ok r4 =>
     rw [h4] at h
     cases h
     have s4 := dJ s3.1 h4
     exact ⟨((s1.trans s2).trans s3).trans s4, g, r1, r2, sets, r3, by omega, rfl, s2.1, h3, rfl, h2, h4⟩
end Sy
end Go.Proofs.YtdhgpnejphlfpaaDoor
namespace Go.Proofs.YtdhgpnejphlfpaaDoor
namespace Pa
open Job
noncomputable def szJ : Job → Nat
 | line _ => 0
 | loop _ a => a.sz
theorem Dz (k n a : Int) : (Ex.mk k n a []).sz = 1 := by simp [Ex.sz, szL]
theorem PM (k n a : Int) (x : Ex) : (Ex.mk k n a [x]).sz = x.sz + 1 := by simp [Ex.sz, szL]
theorem JY (k n a : Int) (x y : Ex) : (Ex.mk k n a [x, y]).sz = x.sz + y.sz + 1 := by simp [Ex.sz, szL]
theorem P.size {names : List Str} {j : Job} {d : Int} {ts : List Tok} {r : Out} (h : P names j d ts r) : ∀ p, r = .ok p → p.1.sz + p.2.length ≤ ts.length + szJ j := by
 induction h with
 | big => intro p h; cases h
 | @pre s d t ts k r h0 h1 h2 h3 ih =>
  intro p h
  cases r with
  | error e => cases h
  | ok q => have := ih q rfl; cases h; simp only [szJ, PM, List.length_cons] at *; omega
 | other h0 h1 h2 h3 ih => intro p h; exact ih p h
 | rErr => intro p h; cases h
 | rOne h0 h1 h2 h3 ih => intro p h; exact ih p h
 | @rTwo s d ts a t ts' k r h0 h1 h2 h3 h4 ih ih2 =>
  intro p h
  cases r with
  | error e => cases h
  | ok q => have i1 := ih _ rfl; have i2 := ih2 q rfl; cases h; simp only [szJ, JY, List.length_cons] at *; omega
 | lErr => intro p h; cases h
 | lGo h0 h1 h2 ih ih2 => intro p h; have i1 := ih _ rfl; have i2 := ih2 p h; simp only [szJ] at *; omega
 | lpEnd h0 => intro p h; cases h; simp only [szJ]; omega
 | lpErr => intro p h; cases h
 | lpGo h0 h1 h2 ih ih2 => intro p h; have i1 := ih _ rfl; have i2 := ih2 p h; simp only [szJ, JY, List.length_cons] at *; omega
 | oWord h0 h1 => intro p h; cases h; simp only [szJ, Dz, List.length_cons]; omega
 | oNum h0 h1 h2 => intro p h; cases h; simp only [szJ, Dz, List.length_cons]; omega
 | oVar h0 h1 h2 h3 h4 => intro p h; cases h; simp only [szJ, Dz, List.length_cons]; omega
 | oName => intro p h; cases h
 | oOpen h0 h1 h2 h3 h4 h5 h6 ih => intro p h; cases h; have := ih _ rfl; simp only [szJ, List.length_cons] at *; omega
 | oErr => intro p h; cases h
 | oClose => intro p h; cases h
 | oForm => intro p h; cases h
theorem P.suf {names : List Str} {j : Job} {d : Int} {ts : List Tok} {r : Out} (h : P names j d ts r) : ∀ p, r = .ok p → p.2 <:+ ts := by
 induction h with
 | big => intro p h; cases h
 | @pre s d t ts k r h0 h1 h2 h3 ih =>
  intro p h
  cases r with
  | error e => cases h
  | ok q => have := ih q rfl; cases h; exact this.trans (List.suffix_cons _ _)
 | other h0 h1 h2 h3 ih => exact ih
 | rErr => intro p h; cases h
 | rOne h0 h1 h2 h3 ih => exact ih
 | @rTwo s d ts a t ts' k r h0 h1 h2 h3 h4 ih ih2 =>
  intro p h
  cases r with
  | error e => cases h
  | ok q => have i1 := ih _ rfl; have i2 := ih2 q rfl; cases h; exact (i2.trans (List.suffix_cons _ _)).trans i1
 | lErr => intro p h; cases h
 | lGo h0 h1 h2 ih ih2 => intro p h; exact (ih2 p h).trans (ih _ rfl)
 | lpEnd h0 => intro p h; cases h; exact List.suffix_refl _
 | lpErr => intro p h; cases h
 | lpGo h0 h1 h2 ih ih2 => intro p h; exact ((ih2 p h).trans (ih _ rfl)).trans (List.suffix_cons _ _)
 | oWord h0 h1 => intro p h; cases h; exact List.suffix_cons _ _
 | oNum h0 h1 h2 => intro p h; cases h; exact List.suffix_cons _ _
 | oVar h0 h1 h2 h3 h4 => intro p h; cases h; exact List.suffix_cons _ _
 | oName => intro p h; cases h
 | oOpen h0 h1 h2 h3 h4 h5 h6 ih => intro p h; cases h; exact ((List.suffix_cons _ _).trans (ih _ rfl)).trans (List.suffix_cons _ _)
 | oErr => intro p h; cases h
 | oClose => intro p h; cases h
 | oForm => intro p h; cases h
noncomputable def Cg (t : Tok) : Prop := t.1 = 2 → 0 ≤ t.2.2.1 ∧ t.2.2.1 ≤ 1073741824
theorem kI {s : Nat} {t : Tok} {k : Int} (h : ek s t = some k) : k ∈ ops s := by
 unfold ek fnd at h
 cases hs : sgn t
 ·rw [hs] at h; cases h
 ·rw [hs] at h; exact List.mem_of_find?_eq_some h
theorem Ot {s : Nat} (hk : kd s = 0) {k : Int} (h : k ∈ ops s) (vars : Int) : nG k 0 1 (kJ k) vars = true := by
 have : s = 6 ∨ s = 10 := by
  unfold kd at hk
  split at hk <;> first | (cases hk; done) | simp
 rcases this with rfl | rfl
 ·simp only [ops, List.mem_cons, List.not_mem_nil, or_false] at h
  rcases h with rfl | rfl | rfl | rfl <;> rfl
 ·simp only [ops, List.mem_cons, List.not_mem_nil, or_false] at h
  subst h; rfl
theorem F7 {s : Nat} (hk : kd s = 1 ∨ kd s = 2) {k : Int} (h : k ∈ ops s) (vars : Int) : nG k 0 2 (kJ k) vars = true := by
 have : s = 1 ∨ s = 2 ∨ s = 3 ∨ s = 4 ∨ s = 5 ∨ s = 7 ∨ s = 8 ∨ s = 9 := by
  unfold kd at hk
  split at hk <;> first | (rcases hk with hk | hk <;> cases hk; done) | simp
 rcases this with rfl | rfl | rfl | rfl | rfl | rfl | rfl | rfl <;> simp only [ops, List.mem_cons, List.not_mem_nil, or_false] at h
 ·subst h; rfl
 ·subst h; rfl
 ·subst h; rfl
 ·subst h; rfl
 ·rcases h with rfl | rfl <;> rfl
 ·rcases h with rfl | rfl | rfl | rfl | rfl | rfl <;> rfl
 ·rcases h with rfl | rfl <;> rfl
 ·subst h; rfl
theorem Mf {s : Nat} (hk : kd s = 3) {k : Int} (h : k ∈ ops s) (vars : Int) : nG k 0 0 (kJ k) vars = true := by
 have : s = 11 := by
  unfold kd at hk
  split at hk <;> first | (cases hk; done) | simp
 subst this
 simp only [ops, List.mem_cons, List.not_mem_nil, or_false] at h
 rcases h with rfl | rfl <;> rfl
theorem AR {vars k n a : Int} (h : nG k n 0 (kJ k) vars = true) : gw vars (.mk k n a []) = true := by
 simp only [gw, ry, List.length_nil]; rw [show ((0 : Nat) : Int) = 0 from rfl, h]; rfl
theorem Ov {vars k a : Int} {x : Ex} (h : nG k 0 1 (kJ k) vars = true) (hx : gw vars x = true) : gw vars (.mk k 0 a [x]) = true := by
 simp only [gw, ry, List.length_cons, List.length_nil]; rw [show ((0 + 1 : Nat) : Int) = 1 from rfl, h, hx]; rfl
theorem FL {vars k a : Int} {x y : Ex} (h : nG k 0 2 (kJ k) vars = true) (hx : gw vars x = true) (hy : gw vars y = true) : gw vars (.mk k 0 a [x, y]) = true := by
 simp only [gw, ry, List.length_cons, List.length_nil]; rw [show ((0 + 1 + 1 : Nat) : Int) = 2 from rfl, h, hx, hy]; rfl
noncomputable def Qk (vars : Int) : Job → Bool
 | line _ => true
 | loop _ a => gw vars a
noncomputable def okJ : Job → Prop
 | line _ => True
 | loop s _ => kd s = 2
theorem MW {names : List Str} {v : Str} {i : Nat} (h : at_ names v = some i) : i < names.length := by
 unfold at_ at h
 have := List.findIdx?_eq_some_iff_getElem.1 h
 exact this.1
theorem P.may {names : List Str} {j : Job} {d : Int} {ts : List Tok} {r : Out} (h : P names j d ts r) : okJ j → (∀ t ∈ ts, Cg t) → Qk names.length j = true → ∀ p, r = .ok p → gw names.length p.1 = true := by
 induction h with
 | big => intro _ _ _ p h; cases h
 | @pre s d t ts k r h0 h1 h2 h3 ih =>
  intro _ hq _ p h
  cases r with
  | error e => cases h
  | ok q => have := ih trivial (fun t ht => hq t (List.mem_cons_of_mem _ ht)) rfl q rfl; cases h; exact Ov (Ot h0 (kI h2) _) this
 | other h0 h1 h2 h3 ih => intro _ hq hj p h; exact ih trivial hq rfl p h
 | rErr => intro _ _ _ p h; cases h
 | rOne h0 h1 h2 h3 ih => intro _ hq hj p h; exact ih trivial hq rfl _ h
 | @rTwo s d ts a t ts' k r h0 h1 h2 h3 h4 ih ih2 =>
  intro _ hq _ p h
  cases r with
  | error e => cases h
  | ok q =>
   have i1 := ih trivial hq rfl _ rfl
   have hs := h2.suf _ rfl
   have i2 := ih2 trivial (fun t ht => hq t (hs.mem (List.mem_cons_of_mem _ ht))) rfl q rfl
   cases h
   exact FL (F7 (.inl h0) (kI h3) _) i1 i2
 | lErr => intro _ _ _ p h; cases h
 | lGo h0 h1 h2 ih ih2 =>
  intro _ hq _ p h
  have i1 := ih trivial hq rfl _ rfl
  have hs := h1.suf _ rfl
  exact ih2 h0 (fun t ht => hq t (hs.mem ht)) i1 p h
 | lpEnd h0 => intro _ hq hj p h; cases h; exact hj
 | lpErr => intro _ _ _ p h; cases h
 | @lpGo s a d t ts k b ts' r h0 h1 h2 ih ih2 =>
  intro ho hq hj p h
  have i1 := ih trivial (fun t ht => hq t (List.mem_cons_of_mem _ ht)) rfl _ rfl
  have hs := h1.suf _ rfl
  exact ih2 ho (fun t ht => hq t (List.mem_cons_of_mem _ (hs.mem ht))) (FL (a := t.2.2.2) (F7 (.inr ho) (kI h0) _) hj i1) p h
 | oWord h0 h1 => intro _ hq _ p h; cases h; exact AR (Mf h0 (kI h1) _)
 | @oNum s d t ts h0 h1 h2 =>
  intro _ hq _ p h
  cases h
  obtain ⟨n0, n1⟩ := hq t (List.mem_cons_self ..) (beq_iff_eq.1 h2)
  refine AR ?_
  simp only [nG, kJ]
  have e1 : decide (t.2.2.1 < 0) = false := decide_eq_false (by omega)
  have e2 : decide (1073741824 < t.2.2.1) = false := decide_eq_false (by omega)
  rw [e1, e2]; rfl
 | @oVar s d t ts i h0 h1 h2 h3 h4 =>
  intro _ hq _ p h
  cases h
  have hlt := MW h4
  refine AR ?_
  simp only [nG, kJ]
  have e1 : decide ((i : Int) < 0) = false := decide_eq_false (by omega)
  have e2 : decide ((names.length : Int) ≤ (i : Int)) = false := decide_eq_false (by omega)
  rw [e1, e2]; rfl
 | oName => intro _ _ _ p h; cases h
 | @oOpen s d t ts a c ts' h0 h1 h2 h3 h4 h5 h6 ih => intro _ hq _ p h; cases h; exact ih trivial (fun t ht => hq t (List.mem_cons_of_mem _ ht)) rfl (a, c :: ts') rfl
 | oErr => intro _ _ _ p h; cases h
 | oClose => intro _ _ _ p h; cases h
 | oForm => intro _ _ _ p h; cases h
end Pa
end Go.Proofs.YtdhgpnejphlfpaaDoor
namespace Go.Proofs.YtdhgpnejphlfpaaDoor
namespace Pa
noncomputable def isLet (c : UInt8) : Bool := (decide (97 ≤ c) && decide (c ≤ 122)) || (decide (65 ≤ c) && decide (c ≤ 90)) || c == 95
noncomputable def MS (t : Tok) : Prop := (t.1 = 1 ∧ ∃ c s, t.2.1 = c :: s ∧ isLet c = true) ∨ t.1 = 2 ∨ (t.1 = 3 ∧ ∀ c s, t.2.1 = c :: s → isLet c = false) ∨ t.1 = 4
theorem ik {l : List Tok} {a : Nat} {t : Tok} {ts : List Tok} (h : l.drop a = t :: ts) : idx l (a : Int) = some t ∧ l.drop (a + 1) = ts ∧ a < l.length ∧ t ∈ l := by
 have hlt : a < l.length := by
  rcases Nat.lt_or_ge a l.length with h1 | h1
  ·exact h1
  ·rw [List.drop_of_length_le h1] at h; cases h
 rw [List.drop_eq_getElem_cons hlt] at h
 simp only [List.cons.injEq] at h
 refine ⟨by simp [idx, List.getElem?_eq_getElem hlt, h.1], h.2, hlt, by rw [← h.1]; exact List.getElem_mem ..⟩
theorem gW {a : Nat} (h : a < 4611686018427387904) : IntKind.i64.wrap ((a : Int) + 1) = ((a + 1 : Nat) : Int) := by rw [w64 (by omega)]; omega
end Pa
namespace Sy
open Pa
theorem G2 {α : Type} {l pre r : List α} {x : α} (h : l = pre ++ x :: r) : decide ((pre.length : Int) < (List.length l : Int)) = true := by subst h; simp; omega
theorem G0 {α : Type} {l pre : List α} (h : l = pre ++ []) : decide ((pre.length : Int) < (List.length l : Int)) = false := by subst h; simp
theorem mid {α : Type} {l pre r : List α} {x : α} (h : l = pre ++ x :: r) : idx l (pre.length : Int) = some x := by subst h; simp [idx]
theorem qz {k b : Nat} (h : k * b ≤ 140737488355328) (h2 : k ≤ 9223372036854775807) : aM k b = true := by
 simp only [aM, Bool.and_eq_true]; exact ⟨Nat.ble_eq_true_of_le h, Nat.ble_eq_true_of_le h2⟩
theorem sM {ρ : Type} {c : Bool} (h : c = true) (k : Option ρ) : chk c k = k := by subst h; rfl
end Sy
end Go.Proofs.YtdhgpnejphlfpaaDoor
namespace Go.Proofs.YtdhgpnejphlfpaaDoor
namespace Sy
open Pa
theorem Hh (s : Str) (h : s.all Lx.isDigit = true) : 0 ≤ Lx.ck 0 s := Lx.nC s 0 (Int.le_refl _) h
theorem Ir {c : UInt8} {s : Str} {k : Int} {t : Str} {n : Int} (h : Lx.step (c :: s) = .tok k t n) (pl : Int) : MS (k, t, n, pl) ∧ Cg (k, t, n, pl) ∧ k ≠ 4 := by
 obtain ⟨hb, hc, _, _⟩ := Lx.kO h
 simp only [Lx.step, hb, hc, Bool.false_eq_true, if_false] at h
 cases hlet : Lx.gS c
 ·simp only [hlet, Bool.false_eq_true, if_false] at h
  cases hdig : Lx.isDigit c
  ·simp only [hdig, Bool.false_eq_true, if_false] at h
   cases hsg : (Lx.dH (c :: s) == [])
   ·simp only [hsg, Bool.false_eq_true, if_false, Lx.Step.tok.injEq] at h
    obtain ⟨rfl, rfl, rfl⟩ := h
    obtain ⟨h1, h2, _⟩ := Lx.vt hsg
    obtain ⟨_, c', s', hg, _, _, hl, _⟩ := Lx.zO _ h1
    refine ⟨.inr (.inr (.inl ⟨rfl, fun c2 s2 h3 => ?_⟩)), (fun h => by cases h), by decide⟩
    simp only at h3
    rw [hg] at h3
    cases h3
    exact hl
   ·simp [hsg] at h
  ·simp only [hdig, if_true] at h
   split at h
   ·cases h
   ·rename_i hbig
    simp only [Lx.Step.tok.injEq] at h
    obtain ⟨rfl, rfl, rfl⟩ := h
    refine ⟨.inr (.inl rfl), fun _ => ⟨Hh _ (Lx.jU _ _), ?_⟩, by decide⟩
    simp only [Lx.big, decide_eq_true_eq] at hbig
    simp only; omega
 ·simp only [hlet, if_true] at h
  split at h
  ·cases h
  ·simp only [Lx.Step.tok.injEq] at h
   obtain ⟨rfl, rfl, rfl⟩ := h
   refine ⟨.inl ⟨rfl, c, s.takeWhile Lx.fe, ?_, hlet⟩, (fun h => by cases h), by decide⟩
   simp only [List.takeWhile_cons, Lx.qL hlet, if_true]
structure Good (n : Nat) (l : List Tok) : Prop where
 ok : ∀ t ∈ l, MS t
 num : ∀ t ∈ l, Cg t
 ends : Pa.Ends l
 len : l.length ≤ n
theorem IM {t : Tok} {l : List Tok} (h : Pa.Ends l) : Pa.Ends (t :: l) := .inl h
theorem JS : ∀ (f a : Nat) (s : Str) (l : List Tok), s.length < f → Lx.dP f a s = .ok l → Good (s.length + 1) l := by
 intro f
 induction f with
 | zero => intro a s l h; omega
 | succ f ih =>
  intro a s l hf h
  cases s with
  | nil =>
   simp only [Lx.dP] at h; cases h
   exact ⟨(fun t ht => by rw [List.mem_singleton.1 ht]; exact .inr (.inr (.inr rfl))), (fun t ht => by rw [List.mem_singleton.1 ht]; intro h; cases h), .inr ⟨rfl, rfl⟩, by simp⟩
  | cons c s =>
   simp only [Lx.dP] at h
   cases hs : Lx.step (c :: s) with
   | skip k =>
    rw [hs] at h
    obtain ⟨h1, h2⟩ := Lx.step_skip hs
    have := ih _ _ _ (by simp only [List.length_drop, List.length_cons] at *; omega) h
    exact ⟨this.ok, this.num, this.ends, by have := this.len; simp only [List.length_drop, List.length_cons] at *; omega⟩
   | err e => rw [hs] at h; cases h
   | tok k tx n =>
    rw [hs] at h
    simp only at h
    obtain ⟨_, _, h1, h2⟩ := Lx.kO hs
    have h3 := h2.length_le
    obtain ⟨g1, g2, _⟩ := Ir hs (a : Int)
    cases hr : Lx.dP f (a + tx.length) ((c :: s).drop tx.length) with
    | error e => rw [hr] at h; cases h
    | ok l' =>
     rw [hr] at h
     cases h
     have := ih _ _ _ (by simp only [List.length_drop, List.length_cons] at *; omega) hr
     refine ⟨fun t ht => ?_, fun t ht => ?_, IM this.ends, by have := this.len; simp only [List.length_drop, List.length_cons] at *; omega⟩
     ·rcases List.mem_cons.1 ht with rfl | ht
      ·exact g1
      ·exact this.ok t ht
     ·rcases List.mem_cons.1 ht with rfl | ht
      ·exact g2
      ·exact this.num t ht
theorem n9 {s : Str} {l : List Tok} (h : Lx.lex s = .ok l) : Good (s.length + 1) l := JS _ _ _ _ (Nat.lt_succ_self _) h
theorem CJ : ∀ (f a : Nat) (s : Str) (e : Int × Int), Lx.dP f a s = .error e → e.1 ≠ 0 := by
 intro f
 induction f with
 | zero => intro a s e h; simp [Lx.dP] at h
 | succ f ih =>
  intro a s e h
  cases s with
  | nil => simp [Lx.dP] at h
  | cons c s =>
   simp only [Lx.dP] at h
   cases hs : Lx.step (c :: s) with
   | skip k => rw [hs] at h; exact ih _ _ _ h
   | err e' => rw [hs] at h; cases h; exact Lx.vW hs
   | tok k tx n =>
    rw [hs] at h
    simp only at h
    cases hr : Lx.dP f (a + tx.length) ((c :: s).drop tx.length) with
    | error e' => rw [hr] at h; cases h; exact ih _ _ _ hr
    | ok l' => rw [hr] at h; cases h
noncomputable def iJ (text : Str) : Except Err Mdl := if 65536 < text.length then .error (9, 0) else match Lx.lex text with
 | .ok l => sys l
 | .error e => .error e
/-! what systems of texts are -/
structure Cs (n : Nat) (s : Int × Ex) : Prop where
 var : 0 ≤ s.1 ∧ s.1 < n
 may : gw (n : Int) s.2 = true
 typ : (rt s.2).2.1 = 0 ∧ (rt s.2).1 = 1
 sz : s.2.sz ≤ 65537
structure xu (n : Nat) (c : Cmd) : Prop where
 may : gw (n : Int) c.2.1 = true
 typ : (rt c.2.1).2.1 = 0 ∧ (rt c.2.1).1 = 2
 sz : c.2.1.sz ≤ 65537
 sets : ∀ s ∈ c.2.2, Cs n s
 one : 1 ≤ c.2.2.length
 len : c.2.2.length ≤ 65537
 once : c.2.2.Pairwise (fun a b => a.1 ≠ b.1)
structure Gw (f : Int × Int) : Prop where
 le : f.1 ≤ f.2
 lo : -1073741824 ≤ f.1
 hi : f.2 ≤ 1073741824
 wide : f.2 - f.1 ≤ 65535
structure Part (m : Mdl) : Prop where
 names : m.1.length ≤ 16
 schema : m.2.1.length = m.1.length
 init : m.2.2.1.length = m.1.length
 fields : ∀ f ∈ m.2.1, Gw f
 first : ∀ (i : Nat) (f : Int × Int) (v : Int), m.2.1[i]? = some f → m.2.2.1[i]? = some v → f.1 ≤ v ∧ v ≤ f.2
 cmds : m.2.2.2.2.length ≤ 256
 cmd : ∀ c ∈ m.2.2.2.2, xu m.1.length c
structure Wf (m : Mdl) : Prop extends Part m where
 some_ : 1 ≤ m.1.length
theorem OK {op n len want v w : Int} (h : nG op n len want v = true) (hv : v ≤ w) : nG op n len want w = true := by
 simp only [nG, Bool.and_eq_true, Bool.not_eq_true', Bool.or_eq_false_iff, decide_eq_false_iff_not, bne_eq_false_iff_eq, Bool.and_eq_false_imp, beq_iff_eq] at h ⊢
 obtain ⟨⟨⟨h1, h2⟩, h3⟩, ⟨h4, h5⟩, h6⟩ := h
 exact ⟨⟨⟨h1, h2⟩, h3⟩, ⟨h4, fun h => by have := h5 h; omega⟩, h6⟩
theorem FP {v w : Int} (hv : v ≤ w) : ∀ (N : Nat) (e : Ex), e.sz ≤ N → gw v e = true → gw w e = true := by
 intro N
 induction N with
 | zero => intro e h; have := ug e; omega
 | succ N ih =>
  intro e h hm
  have h0 := (Bx hm).2.2.2.2
  rw [FO] at hm ⊢
  simp only [Bool.and_eq_true] at hm ⊢
  refine ⟨OK hm.1 hv, ?_⟩
  have : ∀ l : List Ex, (∀ x ∈ l, x ∈ e.l) → ry w l = true := fun l => by
   induction l with
   | nil => intro _; simp only [ry]
   | cons x r ih2 =>
    intro hx
    simp only [ry, Bool.and_eq_true]
    exact ⟨ih x (by have := qj (hx x (by simp)); omega) (h0 x (hx x (by simp))), ih2 (fun y hy => hx y (List.mem_cons_of_mem _ hy))⟩
  exact this e.l (fun x h => h)
theorem xu.le {n k : Nat} {c : Cmd} (h : xu n c) (hk : n ≤ k) : xu k c :=
 ⟨FP (by omega) _ _ (Nat.le_refl _) h.may, h.typ, h.sz, fun s hs => ⟨⟨(h.sets s hs).var.1, by have := (h.sets s hs).var.2; omega⟩, FP (by omega) _ _ (Nat.le_refl _) (h.sets s hs).may, (h.sets s hs).typ, (h.sets s hs).sz⟩, h.one, h.len, h.once⟩
theorem I9 {lo hi : Int} (h : dk lo hi = true) : Gw (lo, hi) := by
 simp only [dk, Bool.and_eq_true, Bool.not_eq_true', decide_eq_false_iff_not] at h
 obtain ⟨⟨⟨h1, h2⟩, h3⟩, h4⟩ := h
 rw [w64 (by omega)] at h4
 exact ⟨by simp only; omega, by simp only; omega, by simp only; omega, by simp only; omega⟩
noncomputable def gF (ts : List Tok) : Prop := (∀ t ∈ ts, Cg t) ∧ Pa.Ends ts ∧ ts.length ≤ 65537
theorem gF.of {ts ts' : List Tok} (h : gF ts) (hs : cL ts ts') (hf : ts' <:+ ts) : gF ts' := ⟨fun t ht => h.1 t (hf.mem ht), hs.1, by have := hs.2; have := h.2.2; omega⟩
theorem mR {x : Str} {ts r : List Tok} (h : aZ x ts = .ok r) : r <:+ ts := by
 cases ts with
 | nil => simp [aZ] at h
 | cons t ts' =>
  simp only [aZ] at h
  cases hc : isT 3 x t
  ·rw [hc] at h; cases h
  ·rw [hc] at h; cases h; exact List.suffix_cons _ _
theorem BG {full : Bool} {names procs : List Str} {ts : List Tok} {p : Str × List Tok} (h : er full names procs ts = .ok p) : p.2 <:+ ts := by
 cases ts with
 | nil => simp [er] at h
 | cons t ts' =>
  simp only [er] at h
  cases h1 : (t.1 != 1)
  ·rw [h1] at h
   simp only [cond_false] at h
   cases h2 : (key t.2.1 || names.contains t.2.1 || procs.contains t.2.1)
   ·rw [h2] at h
    simp only [cond_false] at h
    cases full
    ·cases h; exact List.suffix_cons _ _
    ·cases h
   ·rw [h2] at h; cases h
  ·rw [h1] at h; cases h
theorem Bs {neg : Bool} {ts : List Tok} {p : Int × List Tok} (h : iW neg ts = .ok p) : p.2 <:+ ts := by
 cases ts with
 | nil => simp [iW] at h
 | cons t ts' =>
  simp only [iW] at h
  cases h1 : (t.1 != 2)
  ·rw [h1] at h; cases h; exact List.suffix_cons _ _
  ·rw [h1] at h; cases h
theorem yM {ts : List Tok} {p : Int × List Tok} (h : eY ts = .ok p) : p.2 <:+ ts := by
 unfold eY at h
 cases hc : isH 3 [45] ts
 ·rw [hc] at h; exact Bs h
 ·rw [hc] at h; exact (Bs h).trans (List.tail_suffix _)
theorem vO {want : Int} {names : List Str} {ts : List Tok} {p : Ex × List Tok} (he : Pa.Ends ts) (h : dY want names ts = .ok p) : p.2 <:+ ts := (gL he h).2.1.suf _ rfl
theorem JB {names : List Str} : ∀ (f : Nat) (acc : List (Int × Ex)) (ts : List Tok) (p : List (Int × Ex) × List Tok), Pa.Ends ts → eo names f acc ts = .ok p → p.2 <:+ ts := by
 intro f
 induction f with
 | zero => intro _ _ _ _ h; simp [eo] at h
 | succ f ih =>
  intro acc ts p he h
  obtain ⟨t, r, rfl⟩ := he.ne
  simp only [eo] at h
  cases h1 : (t.1 != 1)
  case true => rw [h1] at h; cases h
  rw [h1] at h
  simp only [cond_false] at h
  cases h2 : (decide (bO names t.2.1 < 0) || iy acc (bO names t.2.1))
  case true => rw [h2] at h; cases h
  rw [h2] at h
  simp only [cond_false] at h
  have ht : t.1 = 1 := by simpa using h1
  have he1 := he.tail (by omega)
  cases h3 : aZ [61] r with
  | error e => rw [h3] at h; cases h
  | ok r1 =>
   rw [h3] at h
   simp only at h
   have s1 := dJ he1 h3
   cases h4 : dY 1 names r1 with
   | error e => rw [h4] at h; cases h
   | ok q =>
    obtain ⟨x, r2⟩ := q
    rw [h4] at h
    simp only at h
    have s2 : cL r1 r2 := (gL s1.1 h4).1
    have f12 : r2 <:+ t :: r := ((vO s1.1 h4).trans (mR h3)).trans (List.suffix_cons _ _)
    cases h5 : isH 3 [44] r2
    ·rw [h5] at h; cases h; exact f12
    ·rw [h5] at h
     simp only [cond_true] at h
     exact ((ih _ _ _ (oz s2.1 (by decide) h5).1 h).trans (List.tail_suffix _)).trans f12
theorem Bv {want : Int} {names : List Str} {ts : List Tok} {x : Ex} {r : List Tok} (hT : gF ts) (h : dY want names ts = .ok (x, r)) :
  gw (names.length : Int) x = true ∧ ((rt x).2.1 = 0 ∧ (rt x).1 = want) ∧ x.sz ≤ 65537 := by
 obtain ⟨sh, hp, h1, h2⟩ := gL hT.2.1 h
 have hsz := hp.size _ rfl
 simp only [szJ, Nat.add_zero] at hsz
 exact ⟨hp.may trivial hT.1 rfl _ rfl, ⟨h1, h2⟩, by have := hT.2.2; omega⟩
theorem Og {names : List Str} {v : Str} (h : ¬ bO names v < 0) : 0 ≤ bO names v ∧ bO names v < names.length := by
 unfold bO at h ⊢
 cases ha : at_ names v with
 | none => rw [ha] at h; simp at h
 | some i => have := MW ha; simp only; omega
theorem Hi {names : List Str} : ∀ (f : Nat) (acc : List (Int × Ex)) (ts : List Tok) (p : List (Int × Ex) × List Tok), gF ts → eo names f acc ts = .ok p →
  (∀ s ∈ acc, Cs names.length s) → acc.Pairwise (fun a b => a.1 ≠ b.1) → acc.length + ts.length ≤ 65537 → (∀ s ∈ p.1, Cs names.length s) ∧ p.1.Pairwise (fun a b => a.1 ≠ b.1) ∧ p.1.length ≤ 65537 ∧ 1 ≤ p.1.length := by
 intro f
 induction f with
 | zero => intro _ _ _ _ h; simp [eo] at h
 | succ f ih =>
  intro acc ts p hT h hacc hpw hlen
  obtain ⟨t, r, rfl⟩ := hT.2.1.ne
  have he := hT.2.1
  simp only [eo] at h
  cases h1 : (t.1 != 1)
  case true => rw [h1] at h; cases h
  rw [h1] at h
  simp only [cond_false] at h
  cases h2 : (decide (bO names t.2.1 < 0) || iy acc (bO names t.2.1))
  case true => rw [h2] at h; cases h
  rw [h2] at h
  simp only [cond_false] at h
  have ht : t.1 = 1 := by simpa using h1
  have he1 := he.tail (by omega)
  simp only [Bool.or_eq_false_iff, decide_eq_false_iff_not] at h2
  cases h3 : aZ [61] r with
  | error e => rw [h3] at h; cases h
  | ok r1 =>
   rw [h3] at h
   simp only at h
   have s1 := dJ he1 h3
   have s1l := s1.2
   have hTr : gF r := ⟨fun t' h' => hT.1 t' (List.mem_cons_of_mem _ h'), he1, by have := hT.2.2; simp only [List.length_cons] at this; omega⟩
   have hT1 : gF r1 := hTr.of s1 (mR h3)
   cases h4 : dY 1 names r1 with
   | error e => rw [h4] at h; cases h
   | ok q =>
    obtain ⟨x, r2⟩ := q
    rw [h4] at h
    simp only at h
    have s2 : cL r1 r2 := (gL s1.1 h4).1
    have s2l := s2.2
    have hT2 : gF r2 := hT1.of s2 (vO s1.1 h4)
    obtain ⟨g1, g2, g3⟩ := Bv hT1 h4
    have hi := Og h2.1
    have hnew : ∀ s ∈ acc ++ [(bO names t.2.1, x)], Cs names.length s := fun s hs => by
     rcases List.mem_append.1 hs with hs | hs
     ·exact hacc s hs
     ·rw [List.mem_singleton.1 hs]; exact ⟨hi, g1, g2, g3⟩
    have hpw' : (acc ++ [(bO names t.2.1, x)]).Pairwise (fun a b => a.1 ≠ b.1) := by
     rw [List.pairwise_append]
     refine ⟨hpw, List.pairwise_singleton _ _, fun a ha b hb => ?_⟩
     rw [List.mem_singleton.1 hb]
     intro e
     have : iy acc (bO names t.2.1) = true := by
      unfold iy
      rw [List.any_eq_true]
      exact ⟨a, ha, by simpa using e⟩
     rw [this] at h2; cases h2.2
    simp only [List.length_cons] at hlen
    cases h5 : isH 3 [44] r2
    ·rw [h5] at h
     cases h
     exact ⟨hnew, hpw', by simp; omega, by simp⟩
    ·rw [h5] at h
     simp only [cond_true] at h
     obtain ⟨e1, e2⟩ := oz s2.1 (by decide) h5
     have hT3 : gF r2.tail := ⟨fun t' h' => hT2.1 t' ((List.tail_suffix _).mem h'), e1, by have := hT2.2.2; omega⟩
     exact ih _ _ _ hT3 h hnew hpw' (by simp; omega)
theorem IK {m : Mdl} {ts : List Tok} {p : Mdl × List Tok} (hT : gF ts) (hm : Part m) (h : kg m ts = .ok p) : Part p.1 ∧ gF p.2 ∧ p.2.length < ts.length := by
 obtain ⟨sh, g, r1, r2, sets, r3, h256, h1, hE2, h3, hp, q2, q4⟩ := xD hT.2.1 h
 have s1 : cL ts r1 := (gL hT.2.1 h1).1
 have hT1 : gF r1 := hT.of s1 (vO hT.2.1 h1)
 have s2 := dJ s1.1 q2
 have hT2 : gF r2 := hT1.of s2 (mR q2)
 have s3 : cL r2 r3 := C4 _ _ _ _ s2.1 h3
 have hT3 : gF r3 := hT2.of s3 (JB _ _ _ _ s2.1 h3)
 have s4 := dJ s3.1 q4
 have hT4 : gF p.2 := hT3.of s4 (mR q4)
 obtain ⟨g1, g2, g3⟩ := Bv hT h1
 obtain ⟨t1, t2, t3, t4⟩ := Hi _ _ _ _ hT2 h3 (fun s hs => by cases hs) List.Pairwise.nil (by have := hT2.2.2; simpa using this)
 refine ⟨?_, hT4, by have := s1.2; have := s2.2; have := s3.2; have := s4.2; omega⟩
 rw [hp]
 refine ⟨hm.names, hm.schema, hm.init, hm.fields, hm.first, by simp; omega, fun c hc => ?_⟩
 rcases List.mem_append.1 hc with hc | hc
 ·exact hm.cmd c hc
 ·rw [List.mem_singleton.1 hc]
  exact ⟨g1, g2, g3, t1, t4, t3, t2⟩
theorem HQ : ∀ (f : Nat) (m : Mdl) (ts : List Tok) (p : Mdl × List Tok), gF ts → Part m → fU f m ts = .ok p → Part p.1 ∧ gF p.2 := by
 intro f
 induction f with
 | zero => intro _ _ _ _ _ h; simp [fU] at h
 | succ f ih =>
  intro m ts p hT hm h
  simp only [fU] at h
  cases hc : isH 3 [125] ts
  ·rw [hc] at h
   simp only [cond_false] at h
   cases h1 : kg m ts with
   | error e => rw [h1] at h; cases h
   | ok q =>
    obtain ⟨m', r⟩ := q
    rw [h1] at h
    simp only at h
    obtain ⟨g1, g2, _⟩ := IK hT hm h1
    exact ih m' r p g2 g1 h
  ·rw [hc] at h
   cases h
   obtain ⟨h1, h2⟩ := oz hT.2.1 (by decide) hc
   exact ⟨hm, fun t ht => hT.1 t ((List.tail_suffix _).mem ht), h1, by have := hT.2.2; show ts.tail.length ≤ _; omega⟩
theorem HE {m : Mdl} {ts : List Tok} {p : Mdl × List Tok} (hT : gF ts) (hm : Part m) (h : eT m ts = .ok p) : Part p.1 ∧ gF p.2 := by
 unfold eT at h
 cases h1 : er false m.1 m.2.2.2.1 ts with
 | error e => rw [h1] at h; cases h
 | ok q1 =>
  obtain ⟨name, r1⟩ := q1
  rw [h1] at h
  simp only at h
  have s1 : cL ts r1 := (oh hT.2.1 h1).1
  have hT1 : gF r1 := hT.of s1 (BG h1)
  cases h2 : aZ [123] r1 with
  | error e => rw [h2] at h; cases h
  | ok r2 =>
   rw [h2] at h
   simp only at h
   have s2 := dJ s1.1 h2
   exact HQ _ (m.1, m.2.1, m.2.2.1, m.2.2.2.1 ++ [name], m.2.2.2.2) _ _ (hT1.of s2 (mR h2)) ⟨hm.names, hm.schema, hm.init, hm.fields, hm.first, hm.cmds, hm.cmd⟩ h
theorem Lj {m : Mdl} {ts : List Tok} {p : Mdl × List Tok} (h : jl m ts = .ok p) : p.2 <:+ ts := by
 unfold jl at h
 cases h1 : er (decide (16 ≤ (m.1.length : Int))) m.1 m.2.2.2.1 ts with
 | error e => rw [h1] at h; cases h
 | ok q1 =>
  obtain ⟨name, ts1⟩ := q1
  rw [h1] at h
  simp only at h
  have s1 : ts1 <:+ ts := BG h1
  cases h2 : eY ts1 with
  | error e => rw [h2] at h; cases h
  | ok q2 =>
   obtain ⟨lo, ts2⟩ := q2
   rw [h2] at h
   simp only at h
   have s2 : ts2 <:+ ts1 := yM h2
   cases h3 : eY ts2 with
   | error e => rw [h3] at h; cases h
   | ok q3 =>
    obtain ⟨hi, ts3⟩ := q3
    rw [h3] at h
    simp only at h
    have s3 : ts3 <:+ ts2 := yM h3
    cases h4 : eY ts3 with
    | error e => rw [h4] at h; cases h
    | ok q4 =>
     obtain ⟨first, ts4⟩ := q4
     rw [h4] at h
     simp only at h
     have s4 : ts4 <:+ ts3 := yM h4
     cases h5 : aZ [59] ts4 with
     | error e => rw [h5] at h; cases h
     | ok ts5 =>
      rw [h5] at h
      simp only at h
      have s5 := mR h5
      cases h6 : (!(dk lo hi) || decide (first < lo) || decide (hi < first))
      ·rw [h6] at h
       cases h
       exact (((s5.trans s4).trans s3).trans s2).trans s1
      ·rw [h6] at h; cases h
theorem It {m : Mdl} {ts : List Tok} {p : Mdl × List Tok} (hT : gF ts) (hm : Part m) (h : jl m ts = .ok p) : Part p.1 ∧ gF p.2 ∧ 1 ≤ p.1.1.length := by
 obtain ⟨sh, name, lo, hi, first, hp, hr, h1, h2, h16, _⟩ := tY hT.2.1 h
 refine ⟨?_, hT.of sh (Lj h), by rw [hp]; simp⟩
 rw [hp]
 have hs := hm.schema
 have hi' := hm.init
 refine ⟨by simp; omega, by simp [hs], by simp [hi'], fun f hf => ?_, fun i f v hf hv => ?_, hm.cmds, fun c hc => (hm.cmd c hc).le (by simp)⟩
 ·rcases List.mem_append.1 hf with hf | hf
  ·exact hm.fields f hf
  ·rw [List.mem_singleton.1 hf]; exact I9 hr
 ·simp only at hf hv
  rcases Nat.lt_or_ge i m.2.1.length with hlt | hge
  ·rw [List.getElem?_append_left hlt] at hf
   rw [List.getElem?_append_left (by omega)] at hv
   exact hm.first i f v hf hv
  ·rw [List.getElem?_append_right hge] at hf
   rw [List.getElem?_append_right (by omega)] at hv
   rw [show i - m.2.2.1.length = i - m.2.1.length by omega] at hv
   cases hd : i - m.2.1.length with
   | zero =>
    rw [hd] at hf hv
    simp only [List.getElem?_cons_zero, Option.some.injEq] at hf hv
    subst hf; subst hv
    exact ⟨h1, h2⟩
   | succ k => rw [hd] at hf; simp at hf
theorem EZ : ∀ (f : Nat) (m : Mdl) (ts : List Tok) (p : Mdl), gF ts → Part m → bB f m ts = .ok p → Wf p := by
 intro f
 induction f with
 | zero => intro _ _ _ _ _ h; simp [bB] at h
 | succ f ih =>
  intro m ts p hT hm h
  obtain ⟨t, r, rfl⟩ := hT.2.1.ne
  have he := hT.2.1
  simp only [bB] at h
  cases c4 : (t.1 == 4)
  ·rw [c4] at h
   simp only [cond_false] at h
   have hTr : gF r := ⟨fun t' h' => hT.1 t' (List.mem_cons_of_mem _ h'), he.tail (by simpa using c4), by have := hT.2.2; simp only [List.length_cons] at this; omega⟩
   cases cv : isT 1 [118, 97, 114] t
   ·rw [cv] at h
    simp only [cond_false] at h
    cases cp : isT 1 [112, 114, 111, 99] t
    ·rw [cp] at h; cases h
    ·rw [cp] at h
     simp only [cond_true] at h
     cases h1 : eT m r with
     | error e => rw [h1] at h; cases h
     | ok q =>
      obtain ⟨m', r'⟩ := q
      rw [h1] at h
      simp only at h
      obtain ⟨g1, g2⟩ := HE hTr hm h1
      exact ih m' r' p g2 g1 h
   ·rw [cv] at h
    simp only [cond_true] at h
    cases h1 : jl m r with
    | error e => rw [h1] at h; cases h
    | ok q =>
     obtain ⟨m', r'⟩ := q
     rw [h1] at h
     simp only at h
     obtain ⟨g1, g2, _⟩ := It hTr hm h1
     exact ih m' r' p g2 g1 h
  ·rw [c4] at h
   simp only [cond_true] at h
   cases hne : m.1.isEmpty
   ·rw [hne] at h
    cases h
    refine ⟨hm, ?_⟩
    cases hm1 : m.1 with
    | nil => rw [hm1] at hne; simp at hne
    | cons x r => simp
   ·rw [hne] at h; cases h
theorem sL {text : Str} {m : Mdl} (h : iJ text = .ok m) : Wf m := by
 unfold iJ at h
 split at h
 ·cases h
 ·rename_i hl
  cases hx : Lx.lex text with
  | error e => rw [hx] at h; cases h
  | ok l =>
   rw [hx] at h
   have hg := n9 hx
   exact EZ _ _ _ _ ⟨hg.num, hg.ends, by have := hg.len; omega⟩ ⟨by simp, rfl, rfl, (fun f hf => by cases hf), (fun i f v hf => by simp at hf), by simp, (fun c hc => by cases hc)⟩ h
end Sy
end Go.Proofs.YtdhgpnejphlfpaaDoor
namespace Go.Proofs.YtdhgpnejphlfpaaDoor
namespace Lx
abbrev Tk := Int × Str × Int
noncomputable def strip (t : Tok) : Tk := (t.1, t.2.1, t.2.2.1)
end Lx
end Go.Proofs.YtdhgpnejphlfpaaDoor
namespace Go.Proofs.YtdhgpnejphlfpaaDoor
mutual
noncomputable def mp (k : Int) : Ex → Ex
 | .mk o n _ l => .mk o (bif o == 2 then n + k else n) 0 (mpL k l)
noncomputable def mpL (k : Int) : List Ex → List Ex
 | [] => []
 | x :: r => mp k x :: mpL k r
end
theorem pD (k o n a : Int) : mp k (.mk o n a []) = .mk o (bif o == 2 then n + k else n) 0 [] := by simp only [mp, mpL]
theorem HF (k o n a : Int) (x : Ex) : mp k (.mk o n a [x]) = .mk o (bif o == 2 then n + k else n) 0 [mp k x] := by simp only [mp, mpL]
theorem vU (k o n a : Int) (x y : Ex) : mp k (.mk o n a [x, y]) = .mk o (bif o == 2 then n + k else n) 0 [mp k x, mp k y] := by simp only [mp, mpL]
theorem JV (k : Int) : ∀ l, (mpL k l).length = l.length
 | [] => rfl
 | x :: r => by simp only [mpL, List.length_cons, JV k r]
mutual
theorem Hc (k : Int) : ∀ e, (rt (mp k e)).1 = (rt e).1 ∧ (rt (mp k e)).2.1 = (rt e).2.1
 | .mk o n a l => by
  simp only [mp, rt, JV]
  exact JC k o 0 a _ l 0 0 0
theorem JC (k o a a' n : Int) : ∀ (l : List Ex) (i b t : Int), (rtA o a n (mpL k l) i b t).1 = (rtA o a' n l i b t).1 ∧ (rtA o a n (mpL k l) i b t).2.1 = (rtA o a' n l i b t).2.1
 | [], i, b, t => by
  simp only [mpL, rtA, Cw]
  cases decide (o ≤ 6) && (i == n)
  ·cases decide (7 ≤ o) && decide (o ≤ 12) && (i == n) || o == 13 || o == 14
   ·cases decide (15 ≤ o) && decide (o ≤ 19) && (b == n)
    ·cases decide (15 ≤ o) && (b + t == n) <;> exact ⟨rfl, rfl⟩
    ·exact ⟨rfl, rfl⟩
   ·exact ⟨rfl, rfl⟩
  ·exact ⟨rfl, rfl⟩
 | x :: r, i, b, t => by
  obtain ⟨h1, h2⟩ := Hc k x
  simp only [mpL, rtA, h1, h2]
  cases ((rt x).2.1 != 0)
  ·exact JC k o a a' n r _ _ _
  ·exact ⟨rfl, rfl⟩
end
theorem Qb {k : Int} {x y : Ex} (h : mp 0 y = mp k x) : (rt y).1 = (rt x).1 ∧ (rt y).2.1 = (rt x).2.1 := by
 obtain ⟨a1, a2⟩ := Hc 0 y
 obtain ⟨b1, b2⟩ := Hc k x
 rw [h] at a1 a2
 exact ⟨a1.symm.trans b1, a2.symm.trans b2⟩
namespace Pa
open Job
open Lx (strip)
theorem st1 {t u : Tok} (h : strip u = strip t) : u.1 = t.1 := congrArg (·.1) h
theorem st2 {t u : Tok} (h : strip u = strip t) : u.2.1 = t.2.1 := congrArg (·.2.1) h
theorem st3 {t u : Tok} (h : strip u = strip t) : u.2.2.1 = t.2.2.1 := congrArg (·.2.2) h
theorem dQ {t u : Tok} (h : strip u = strip t) (s : Nat) : ek s u = ek s t := by unfold ek fnd sgn; rw [st1 h, st2 h]
theorem mY {t u : Tok} (h : strip u = strip t) : iw u = iw t := by unfold iw; rw [st1 h, st2 h]
theorem ua {t u : Tok} (h : strip u = strip t) : open_ u = open_ t := by unfold open_; rw [st1 h, st2 h]
theorem y9 {t u : Tok} (h : strip u = strip t) : close_ u = close_ t := by unfold close_; rw [st1 h, st2 h]
noncomputable def ld (k : Int) : Job → Job → Prop
 | line s, line s' => s = s'
 | loop s a, loop s' a' => s = s' ∧ mp 0 a' = mp k a
 | _, _ => False
noncomputable def yw : Out → Out → Prop
 | .ok p, .ok p' => mp 0 p'.1 = mp 0 p.1 ∧ p'.2.map strip = p.2.map strip
 | .error e, .error e' => e'.1 = e.1
 | _, _ => False
theorem LQ {k a a' : Int} {r r' : Out} (h : yw r r') : yw (Ik k a r) (Ik k a' r') := by
 cases r with
 | error e => cases r' with
  | error e' => exact h
  | ok p => exact h
 | ok p => cases r' with
  | error e' => exact h
  | ok p' => exact ⟨by rw [HF, HF, h.1], h.2⟩
theorem Ml {k a a' : Int} {x x' : Ex} {r r' : Out} (hx : mp 0 x' = mp 0 x) (h : yw r r') : yw (HB k a x r) (HB k a' x' r') := by
 cases r with
 | error e => cases r' with
  | error e' => exact h
  | ok p => exact h
 | ok p => cases r' with
  | error e' => exact h
  | ok p' => exact ⟨by rw [vU, vU, h.1, hx], h.2⟩
theorem qy {p : Ex × List Tok} {r' : Out} (h : yw (.ok p) r') : ∃ p', r' = .ok p' ∧ mp 0 p'.1 = mp 0 p.1 ∧ p'.2.map strip = p.2.map strip := by
 cases r' with
 | error e => exact h.elim
 | ok p' => exact ⟨p', rfl, h⟩
theorem vf {e : Int × Int} {r' : Out} (h : yw (.error e) r') : ∃ e', r' = .error e' ∧ e'.1 = e.1 := by
 cases r' with
 | error e' => exact ⟨e', rfl, h⟩
 | ok p' => exact h.elim
theorem map_cons {α β : Type} {f : α → β} {x : α} {l m : List α} (h : m.map f = (x :: l).map f) : ∃ y r, m = y :: r ∧ f y = f x ∧ r.map f = l.map f := by
 cases m with
 | nil => simp at h
 | cons y r => simp only [List.map_cons, List.cons.injEq] at h; exact ⟨y, r, rfl, h.1, h.2⟩
theorem ig {α β : Type} {f : α → β} {a b m : List α} (h : m.map f = (a ++ b).map f) : ∃ a' b', m = a' ++ b' ∧ a'.map f = a.map f ∧ b'.map f = b.map f := by
 rw [List.map_append] at h
 obtain ⟨a', b', h1, h2, h3⟩ := List.map_eq_append_iff.1 h
 exact ⟨a', b', h1, h2, h3⟩
theorem bq {k : Int} {s : Nat} {j : Job} (h : ld k (line s) j) : j = line s := by
 cases j with
 | line s' => rw [show s = s' from h]
 | loop s' a => exact h.elim
theorem oV {k : Int} {s : Nat} {a : Ex} {j : Job} (h : ld k (loop s a) j) : ∃ a', j = loop s a' ∧ mp 0 a' = mp k a := by
 cases j with
 | line s' => exact h.elim
 | loop s' a' => obtain ⟨rfl, h⟩ := h; exact ⟨a', rfl, h⟩
theorem P.blank {names : List Str} {j : Job} {d : Int} {ts : List Tok} {r : Out} (h : P names j d ts r) : ∀ j' ts', ld 0 j j' → ts'.map strip = ts.map strip → ∃ r', P names j' d ts' r' ∧ yw r r' := by
 induction h with
 | @big s d t ts h0 =>
  intro j' ts' hj ht
  obtain ⟨u, us, rfl, hu, hus⟩ := map_cons ht
  rw [bq hj]
  exact ⟨_, .big h0, rfl⟩
 | @pre s d t ts k r h0 h1 h2 h3 ih =>
  intro j' ts' hj ht
  obtain ⟨u, us, rfl, hu, hus⟩ := map_cons ht
  rw [bq hj]
  obtain ⟨r', p1, p2⟩ := ih _ us (show ld 0 (line s) (line s) from rfl) hus
  exact ⟨_, .pre h0 h1 ((dQ hu s).trans h2) p1, LQ p2⟩
 | @other s d t ts r h0 h1 h2 h3 ih =>
  intro j' ts' hj ht
  obtain ⟨u, us, rfl, hu, hus⟩ := map_cons ht
  rw [bq hj]
  obtain ⟨r', p1, p2⟩ := ih _ _ (show ld 0 (line (s + 1)) (line (s + 1)) from rfl) ht
  exact ⟨_, .other h0 h1 ((dQ hu s).trans h2) p1, p2⟩
 | @rErr s d ts e h0 h1 h2 ih =>
  intro j' ts' hj ht
  rw [bq hj]
  obtain ⟨r', p1, p2⟩ := ih _ _ (show ld 0 (line (s + 1)) (line (s + 1)) from rfl) ht
  obtain ⟨e', rfl, he⟩ := vf p2
  exact ⟨_, .rErr h0 h1 p1, he⟩
 | @rOne s d ts a t ts1 h0 h1 h2 h3 ih =>
  intro j' ts' hj ht
  rw [bq hj]
  obtain ⟨r', p1, p2⟩ := ih _ _ (show ld 0 (line (s + 1)) (line (s + 1)) from rfl) ht
  obtain ⟨⟨a', us⟩, rfl, ha, hus⟩ := qy p2
  obtain ⟨u, us', rfl, hu, hus'⟩ := map_cons hus
  exact ⟨_, .rOne h0 h1 p1 ((dQ hu s).trans h3), ha, hus⟩
 | @rTwo s d ts a t ts1 k r h0 h1 h2 h3 h4 ih ih2 =>
  intro j' ts' hj ht
  rw [bq hj]
  obtain ⟨r', p1, p2⟩ := ih _ _ (show ld 0 (line (s + 1)) (line (s + 1)) from rfl) ht
  obtain ⟨⟨a', us⟩, rfl, ha, hus⟩ := qy p2
  obtain ⟨u, us', rfl, hu, hus'⟩ := map_cons hus
  obtain ⟨r2, q1, q2⟩ := ih2 _ _ (show ld 0 (line (nx s)) (line (nx s)) from rfl) hus'
  exact ⟨_, .rTwo h0 h1 p1 ((dQ hu s).trans h3) q1, Ml ha q2⟩
 | @lErr s d ts e h0 h1 ih =>
  intro j' ts' hj ht
  rw [bq hj]
  obtain ⟨r', p1, p2⟩ := ih _ _ (show ld 0 (line (s + 1)) (line (s + 1)) from rfl) ht
  obtain ⟨e', rfl, he⟩ := vf p2
  exact ⟨_, .lErr h0 p1, he⟩
 | @lGo s d ts a ts1 r h0 h1 h2 ih ih2 =>
  intro j' ts' hj ht
  rw [bq hj]
  obtain ⟨r', p1, p2⟩ := ih _ _ (show ld 0 (line (s + 1)) (line (s + 1)) from rfl) ht
  obtain ⟨⟨a', us⟩, rfl, ha, hus⟩ := qy p2
  obtain ⟨r2, q1, q2⟩ := ih2 (loop s a') us ⟨rfl, ha⟩ hus
  exact ⟨_, .lGo h0 p1 q1, q2⟩
 | @lpEnd s a d t ts h0 =>
  intro j' ts' hj ht
  obtain ⟨a', rfl, ha⟩ := oV hj
  obtain ⟨u, us, rfl, hu, hus⟩ := map_cons ht
  exact ⟨_, .lpEnd ((dQ hu s).trans h0), ha, ht⟩
 | @lpErr s a d t ts k e h0 h1 ih =>
  intro j' ts' hj ht
  obtain ⟨a', rfl, ha⟩ := oV hj
  obtain ⟨u, us, rfl, hu, hus⟩ := map_cons ht
  obtain ⟨r', p1, p2⟩ := ih _ _ (show ld 0 (line (s + 1)) (line (s + 1)) from rfl) hus
  obtain ⟨e', rfl, he⟩ := vf p2
  exact ⟨_, .lpErr ((dQ hu s).trans h0) p1, he⟩
 | @lpGo s a d t ts k b ts1 r h0 h1 h2 ih ih2 =>
  intro j' ts' hj ht
  obtain ⟨a', rfl, ha⟩ := oV hj
  obtain ⟨u, us, rfl, hu, hus⟩ := map_cons ht
  obtain ⟨r', p1, p2⟩ := ih _ _ (show ld 0 (line (s + 1)) (line (s + 1)) from rfl) hus
  obtain ⟨⟨b', us1⟩, rfl, hb, hus1⟩ := qy p2
  obtain ⟨r2, q1, q2⟩ := ih2 (loop s (.mk k 0 u.2.2.2 [a', b'])) us1 ⟨rfl, by rw [vU, vU, ha, show mp 0 b' = mp 0 b from hb]⟩ hus1
  exact ⟨_, .lpGo ((dQ hu s).trans h0) p1 q1, q2⟩
 | @oWord s d t ts k h0 h1 =>
  intro j' ts' hj ht
  obtain ⟨u, us, rfl, hu, hus⟩ := map_cons ht
  rw [bq hj]
  exact ⟨_, .oWord h0 ((dQ hu s).trans h1), by rw [pD, pD], hus⟩
 | @oNum s d t ts h0 h1 h2 =>
  intro j' ts' hj ht
  obtain ⟨u, us, rfl, hu, hus⟩ := map_cons ht
  rw [bq hj]
  exact ⟨_, .oNum h0 ((dQ hu s).trans h1) (by rw [st1 hu]; exact h2), by rw [pD, pD, st3 hu], hus⟩
 | @oVar s d t ts i h0 h1 h2 h3 h4 =>
  intro j' ts' hj ht
  obtain ⟨u, us, rfl, hu, hus⟩ := map_cons ht
  rw [bq hj]
  exact ⟨_, .oVar h0 ((dQ hu s).trans h1) (by rw [st1 hu]; exact h2) ((mY hu).trans h3) (by rw [st2 hu]; exact h4), by rw [pD, pD], hus⟩
 | @oName s d t ts h0 h1 h2 h3 h4 =>
  intro j' ts' hj ht
  obtain ⟨u, us, rfl, hu, hus⟩ := map_cons ht
  rw [bq hj]
  exact ⟨_, .oName h0 ((dQ hu s).trans h1) (by rw [st1 hu]; exact h2) ((mY hu).trans h3) (by rw [st2 hu]; exact h4), rfl⟩
 | @oOpen s d t ts a c ts1 h0 h1 h2 h3 h4 h5 h6 ih =>
  intro j' ts' hj ht
  obtain ⟨u, us, rfl, hu, hus⟩ := map_cons ht
  rw [bq hj]
  obtain ⟨r', p1, p2⟩ := ih _ _ (show ld 0 (line 1) (line 1) from rfl) hus
  obtain ⟨⟨a', us1⟩, rfl, ha, hus1⟩ := qy p2
  obtain ⟨c', us2, rfl, hc, hus2⟩ := map_cons hus1
  exact ⟨_, .oOpen h0 ((dQ hu s).trans h1) (by rw [st1 hu]; exact h2) ((mY hu).trans h3) ((ua hu).trans h4) p1 ((y9 hc).trans h6), ha, hus2⟩
 | @oErr s d t ts e h0 h1 h2 h3 h4 h5 ih =>
  intro j' ts' hj ht
  obtain ⟨u, us, rfl, hu, hus⟩ := map_cons ht
  rw [bq hj]
  obtain ⟨r', p1, p2⟩ := ih _ _ (show ld 0 (line 1) (line 1) from rfl) hus
  obtain ⟨e', rfl, he⟩ := vf p2
  exact ⟨_, .oErr h0 ((dQ hu s).trans h1) (by rw [st1 hu]; exact h2) ((mY hu).trans h3) ((ua hu).trans h4) p1, he⟩
 | @oClose s d t ts a c ts1 h0 h1 h2 h3 h4 h5 h6 ih =>
  intro j' ts' hj ht
  obtain ⟨u, us, rfl, hu, hus⟩ := map_cons ht
  rw [bq hj]
  obtain ⟨r', p1, p2⟩ := ih _ _ (show ld 0 (line 1) (line 1) from rfl) hus
  obtain ⟨⟨a', us1⟩, rfl, ha, hus1⟩ := qy p2
  obtain ⟨c', us2, rfl, hc, hus2⟩ := map_cons hus1
  exact ⟨_, .oClose h0 ((dQ hu s).trans h1) (by rw [st1 hu]; exact h2) ((mY hu).trans h3) ((ua hu).trans h4) p1 ((y9 hc).trans h6), rfl⟩
 | @oForm s d t ts h0 h1 h2 h3 h4 =>
  intro j' ts' hj ht
  obtain ⟨u, us, rfl, hu, hus⟩ := map_cons ht
  rw [bq hj]
  exact ⟨_, .oForm h0 ((dQ hu s).trans h1) (by rw [st1 hu]; exact h2) ((mY hu).trans h3) ((ua hu).trans h4), rfl⟩
noncomputable def bad (t : Tok) : Bool := t.1 == 4 || (t.1 == 3 && [[123], [125], [59], [58], [44], [61]].contains t.2.1) || (t.1 == 1 && [[118, 97, 114], [112, 114, 111, 99]].contains t.2.1)
theorem zW {s : Nat} {t : Tok} {k : Int} (h : ek s t = some k) : bad t = false := by
 unfold ek fnd at h
 cases hs : sgn t
 ·rw [hs] at h; cases h
 ·rw [hs] at h
  have hm := List.mem_of_find?_eq_some h
  have hp : yz k = t.2.1 := by simpa using List.find?_some h
  have hs' : s = 1 ∨ s = 2 ∨ s = 3 ∨ s = 4 ∨ s = 5 ∨ s = 6 ∨ s = 7 ∨ s = 8 ∨ s = 9 ∨ s = 10 ∨ s = 11 := by
   unfold ops at hm
   split at hm <;> first | simp at hm; done | simp
  have hk : k = 19 ∨ k = 18 ∨ k = 17 ∨ k = 16 ∨ k = 23 ∨ k = 24 ∨ k = 15 ∨ k = 20 ∨ k = 21 ∨ k = 22 ∨ k = 7 ∨ k = 8 ∨ k = 9 ∨ k = 10 ∨ k = 11 ∨ k = 12 ∨ k = 3 ∨ k = 4 ∨ k = 5 ∨ k = 6 ∨ k = 13 ∨ k = 14 := by
   rcases hs' with rfl | rfl | rfl | rfl | rfl | rfl | rfl | rfl | rfl | rfl | rfl <;> simp only [ops, List.mem_cons, List.not_mem_nil, or_false] at hm <;> omega
  have h4 : (t.1 == 4) = false := beq_eq_false_iff_ne.2 (Jz hs)
  unfold bad
  rw [h4, ← hp]
  rcases hk with rfl | rfl | rfl | rfl | rfl | rfl | rfl | rfl | rfl | rfl | rfl | rfl | rfl | rfl | rfl | rfl | rfl | rfl | rfl | rfl | rfl | rfl <;> cases t.1 == 3 <;> cases t.1 == 1 <;> rfl
theorem Az {t : Tok} (h : (t.1 == 2) = true) : bad t = false := by
 unfold bad; rw [beq_iff_eq.1 h]; rfl
theorem CY {t : Tok} (h : iw t = true) : bad t = false := by
 unfold iw at h
 simp only [Bool.and_eq_true, beq_iff_eq, Bool.not_eq_true'] at h
 obtain ⟨h1, h2⟩ := h
 unfold bad
 rw [h1]
 cases hc : ([[118, 97, 114], [112, 114, 111, 99]] : List Str).contains t.2.1
 ·rfl
 ·exfalso
  rw [List.contains_iff_mem] at hc
  unfold key at h2
  have : pV.contains t.2.1 = true := by
   rw [List.contains_iff_mem]
   simp only [List.mem_cons, List.not_mem_nil, or_false] at hc
   rcases hc with h | h <;> rw [h] <;> simp [pV]
  rw [this] at h2; cases h2
theorem Ki {t : Tok} (h : open_ t = true) : bad t = false := by
 unfold open_ at h
 simp only [Bool.and_eq_true, beq_iff_eq] at h
 unfold bad; rw [h.1, h.2]; rfl
theorem Jf {t : Tok} (h : close_ t = true) : bad t = false := by
 unfold close_ at h
 simp only [Bool.and_eq_true, beq_iff_eq] at h
 unfold bad; rw [h.1, h.2]; rfl
noncomputable def mc (r r' : List Tok) : Prop := ∀ t ts, r = t :: ts → ∃ t' ts', r' = t' :: ts' ∧ strip t' = strip t
theorem jR {t u : Tok} {ts us : List Tok} (h : strip u = strip t) : mc (t :: ts) (u :: us) := fun x xs e => by cases e; exact ⟨u, us, rfl, h⟩
noncomputable def ahead (k : Nat) (names names' : List Str) : Prop := ∀ v i, at_ names v = some i → at_ names' v = some (i + k)
noncomputable def pj : Job → List Tok → Prop
 | line _, a => a ≠ []
 | loop _ _, _ => True
theorem P.loc {names : List Str} {j : Job} {d : Int} {ts : List Tok} {r : Out} (h : P names j d ts r) : ∀ p, r = .ok p → ∃ a, ts = a ++ p.2 ∧ pj j a ∧ (∀ t ∈ a, bad t = false) ∧
  ∀ (k : Nat) names' j' a' r', ahead k names names' → ld k j j' → a'.map strip = a.map strip → mc p.2 r' → ∃ x', P names' j' d (a' ++ r') (.ok (x', r')) ∧ mp 0 x' = mp k p.1 := by
 induction h with
 | big => intro p h; cases h
 | @pre s d t ts o r h0 h1 h2 h3 ih =>
  intro p h
  cases r with
  | error e => cases h
  | ok q =>
   cases h
   obtain ⟨a, rfl, _, hb, hl⟩ := ih q rfl
   refine ⟨t :: a, rfl, by simp [pj], fun u hu => ?_, fun k names' j' a' r' hn hj ha hr => ?_⟩
   ·rcases List.mem_cons.1 hu with rfl | hu
    ·exact zW h2
    ·exact hb u hu
   ·obtain ⟨u, us, rfl, hu, hus⟩ := map_cons ha
    rw [bq hj]
    obtain ⟨x', p1, p2⟩ := hl k names' (line s) us r' hn rfl hus hr
    exact ⟨_, .pre h0 h1 ((dQ hu s).trans h2) p1, by rw [HF, HF, p2, show (o == 2) = false from by
     have := kI h2
     rw [beq_eq_false_iff_ne]; rintro rfl
     have : s = 6 ∨ s = 10 := by
      unfold kd at h0
      split at h0 <;> first | (cases h0; done) | simp
     rcases this with rfl | rfl <;> simp [ops] at this]; rfl⟩
 | @other s d t ts r h0 h1 h2 h3 ih =>
  intro p h
  obtain ⟨a, e, hne, hb, hl⟩ := ih p h
  refine ⟨a, e, hne, hb, fun k names' j' a' r' hn hj ha hr => ?_⟩
  rw [bq hj]
  obtain ⟨x', p1, p2⟩ := hl k names' (line (s + 1)) a' r' hn rfl ha hr
  cases a with
  | nil => exact absurd rfl hne
  | cons t0 a0 =>
   cases e
   obtain ⟨u, us, rfl, hu, hus⟩ := map_cons ha
   exact ⟨_, .other h0 h1 ((dQ hu s).trans h2) p1, p2⟩
 | rErr => intro p h; cases h
 | @rOne s d ts a t ts1 h0 h1 h2 h3 ih =>
  intro p h
  cases h
  obtain ⟨c, e, hne, hb, hl⟩ := ih _ rfl
  refine ⟨c, e, hne, hb, fun k names' j' a' r' hn hj ha hr => ?_⟩
  rw [bq hj]
  obtain ⟨u, us, rfl, hu⟩ := hr t ts1 rfl
  obtain ⟨x', p1, p2⟩ := hl k names' (line (s + 1)) a' (u :: us) hn rfl ha hr
  exact ⟨_, .rOne h0 h1 p1 ((dQ hu s).trans h3), p2⟩
 | @rTwo s d ts a t ts1 o r h0 h1 h2 h3 h4 ih ih2 =>
  intro p h
  cases r with
  | error e => cases h
  | ok q =>
   cases h
   obtain ⟨c, rfl, hne, hb, hl⟩ := ih _ rfl
   obtain ⟨c2, rfl, _, hb2, hl2⟩ := ih2 q rfl
   refine ⟨c ++ t :: c2, by simp, by cases c <;> simp [pj], fun u hu => ?_, fun k names' j' a' r' hn hj ha hr => ?_⟩
   ·rcases List.mem_append.1 hu with hu | hu
    ·exact hb u hu
    ·rcases List.mem_cons.1 hu with rfl | hu
     ·exact zW h3
     ·exact hb2 u hu
   ·rw [bq hj]
    obtain ⟨a1, b1, rfl, ha1, hb1⟩ := ig ha
    obtain ⟨u, us, rfl, hu, hus⟩ := map_cons hb1
    obtain ⟨x', p1, p2⟩ := hl k names' (line (s + 1)) a1 (u :: (us ++ r')) hn rfl ha1 (jR hu)
    obtain ⟨y', q1, q2⟩ := hl2 k names' (line (nx s)) us r' hn rfl hus hr
    refine ⟨.mk o 0 u.2.2.2 [x', y'], by rw [List.append_assoc]; exact .rTwo h0 h1 p1 ((dQ hu s).trans h3) q1, by
     rw [vU, vU, p2, q2, show (o == 2) = false from by
      have := kI h3
      rw [beq_eq_false_iff_ne]; rintro rfl
      have : s = 1 ∨ s = 2 ∨ s = 5 ∨ s = 7 := by
       unfold kd at h0
       split at h0 <;> first | (cases h0; done) | simp
      rcases this with rfl | rfl | rfl | rfl <;> simp [ops] at this]; rfl⟩
 | lErr => intro p h; cases h
 | @lGo s d ts a ts1 r h0 h1 h2 ih ih2 =>
  intro p h
  obtain ⟨c, rfl, hne, hb, hl⟩ := ih _ rfl
  obtain ⟨c2, e2, _, hb2, hl2⟩ := ih2 p h
  subst e2
  refine ⟨c ++ c2, by simp, by cases c <;> simp_all [pj], fun u hu => ?_, fun k names' j' a' r' hn hj ha hr => ?_⟩
  ·rcases List.mem_append.1 hu with hu | hu
   ·exact hb u hu
   ·exact hb2 u hu
  ·rw [bq hj]
   obtain ⟨a1, b1, rfl, ha1, hb1⟩ := ig ha
   have hh : mc (c2 ++ p.2) (b1 ++ r') := by
    intro t ts e
    cases c2 with
    | nil =>
     have : b1 = [] := by simpa using hb1
     subst this
     exact hr t ts e
    | cons y ys =>
     obtain ⟨u, us, rfl, hu, hus⟩ := map_cons hb1
     cases e
     exact ⟨u, _, rfl, hu⟩
   obtain ⟨x', p1, p2⟩ := hl k names' (line (s + 1)) a1 (b1 ++ r') hn rfl ha1 hh
   obtain ⟨y', q1, q2⟩ := hl2 k names' (loop s x') b1 r' hn ⟨rfl, p2⟩ hb1 hr
   exact ⟨_, by rw [List.append_assoc]; exact .lGo h0 p1 q1, q2⟩
 | @lpEnd s a d t ts h0 =>
  intro p h
  cases h
  refine ⟨[], rfl, trivial, fun u hu => (by cases hu), fun k names' j' a' r' hn hj ha hr => ?_⟩
  obtain ⟨x', rfl, hx⟩ := oV hj
  have : a' = [] := by simpa using ha
  subst this
  obtain ⟨u, us, rfl, hu⟩ := hr t ts rfl
  exact ⟨x', .lpEnd ((dQ hu s).trans h0), hx⟩
 | lpErr => intro p h; cases h
 | @lpGo s a d t ts o b ts1 r h0 h1 h2 ih ih2 =>
  intro p h
  obtain ⟨c, rfl, hne, hb, hl⟩ := ih _ rfl
  obtain ⟨c2, e2, _, hb2, hl2⟩ := ih2 p h
  subst e2
  refine ⟨t :: (c ++ c2), by simp, trivial, fun u hu => ?_, fun k names' j' a' r' hn hj ha hr => ?_⟩
  ·rcases List.mem_cons.1 hu with rfl | hu
   ·exact zW h0
   ·rcases List.mem_append.1 hu with hu | hu
    ·exact hb u hu
    ·exact hb2 u hu
  ·obtain ⟨x', rfl, hx⟩ := oV hj
   obtain ⟨u, us, rfl, hu, hus⟩ := map_cons ha
   obtain ⟨a1, b1, rfl, ha1, hb1⟩ := ig hus
   have hh : mc (c2 ++ p.2) (b1 ++ r') := by
    intro t ts e
    cases c2 with
    | nil =>
     have : b1 = [] := by simpa using hb1
     subst this
     exact hr t ts e
    | cons y ys =>
     obtain ⟨u, us, rfl, hu, hus⟩ := map_cons hb1
     cases e
     exact ⟨u, _, rfl, hu⟩
   obtain ⟨y', p1, p2⟩ := hl k names' (line (s + 1)) a1 (b1 ++ r') hn rfl ha1 hh
   have ho : (o == 2) = false := by
    have := kI h0
    rw [beq_eq_false_iff_ne]; rintro rfl
    unfold ops at this
    split at this <;> simp at this
   obtain ⟨z', q1, q2⟩ := hl2 k names' (loop s (.mk o 0 u.2.2.2 [x', y'])) b1 r' hn ⟨rfl, by rw [vU, vU, hx, show mp 0 y' = mp k b from p2, ho]; rfl⟩ hb1 hr
   refine ⟨z', ?_, q2⟩
   rw [List.cons_append, List.append_assoc]
   exact .lpGo ((dQ hu s).trans h0) p1 q1
 | @oWord s d t ts o h0 h1 =>
  intro p h
  cases h
  refine ⟨[t], rfl, by simp [pj], fun u hu => by rw [List.mem_singleton.1 hu]; exact zW h1, fun k names' j' a' r' hn hj ha hr => ?_⟩
  obtain ⟨u, us, rfl, hu, hus⟩ := map_cons ha
  have : us = [] := by simpa using hus
  subst this
  rw [bq hj]
  have ho : (o == 2) = false := by
   have := kI h1
   rw [beq_eq_false_iff_ne]; rintro rfl
   unfold ops at this
   split at this <;> simp at this
  exact ⟨_, .oWord h0 ((dQ hu s).trans h1), by rw [pD, pD, ho]; rfl⟩
 | @oNum s d t ts h0 h1 h2 =>
  intro p h
  cases h
  refine ⟨[t], rfl, by simp [pj], fun u hu => by rw [List.mem_singleton.1 hu]; exact Az h2, fun k names' j' a' r' hn hj ha hr => ?_⟩
  obtain ⟨u, us, rfl, hu, hus⟩ := map_cons ha
  have : us = [] := by simpa using hus
  subst this
  rw [bq hj]
  exact ⟨_, .oNum h0 ((dQ hu s).trans h1) (by rw [st1 hu]; exact h2), by rw [pD, pD, st3 hu]; rfl⟩
 | @oVar s d t ts i h0 h1 h2 h3 h4 =>
  intro p h
  cases h
  refine ⟨[t], rfl, by simp [pj], fun u hu => by rw [List.mem_singleton.1 hu]; exact CY h3, fun k names' j' a' r' hn hj ha hr => ?_⟩
  obtain ⟨u, us, rfl, hu, hus⟩ := map_cons ha
  have : us = [] := by simpa using hus
  subst this
  rw [bq hj]
  exact ⟨_, .oVar h0 ((dQ hu s).trans h1) (by rw [st1 hu]; exact h2) ((mY hu).trans h3) (by rw [st2 hu]; exact hn _ _ h4), by
   rw [pD, pD]
   show Ex.mk 2 (((i + k : Nat) : Int) + 0) 0 [] = Ex.mk 2 ((i : Int) + (k : Int)) 0 []
   rw [show ((i + k : Nat) : Int) + 0 = (i : Int) + (k : Int) by omega]⟩
 | oName => intro p h; cases h
 | @oOpen s d t ts a c ts1 h0 h1 h2 h3 h4 h5 h6 ih =>
  intro p h
  cases h
  obtain ⟨e, rfl, hne, hb, hl⟩ := ih _ rfl
  refine ⟨t :: (e ++ [c]), by simp, by simp [pj], fun u hu => ?_, fun k names' j' a' r' hn hj ha hr => ?_⟩
  ·rcases List.mem_cons.1 hu with rfl | hu
   ·exact Ki h4
   ·rcases List.mem_append.1 hu with hu | hu
    ·exact hb u hu
    ·rw [List.mem_singleton.1 hu]; exact Jf h6
  ·obtain ⟨u, us, rfl, hu, hus⟩ := map_cons ha
   obtain ⟨a1, b1, rfl, ha1, hb1⟩ := ig hus
   obtain ⟨c', us2, rfl, hc, hus2⟩ := map_cons hb1
   have : us2 = [] := by simpa using hus2
   subst this
   rw [bq hj]
   obtain ⟨x', p1, p2⟩ := hl k names' (line 1) a1 (c' :: r') hn rfl ha1 (jR hc)
   refine ⟨x', ?_, p2⟩
   rw [List.cons_append, List.append_assoc]
   exact .oOpen h0 ((dQ hu s).trans h1) (by rw [st1 hu]; exact h2) ((mY hu).trans h3) ((ua hu).trans h4) p1 ((y9 hc).trans h6)
 | oErr => intro p h; cases h
 | oClose => intro p h; cases h
 | oForm => intro p h; cases h
end Pa
end Go.Proofs.YtdhgpnejphlfpaaDoor
namespace Go.Proofs.YtdhgpnejphlfpaaDoor
namespace Lx
theorem L3 (c : UInt8) : wO (c.toNat : Int) = some (il c) := by
 have h1 := uh c 32; have h2 := uh c 9; have h3 := uh c 10; have h4 := uh c 13
 show some (((((c.toNat : Int) == 32) || ((c.toNat : Int) == 9)) || ((c.toNat : Int) == 10)) || ((c.toNat : Int) == 13)) = _
 rw [show ((32 : Int) = ((32 : UInt8).toNat : Int)) from rfl, show ((9 : Int) = ((9 : UInt8).toNat : Int)) from rfl, show ((10 : Int) = ((10 : UInt8).toNat : Int)) from rfl, show ((13 : Int) = ((13 : UInt8).toNat : Int)) from rfl, h1, h2, h3, h4]
 rfl
theorem BE (c : UInt8) : qd (c.toNat : Int) = some (gS c) := by
 show some ((((decide ((97 : Int) ≤ (c.toNat : Int))) && (decide ((c.toNat : Int) ≤ 122))) || ((decide ((65 : Int) ≤ (c.toNat : Int))) && (decide ((c.toNat : Int) ≤ 90)))) || ((c.toNat : Int) == 95)) = _
 have h1 := Ar 97 c; have h2 := Ar c 122; have h3 := Ar 65 c; have h4 := Ar c 90; have h5 := uh c 95
 rw [show ((97 : Int) = ((97 : UInt8).toNat : Int)) from rfl, show ((122 : Int) = ((122 : UInt8).toNat : Int)) from rfl, show ((65 : Int) = ((65 : UInt8).toNat : Int)) from rfl, show ((90 : Int) = ((90 : UInt8).toNat : Int)) from rfl, show ((95 : Int) = ((95 : UInt8).toNat : Int)) from rfl, h1, h2, h3, h4, h5]
 rfl
theorem yo (c : UInt8) : oY (c.toNat : Int) = some (isDigit c) := by
 show some ((decide ((48 : Int) ≤ (c.toNat : Int))) && (decide ((c.toNat : Int) ≤ 57))) = _
 have h1 := Ar 48 c; have h2 := Ar c 57
 rw [show ((48 : Int) = ((48 : UInt8).toNat : Int)) from rfl, show ((57 : Int) = ((57 : UInt8).toNat : Int)) from rfl, h1, h2]
 rfl
theorem IU (c : UInt8) : pT (c.toNat : Int) = some (fe c) := by
 unfold pT fe
 rw [BE, di, yo]
 cases gS c <;> rfl
theorem Lp (c : UInt8) : pG (c.toNat : Int) = some (jP c) := by
 show some ((c.toNat : Int) != 10) = some (jP c)
 have h1 := uh c 10
 unfold jP bne
 rw [show ((10 : Int) = ((10 : UInt8).toNat : Int)) from rfl, h1]
theorem HS {text : Str} (h : text.length < 9223372036854775807) : vl text = some (text.takeWhile fe) := A5 IU h (fun _ _ => rfl)
theorem JW {text : Str} (h : text.length < 9223372036854775807) : uZ text = some (text.takeWhile isDigit) := A5 yo h (fun _ _ => rfl)
theorem IB {text : Str} (h : text.length < 9223372036854775807) : A3 text = some (text.takeWhile jP) := A5 Lp h (fun _ _ => rfl)
theorem My (s : Str) (hd : s.all isDigit = true) (hl : s.length < 9223372036854775807) :
  wi s = some (if big (ck 0 s) then (0, false) else (ck 0 s, true)) := by
 have hall : ∀ k (h : k < s.length), isDigit s[k] = true := fun k h => List.all_eq_true.1 hd _ (List.getElem_mem h)
 have key : ∀ N k, k ≤ s.length → s.length - k < N → ck 0 (s.take k) ≤ 1073741824 → an (nz s) N (ck 0 (s.take k), k) = some (if big (ck 0 s) then (0, false) else (ck 0 s, true)) := by
  intro N
  induction N with
  | zero => intro k _ h; omega
  | succ N ih =>
   intro k hk hN hn
   have h0 : 0 ≤ ck 0 (s.take k) := nC _ 0 (Int.le_refl _) (by
    rw [List.all_eq_true]; intro c hc; exact List.all_eq_true.1 hd c (List.mem_of_mem_take hc))
   rw [au]
   show (bif decide (k < s.length) then _ else _) = _
   by_cases hlt : k < s.length
   ·rw [sG hlt, cond_true]
    obtain ⟨e1, e2⟩ := GZ s k hlt (hall k hlt)
    have hdl := Jr (hall k hlt)
    have hstep : (IntKind.i64.wrap ((IntKind.i64.wrap (10 * ck 0 (s.take k))) + (IntKind.i64.wrap (IntKind.i32.wrap ((lS s k) - 48))))) = ck 0 (s.take (k + 1)) := by
     rw [e1, Dk s 0 k hlt]
     unfold dig at hdl ⊢
     rw [w32 (by omega), w64 (x := 10 * _) (by omega), w64 (x := (s[k].toNat : Int) - 48) (by omega), w64 (by omega)]
    simp only [hstep, e2]
    by_cases hb : 1073741824 < ck 0 (s.take (k + 1))
    ·rw [sG hb, cond_true]
     have h1 : ck 0 (s.take (k + 1)) ≤ ck 0 s := by
      have h2 : ck 0 s = ck (ck 0 (s.take (k + 1))) (s.drop (k + 1)) := by
       unfold ck
       rw [← List.foldl_append, List.take_append_drop]
      rw [h2]
      exact nC _ _ (by omega) (by
       rw [List.all_eq_true]; intro c hc; exact List.all_eq_true.1 hd c (List.mem_of_mem_drop hc))
     rw [if_pos (by simp [big]; omega)]
    ·rw [sx hb, cond_false]
     exact ih (k + 1) (by omega) (by omega) (by omega)
   ·have hk' : k = s.length := by omega
    subst hk'
    rw [sx hlt, cond_false, List.take_length] at *
    rw [if_neg (by simp [big]; omega)]
 exact key ar 0 (by omega) (by rw [uU]; omega) (by simp [ck])
theorem Mm : vM = some eR := rfl
theorem Jv (s g : Str) (_h : s.length < 9223372036854775807) : lL s g = some (g.isPrefixOf s) := by
 show (cu s g).bind (fun r1 => some r1) = _
 have hi : cu s g = some (g.isPrefixOf s) := by
  unfold cu
  simp only [Gx]
  by_cases hl : g.length ≤ s.length
  ·rw [sG (by omega), w8, cond_true, sE (by omega) (by omega) (by omega), cond_true, Bool.true_and]
   congr 1
   rw [Bool.eq_iff_iff, List.isPrefixOf_iff_prefix, beq_iff_eq]
   have : cut s 0 (g.length : Int) = s.take g.length := by simp [cut]
   rw [this]
   constructor
   ·intro h; rw [← h]; exact List.take_prefix ..
   ·intro h; exact (List.prefix_iff_eq_take.1 h).symm
  ·rw [sx (by omega), zh, Bool.false_and]
   congr 1
   symm
   rw [Bool.eq_false_iff, Ne, List.isPrefixOf_iff_prefix]
   intro h
   exact hl h.length_le
 rw [hi]; rfl
theorem sign_eq (s : Str) (h : s.length < 9223372036854775807) : vw s = some (dH s) := by
 unfold vw
 rw [Mm, di]
 have key : ∀ N k, k ≤ eR.length → eR.length - k < N → (∀ i (h : i < eR.length), i < k → eR[i].isPrefixOf s = false) → an (x9 s eR) N ((k : Nat) : Int) = some (dH s) := by
  intro N
  induction N with
  | zero => intro k _ h; omega
  | succ N ih =>
   intro k hk hN hp
   rw [au]
   show (bif (decide (((k : Nat) : Int) < (List.length eR : Int))) then _ else _) = _
   by_cases hlt : k < eR.length
   ·rw [sG (by omega), cond_true, PH hlt, di, Jv _ _ h, di]
    cases hpk : eR[k].isPrefixOf s
    ·simp only [cond_false]
     rw [w64 (by have : eR.length = 22 := rfl; omega)]
     exact ih (k + 1) (by omega) (by omega) (fun i h hi => by
      rcases Nat.lt_or_ge i k with h' | h'
      ·exact hp i h h'
      ·have : i = k := by omega
       subst this; exact hpk)
    ·simp only [cond_true]
     congr 1
     unfold dH
     have : eR.find? (fun g => g.isPrefixOf s) = some eR[k] := by
      rw [List.find?_eq_some_iff_getElem]
      exact ⟨hpk, k, hlt, rfl, fun j hj => by simp [hp j (by omega) hj]⟩
     rw [this]; rfl
   ·rw [sx (by omega), cond_false]
    congr 1
    unfold dH
    have : eR.find? (fun g => g.isPrefixOf s) = none := by
     rw [List.find?_eq_none]
     intro g hg
     obtain ⟨i, hi, rfl⟩ := List.mem_iff_getElem.1 hg
     simp [hp i hi (by omega)]
    rw [this]; rfl
 exact key ar 0 (by omega) (by rw [uU]; have : eR.length = 22 := rfl; omega) (fun i _ h => by omega)
theorem Kp (c : UInt8) (s : Str) (hb : il c = false) (hc : (c == 35) = false) (hl : (c :: s).length < 9223372036854775807) :
  sC (c :: s) = some (match step (c :: s) with
   | .skip _ => ((0, [], 0, 0), 0)
   | .err e => ((0, [], 0, 0), e)
   | .tok k t n => ((k, t, n, 0), 0)) := by
 unfold sC
 have hb0 : gK (c :: s) 0 = (c.toNat : Int) := by
  have := vj (c :: s) 0 (by simp)
  simpa using this
 rw [yP (by omega) (by simp), cD, hb0, BE, di]
 simp only [step, hb, hc, Bool.false_eq_true, if_false]
 cases hlet : gS c
 ·simp only [cond_false, Bool.false_eq_true, if_false]
  rw [yo, di]
  cases hdig : isDigit c
  ·simp only [cond_false, Bool.false_eq_true, if_false]
   rw [sign_eq _ hl, di]
   cases hsg : (dH (c :: s) == [])
   ·simp
   ·simp
  ·simp only [cond_true, if_true]
   rw [JW hl, di, My _ (jU _ _) (by have := pL isDigit (c :: s); omega), di]
   cases hbig : big (ck 0 ((c :: s).takeWhile isDigit))
   ·simp
   ·simp
 ·simp only [cond_true, if_true]
  rw [HS hl, di]
  by_cases h32 : 32 < ((c :: s).takeWhile fe).length
  ·rw [sG (by omega), cond_true, if_pos h32]
  ·rw [sx (by omega), cond_false, if_neg h32]
theorem Fj (text : Str) (hlen : text.length ≤ 65536) : ∀ (N f at_ : Nat) (out : List Tok), at_ ≤ text.length → text.length - at_ < N → text.length - at_ < f → out.length ≤ at_ →
  an (l8 text) N (out, (at_ : Int)) = some (Jn out (dP f at_ (text.drop at_))) := by
 intro N
 induction N with
 | zero => intro f at_ out _ h; omega
 | succ N ih =>
  intro f at_ out hat hN hf hout
  obtain ⟨f, rfl⟩ : ∃ g, f = g + 1 := ⟨f - 1, by omega⟩
  rw [au]
  generalize an (l8 text) N = again at ih ⊢
  unfold l8
  dsimp only
  simp only [Gx]
  cases hd : text.drop at_ with
  | nil =>
   have hge : ¬ ((at_ : Int) < (text.length : Int)) := by
    have := congrArg List.length hd
    simp at this; omega
   have hge' : at_ = text.length := by omega
   rw [sx hge]
   simp only [zh, CI, Bool.false_and, cond_false]
   rw [dj (by simp; omega) (by simp; omega), cD]
   rfl
  | cons c r =>
   obtain ⟨hlt, hget⟩ := B9 hd
   have hdl : (c :: r).length = text.length - at_ := by rw [← hd]; simp
   have hbyte : gK text (at_ : Int) = (c.toNat : Int) := by rw [vj _ _ hlt, hget]
   rw [sG (by omega)]
   simp only [w8, cond_true, yP (show (0 : Int) ≤ (at_ : Int) by omega) (show (at_ : Int) < (text.length : Int) by omega), Fa, Bool.true_and, hbyte, L3, di]
   cases hb : il c
   ·simp only [cond_false]
    have h35 : ((c.toNat : Int) == 35) = (c == 35) := by
     rw [show ((35 : Int) = ((35 : UInt8).toNat : Int)) from rfl]; exact uh c 35
    rw [h35]
    cases hc : (c == 35)
    ·simp only [cond_false]
     rw [sE (by omega) (by omega) (by omega), cD, Gj, hd, Kp c r hb hc (by omega), di]
     simp only [dP]
     cases hst : step (c :: r) with
     | skip k =>
      exfalso
      simp only [step, hb, hc, Bool.false_eq_true, if_false] at hst
      repeat (split at hst <;> try (cases hst))
     | err e =>
      have he := vW hst
      simp only []
      rw [show (e != 0) = true from by simpa using he, cond_true]
      rfl
     | tok k t n =>
      obtain ⟨ht1, ht2⟩ := step_take hb hc hst
      have ht3 := ht2.length_le
      simp only []
      rw [show ((0 : Int) != 0) = false from rfl, cond_false, dj (by simp; omega) (by simp; omega), cD, w64 (by omega)]
      have e1 : ((at_ : Int) + (t.length : Int)) = ((at_ + t.length : Nat) : Int) := by omega
      rw [e1, ih f (at_ + t.length) (out ++ [(k, t, n, (at_ : Int))]) (by omega) (by omega) (by omega) (by simp; omega)]
      have e2 : text.drop (at_ + t.length) = (c :: r).drop t.length := by rw [← hd, List.drop_drop]
      rw [e2]
      cases dP f (at_ + t.length) ((c :: r).drop t.length) <;> simp [Jn]
    ·simp only [cond_true]
     rw [sE (by omega) (by omega) (by omega), cD, Gj, hd, IB (by omega), di]
     have hpos : 1 ≤ ((c :: r).takeWhile jP).length := lV (by
      have : c = 35 := by simpa using hc
      subst this; decide)
     have hle := pL jP (c :: r)
     rw [w64 (by omega)]
     have e1 : ((at_ : Int) + (((c :: r).takeWhile jP).length : Int)) = ((at_ + ((c :: r).takeWhile jP).length : Nat) : Int) := by omega
     rw [e1, ih f (at_ + ((c :: r).takeWhile jP).length) out (by omega) (by omega) (by omega) (by omega)]
     have e2 : text.drop (at_ + ((c :: r).takeWhile jP).length) = (c :: r).drop ((c :: r).takeWhile jP).length := by rw [← hd, List.drop_drop]
     rw [e2]
     have hst : step (c :: r) = .skip ((c :: r).takeWhile jP).length := by simp [step, hb, hc]
     simp only [dP, hst]
   ·simp only [cond_true]
    rw [w64 (by omega)]
    have e1 : ((at_ : Int) + 1) = ((at_ + 1 : Nat) : Int) := by omega
    rw [e1, ih f (at_ + 1) out (by omega) (by omega) (by omega) (by omega)]
    have e2 : text.drop (at_ + 1) = (c :: r).drop 1 := by rw [← hd, List.drop_drop]
    rw [e2]
    have hst : step (c :: r) = .skip 1 := by simp [step, hb]
    simp only [dP, hst]
theorem Ju (text : Str) : qf text = some (tokens text) := by
 unfold qf tokens
 by_cases h : 65536 < text.length
 ·rw [sG (by omega), cond_true, if_pos h]
 ·rw [sx (by omega), cond_false, if_neg h]
  have := Fj text (by omega) ar (text.length + 1) 0 [] (by omega) (by rw [uU]; omega) (by omega) (by simp)
  simp only [List.drop_zero] at this
  have h0 : ((0 : Nat) : Int) = 0 := rfl
  rw [h0] at this
  rw [this]
  cases dP (text.length + 1) 0 text <;> rfl
end Lx
end Go.Proofs.YtdhgpnejphlfpaaDoor
namespace Go.Proofs.YtdhgpnejphlfpaaDoor
theorem FQ {l pre r : List Str} {x : Str} (h : l = pre ++ x :: r) : idx l (pre.length : Int) = some x := by subst h; simp [idx]
theorem MQ {l pre r : List Str} {x : Str} (h : l = pre ++ x :: r) : decide ((pre.length : Int) < (List.length l : Int)) = true := by subst h; simp; omega
theorem MO {l pre : List Str} (h : l = pre ++ []) : decide ((pre.length : Int) < (List.length l : Int)) = false := by subst h; simp
theorem zN (s : List Str) (v : Str) (hl : s.length < 4611686018427387904) : ∀ (r pre : List Str), s = pre ++ r → ∀ (M : Nat), r.length < M →
  ∃ z, an (cG s v) M (pre.length : Int) = some z ∧ decide (0 ≤ z) = r.contains v
 | [], pre, h, M, hM => by
  obtain ⟨m, rfl⟩ : ∃ m, M = m + 1 := ⟨M - 1, by simp at hM; omega⟩
  rw [au]
  simp only [cG, MO h, cond_false]
  exact ⟨_, rfl, rfl⟩
 | x :: r, pre, h, M, hM => by
  obtain ⟨m, rfl⟩ : ∃ m, M = m + 1 := ⟨M - 1, by omega⟩
  rw [au]
  have hlen : pre.length < 4611686018427387904 := by rw [h] at hl; simp at hl; omega
  obtain ⟨z, hz, hd⟩ := zN s v hl r (pre ++ [x]) (by rw [h]; simp) m (by simp at hM; omega)
  rw [show ((pre ++ [x]).length : Int) = ((pre.length + 1 : Nat) : Int) by simp] at hz
  simp only [cG, MQ h, cond_true, FQ h, aq, im hlen]
  cases hv : (v == x)
  ·simp only [cond_false]
   exact ⟨z, hz, by rw [hd, List.contains_cons, hv, Bool.false_or]⟩
  ·simp only [cond_true]
   exact ⟨_, rfl, by rw [List.contains_cons, hv, Bool.true_or]; simp⟩
theorem Fc (s : List Str) (v : Str) (h : s.length < 4611686018427387904) : dp s v = some (s.contains v) := by
 obtain ⟨z, hz, hd⟩ := zN s v h s [] rfl ar (by show s.length < 2 ^ 64; omega)
 unfold dp gh
 rw [show an (cG s v) ar 0 = some z from hz, aq, hd]
theorem CX (name : Str) : l9 name = some (pV.contains name) := by
 unfold l9
 rw [Fc sH name (by decide)]
 rfl
theorem OC {op : Int} (h1 : 1 ≤ op) (h2 : op ≤ 24) : idx kP op = some (yz op) := by
 unfold idx
 have hl : kP.length = 25 := rfl
 have he : kP = Jt := rfl
 rw [if_pos (by omega), List.getElem?_eq_getElem (by omega)]
 unfold yz
 rw [← he]
 simp [List.getD, List.getElem?_eq_getElem (show op.toNat < kP.length by omega)]
end Go.Proofs.YtdhgpnejphlfpaaDoor
namespace Go.Proofs.YtdhgpnejphlfpaaDoor
namespace Pa
open Job
abbrev R5 := Ex × Int × Int × Int × Int
theorem ey (x : Option R5) : (x.bind fun r => some (r.1, r.2.1, r.2.2.1, r.2.2.2.1, r.2.2.2.2)) = x := by cases x <;> rfl
theorem drop_cons {l : List Tok} {k : Nat} {t : Tok} {r : List Tok} (h : l.drop k = t :: r) : idx l (k : Int) = some t ∧ l.drop (k + 1) = r ∧ k < l.length := by
 have hk : k < l.length := by
  by_cases hk : k < l.length
  ·exact hk
  ·rw [List.drop_eq_nil_of_le (by omega)] at h; cases h
 rw [List.drop_eq_getElem_cons hk] at h
 cases h
 refine ⟨?_, rfl, hk⟩
 simp [idx, List.getElem?_eq_getElem hk]
theorem J1 {l : List Tok} {k : Nat} (h : k < l.length) : ∃ t, idx l (k : Int) = some t := ⟨l[k], by simp [idx, List.getElem?_eq_getElem h]⟩
/-! is: one of these parts? -/
noncomputable def isR : Option Int → Int × Bool
 | some k => (k, true)
 | none => (0, false)
theorem OP {l pre r : List Int} {x : Int} (h : l = pre ++ x :: r) : idx l (pre.length : Int) = some x := by subst h; simp [idx]
theorem Qh {l pre r : List Int} {x : Int} (h : l = pre ++ x :: r) : decide ((pre.length : Int) < (List.length l : Int)) = true := by subst h; simp; omega
theorem Qa {l pre : List Int} (h : l = pre ++ []) : decide ((pre.length : Int) < (List.length l : Int)) = false := by subst h; simp
theorem FC {l : List Int} (ho : ∀ o ∈ l, 1 ≤ o ∧ o ≤ 24) (hl : l.length < 4611686018427387904) (t : Tok) : ∀ (r pre : List Int), l = pre ++ r → ∀ (M : Nat), r.length < M →
  an (fz l t) M (pre.length : Int) = some (isR (r.find? (fun o => yz o == t.2.1)))
 | [], pre, h, M, hM => by
  obtain ⟨m, rfl⟩ : ∃ m, M = m + 1 := ⟨M - 1, by simp at hM; omega⟩
  rw [au]
  simp only [fz, Qa h, cond_false]
  rfl
 | x :: r, pre, h, M, hM => by
  obtain ⟨m, rfl⟩ : ∃ m, M = m + 1 := ⟨M - 1, by omega⟩
  rw [au]
  have hlen : pre.length < 4611686018427387904 := by rw [h] at hl; simp at hl; omega
  have ih := FC ho hl t r (pre ++ [x]) (by rw [h]; simp) m (by simp at hM; omega)
  rw [show ((pre ++ [x]).length : Int) = ((pre.length + 1 : Nat) : Int) by simp] at ih
  have hx := ho x (by rw [h]; simp)
  simp only [fz, Qh h, cond_true, OP h, aq, OC hx.1 hx.2, im hlen]
  cases hv : (yz x == t.2.1)
  ·simp only [cond_false]
   rw [ih, List.find?_cons, hv]
  ·simp only [cond_true]
   rw [List.find?_cons, hv]; rfl
theorem Qf {l : List Int} (ho : ∀ o ∈ l, 1 ≤ o ∧ o ≤ 24) (hl : l.length < 4611686018427387904) {ts : List Tok} {a : Int} {t : Tok} (h : idx ts a = some t) (names : List Str) (d b p : Int) : aw l ts a names d b p = some (isR (fnd l t)) := by
 unfold aw ao
 rw [h]
 simp only [aq, cz, CX]
 have hi := FC ho hl t l [] rfl ar (by show l.length < 2 ^ 64; omega)
 have hi : an (fz l t) ar 0 = some (isR (l.find? (fun o => yz o == t.2.1))) := hi
 rw [hi]
 unfold fnd sgn key
 cases h3 : (t.1 == 3)
 ·have : (t.1 != 3) = true := by simp [bne, h3]
  rw [this]
  cases h1 : (t.1 == 1)
  ·rfl
  ·simp only [Bool.true_and, gi, aq, Bool.false_or]
   cases hk : pV.contains t.2.1 <;> rfl
 ·have : (t.1 != 3) = false := by simp [bne, h3]
  rw [this]
  simp only [Bool.false_and, uV, cond_false, Bool.true_or, cond_true]
theorem IA : ∀ s : Nat, (∀ o ∈ ops s, 1 ≤ o ∧ o ≤ 24) ∧ (ops s).length < 4611686018427387904 := by
 intro s
 unfold ops
 split <;> (refine ⟨?_, ?_⟩ <;> simp)
theorem nR (s : Nat) {ts : List Tok} {a : Int} {t : Tok} (h : idx ts a = some t) (names : List Str) (d b p : Int) : aw (ops s) ts a names d b p = some (isR (ek s t)) := Qf (IA s).1 (IA s).2 h names d b p
theorem mK {ts : List Tok} {a : Int} {t : Tok} (h : idx ts a = some t) (names : List Str) (d b p : Int) : ao ts a names d b p = some t := by unfold ao; rw [h]; rfl
theorem tX {ts : List Tok} {a : Int} {t : Tok} (h : idx ts a = some t) (names : List Str) (e d p : Int) : aB e ts a names d 0 p = some (.mk 0 0 0 [], e, t.2.2.2) := by unfold aB; rw [h]; rfl
/-! what is to be shown -/
noncomputable def Rs (l : List Tok) (d pl : Int) : Out → Option R5 → Prop
 | .ok p, m => ∃ k : Nat, l.drop k = p.2 ∧ m = some (p.1, (k : Int), d, 0, pl)
 | .error e, m => ∃ (x : Ex) (k : Nat), k < l.length ∧ m = some (x, (k : Int), d, e.1, e.2)
noncomputable def Snd (names : List Str) (l : List Tok) (j : Job) (d : Int) (ts : List Tok) (pl : Int) (m : Option R5) : Prop := ∃ r, P names j d ts r ∧ Rs l d pl r m
noncomputable def wq (names : List Str) (l : List Tok) (s : Nat) (D : Int) (ts : List Tok) (pl : Int) (m : Option R5) : Prop :=
 ∃ r, (∀ d, dn s d = D → lY s d = false → P names (line s) d ts r) ∧ Rs l D pl r m
theorem vW {names : List Str} {j : Job} {d : Int} {ts : List Tok} {e : Int × Int} (h : P names j d ts (.error e)) : (e.1 != 0) = true := by
 have := h.err e rfl
 simp only [bne_iff_ne, ne_eq]
 omega
theorem Dh {names : List Str} {j : Job} {d : Int} {ts : List Tok} {e : Int × Int} (h : P names j d ts (.error e)) : (e.1 == 0) = false := by
 have := h.err e rfl
 simp only [beq_eq_false_iff_ne, ne_eq]
 omega
noncomputable def nh (names : List Str) (l : List Tok) (ops : List Int) (one : Option R5) (whole : Int → Int → Int → Int → Option R5) : Option R5 :=
 one.bind fun r11 =>
 (aw ops l r11.2.1 names r11.2.2.1 r11.2.2.2.1 r11.2.2.2.2).bind fun r19 =>
 ah (r11.2.2.2.1 != 0) fun b22 =>
 ah (!r19.2) fun b24 =>
 ah (b22 || b24) fun b26 =>
 bif b26 then (
 some (r11.1, r11.2.1, r11.2.2.1, r11.2.2.2.1, r11.2.2.2.2))
 else (
 (ao l r11.2.1 names r11.2.2.1 r11.2.2.2.1 r11.2.2.2.2).bind fun r30 =>
 (whole (IntKind.i64.wrap (r11.2.1 + 1)) r11.2.2.1 r11.2.2.2.1 r11.2.2.2.2).bind fun r37 =>
 some ((Ex.mk r19.1 0 r30.2.2.2 ([r11.1, r37.1] : List Ex)), r37.2.1, r37.2.2.1, r37.2.2.2.1, r37.2.2.2.2))
theorem sB {names : List Str} {l : List Tok} {s : Nat} (hk : kd s = 1) {D pl : Int} {ts : List Tok} {one : Option R5} {whole : Int → Int → Int → Int → Option R5} (hl : l.length < 4611686018427387904)
  (he : Ends ts) (h1 : Snd names l (line (s + 1)) D ts pl one)
  (h2 : ∀ k : Nat, Ends (l.drop k) → (l.drop k).length < ts.length → Snd names l (line (nx s)) D (l.drop k) pl (whole (k : Int) D 0 pl)) :
  wq names l s D ts pl (nh names l (ops s) one whole) := by
 obtain ⟨r, hp, hr⟩ := h1
 cases r with
 | error e =>
  obtain ⟨x, k1, hk1, rfl⟩ := hr
  refine ⟨.error e, fun d hd hb => .rErr hk hb (by rw [hd]; exact hp), x, k1, hk1, ?_⟩
  obtain ⟨t, ht⟩ := J1 hk1
  simp only [nh, aq, nR s ht, cz, vW hp, Bool.true_or, cond_true]
 | ok p =>
  obtain ⟨a, ts1⟩ := p
  obtain ⟨k1, hk1, rfl⟩ := hr
  obtain ⟨e1, e2⟩ := hp.ends he _ rfl
  obtain ⟨t, r1, rfl⟩ := e1.ne
  obtain ⟨ht, hd1, hlt⟩ := drop_cons hk1
  cases ho : ek s t with
  | none =>
   refine ⟨.ok (a, t :: r1), fun d hd hb => .rOne hk hb (by rw [hd]; exact hp) ho, k1, hk1, ?_⟩
   simp only [nh, aq, nR s ht, cz, ho, isR, Bool.not_false, Bool.or_true, cond_true]
  | some k =>
   have hw := im (n := k1) (by omega)
   obtain ⟨r2, hp2, hr2⟩ := h2 (k1 + 1) (by rw [hd1]; exact e1.tail (sF ho)) (by rw [hd1]; simp only [shorter, List.length_cons] at e2; omega)
   rw [hd1] at hp2
   refine ⟨HB k t.2.2.2 a r2, fun d hd hb => .rTwo hk hb (by rw [hd]; exact hp) ho (by rw [hd]; exact hp2), ?_⟩
   have hz : ((0 : Int) != 0) = false := rfl
   cases r2 with
   | error e =>
    obtain ⟨x, k2, hk2, hm⟩ := hr2
    refine ⟨.mk k 0 t.2.2.2 [a, x], k2, hk2, ?_⟩
    simp only [nh, aq, nR s ht, cz, ho, isR, hz, Bool.not_true, Bool.or_false, cond_false, mK ht, hw, hm]
   | ok p =>
    obtain ⟨k2, hk2, hm⟩ := hr2
    refine ⟨k2, hk2, ?_⟩
    simp only [nh, aq, nR s ht, cz, ho, isR, hz, Bool.not_true, Bool.or_false, cond_false, mK ht, hw, hm]
noncomputable def oa (names : List Str) (l : List Tok) (ops : List Int) (at_ deep bad place : Int) (other : Option R5) (same : Int → Int → Int → Int → Option R5) : Option R5 :=
 (aw ops l at_ names deep bad place).bind fun r11 =>
 bif (!r11.2) then (
 other.bind fun r15 =>
 some (r15.1, r15.2.1, r15.2.2.1, r15.2.2.2.1, r15.2.2.2.2))
 else (
 (ao l at_ names deep bad place).bind fun r21 =>
 (same (IntKind.i64.wrap (at_ + 1)) deep bad place).bind fun r30 =>
 some ((Ex.mk r11.1 0 r21.2.2.2 ([r30.1] : List Ex)), r30.2.1, r30.2.2.1, r30.2.2.2.1, r30.2.2.2.2))
theorem zH {names : List Str} {l : List Tok} {s : Nat} (hk : kd s = 0) {D pl : Int} {a : Nat} {other : Option R5} {same : Int → Int → Int → Int → Option R5} (hl : l.length < 4611686018427387904)
  (he : Ends (l.drop a)) (h1 : Snd names l (line (s + 1)) D (l.drop a) pl other)
  (h2 : ∀ k : Nat, Ends (l.drop k) → (l.drop k).length < (l.drop a).length → Snd names l (line s) D (l.drop k) pl (same (k : Int) D 0 pl)) :
  wq names l s D (l.drop a) pl (oa names l (ops s) (a : Int) D 0 pl other same) := by
 obtain ⟨t, r1, hts⟩ := he.ne
 obtain ⟨ht, hd1, hlt⟩ := drop_cons hts
 cases ho : ek s t with
 | none =>
  obtain ⟨r, hp, hr⟩ := h1
  have hg : oa names l (ops s) (a : Int) D 0 pl other same = other := by
   simp only [oa, nR s ht, ho, isR, aq, Bool.not_false, cond_true, ey]
  rw [hg]
  refine ⟨r, fun d hd hb => ?_, hr⟩
  rw [hts] at hp ⊢
  exact .other hk hb ho (by rw [hd]; exact hp)
 | some k =>
  have hw := im (n := a) (by omega)
  rw [hts] at he
  obtain ⟨r2, hp2, hr2⟩ := h2 (a + 1) (by rw [hd1]; exact he.tail (sF ho)) (by rw [hd1, hts]; simp)
  rw [hd1] at hp2
  refine ⟨Ik k t.2.2.2 r2, fun d hd hb => by rw [hts]; exact .pre hk hb ho (by rw [hd]; exact hp2), ?_⟩
  cases r2 with
  | error e =>
   obtain ⟨x, k2, hk2, hm⟩ := hr2
   refine ⟨.mk k 0 t.2.2.2 [x], k2, hk2, ?_⟩
   simp only [oa, nR s ht, ho, isR, aq, Bool.not_true, cond_false, mK ht, hw, hm]
  | ok p =>
   obtain ⟨k2, hk2, hm⟩ := hr2
   refine ⟨k2, hk2, ?_⟩
   simp only [oa, nR s ht, ho, isR, aq, Bool.not_true, cond_false, mK ht, hw, hm]
noncomputable def rB (names : List Str) (l : List Tok) (at_ deep bad place : Int) (by_ : Int → Option R5) : Option R5 :=
 bif (decide (320 ≤ deep)) then (
 (aB 9 l at_ names deep bad place).bind fun r12 =>
 some (r12.1, at_, deep, r12.2.1, r12.2.2))
 else (
 (by_ (IntKind.i64.wrap (deep + 1))).bind fun r19 =>
 some (r19.1, r19.2.1, (IntKind.i64.wrap (r19.2.2.1 - 1)), r19.2.2.2.1, r19.2.2.2.2))
theorem pk {names : List Str} {l : List Tok} {s : Nat} (hc : xz s = true) {d pl : Int} {a : Nat} {by_ : Int → Option R5} (h0 : 0 ≤ d) (h3 : d ≤ 320)
  (he : Ends (l.drop a)) (h1 : d < 320 → wq names l s (d + 1) (l.drop a) pl (by_ (d + 1))) :
  Snd names l (line s) d (l.drop a) pl (rB names l (a : Int) d 0 pl by_) := by
 obtain ⟨t, r1, hts⟩ := he.ne
 obtain ⟨ht, hd1, hlt⟩ := drop_cons hts
 have hw : IntKind.i64.wrap (d + 1) = d + 1 := w64 (by omega)
 have hw2 : IntKind.i64.wrap (d + 1 - 1) = d := by rw [show d + 1 - 1 = d by omega]; exact w64 (by omega)
 unfold rB
 cases hd : decide (320 ≤ d)
 ·have hdb : lY s d = false := by unfold lY; rw [hd, Bool.and_false]
  obtain ⟨r, hp, hr⟩ := h1 (by simp only [decide_eq_false_iff_not] at hd; omega)
  refine ⟨r, hp d (by unfold dn; rw [hc]; rfl) hdb, ?_⟩
  cases r with
  | error e =>
   obtain ⟨x, k2, hk2, hm⟩ := hr
   refine ⟨x, k2, hk2, ?_⟩
   simp only [cond_false, hw, hm, aq, hw2]
  | ok p =>
   obtain ⟨k2, hk2, hm⟩ := hr
   refine ⟨k2, hk2, ?_⟩
   simp only [cond_false, hw, hm, aq, hw2]
 ·refine ⟨.error (9, t.2.2.2), by rw [hts]; exact .big (by unfold lY; rw [hc, hd]; rfl), .mk 0 0 0 [], a, hlt, ?_⟩
  simp only [cond_true, tX ht, aq]
abbrev R8 := Int × Int × Int × Int × Int × Int × Int × (List Ex)
noncomputable def mh (names : List Str) (l : List Tok) (ops : List Int) (one : Int → Int → Int → Int → Option R5) (again30 : R8 → Option R5) : R8 → Option R5 := fun ⟨c20, c21, c22, c23, c24, c25, c26, c27⟩ =>
 bif (c22 == 0) then (
 (aw ops l c20 names c21 c22 c23).bind fun r32 =>
 bif (!r32.2) then (
 some ((Ex.mk c24 c25 c26 c27), c20, c21, c22, c23))
 else (
 (ao l c20 names c21 c22 c23).bind fun r37 =>
 (one (IntKind.i64.wrap (c20 + 1)) c21 c22 c23).bind fun r44 =>
 again30 (r44.2.1, r44.2.2.1, r44.2.2.2.1, r44.2.2.2.2, r32.1, 0, r37.2.2.2, ([(Ex.mk c24 c25 c26 c27), r44.1] : List Ex))))
 else (
 some ((Ex.mk c24 c25 c26 c27), c20, c21, c22, c23))
noncomputable def xF (names : List Str) (l : List Tok) (ops : List Int) (first : Option R5) (one : Int → Int → Int → Int → Option R5) : Option R5 :=
 first.bind fun r11 =>
 an (mh names l ops one) ar (r11.2.1, r11.2.2.1, r11.2.2.2.1, r11.2.2.2.2, r11.1.op, r11.1.n, r11.1.at_, r11.1.l)
theorem Lb {names : List Str} {l : List Tok} {s : Nat} {d pl : Int} {one : Int → Int → Int → Int → Option R5} (hl : l.length < 4611686018427387904) (N : Nat)
  (h2 : ∀ k : Nat, Ends (l.drop k) → (l.drop k).length < N → Snd names l (line (s + 1)) d (l.drop k) pl (one (k : Int) d 0 pl)) : ∀ (n k : Nat) (a : Ex), Ends (l.drop k) → (l.drop k).length ≤ N → (l.drop k).length ≤ n →
  Snd names l (loop s a) d (l.drop k) pl (an (mh names l (ops s) one) (n + 1) ((k : Int), d, 0, pl, a.op, a.n, a.at_, a.l)) := by
 intro n
 induction n with
 | zero =>
  intro k a he _ hn
  obtain ⟨t, r1, hts⟩ := he.ne
  rw [hts] at hn; simp at hn
 | succ n ih =>
  intro k a he hN hn
  obtain ⟨t, r1, hts⟩ := he.ne
  obtain ⟨ht, hd1, hlt⟩ := drop_cons hts
  have hz : ((0 : Int) == 0) = true := rfl
  rw [au]
  cases ho : ek s t with
  | none =>
   refine ⟨.ok (a, t :: r1), by rw [hts]; exact .lpEnd ho, k, hts, ?_⟩
   simp only [mh, hz, cond_true, nR s ht, ho, isR, aq, Bool.not_false, Ex.eta]
  | some o =>
   have hw := im (n := k) (by omega)
   have he1 := he
   rw [hts] at he1
   have hlen : (l.drop (k + 1)).length + 1 = (l.drop k).length := by rw [hd1, hts]; rfl
   obtain ⟨r2, hp2, hr2⟩ := h2 (k + 1) (by rw [hd1]; exact he1.tail (sF ho)) (by omega)
   rw [hd1] at hp2
   cases r2 with
   | error e =>
    obtain ⟨x, k2, hk2, hm⟩ := hr2
    refine ⟨.error e, by rw [hts]; exact .lpErr ho hp2, .mk o 0 t.2.2.2 [a, x], k2, hk2, ?_⟩
    obtain ⟨m, rfl⟩ : ∃ m, n = m := ⟨n, rfl⟩
    simp only [mh, hz, cond_true, nR s ht, ho, isR, aq, Bool.not_true, cond_false, mK ht, hw, hm, Ex.eta]
    rw [au]
    simp only [mh, Dh hp2, cond_false]
   | ok p =>
    obtain ⟨b, ts2⟩ := p
    obtain ⟨k2, hk2, hm⟩ := hr2
    obtain ⟨i1, i2⟩ := hp2.ends (he1.tail (sF ho)) _ rfl
    simp only [shorter] at i2
    simp only at hk2
    obtain ⟨r, hp, hr⟩ := ih k2 (.mk o 0 t.2.2.2 [a, b]) (by rw [hk2]; exact i1) (by rw [hk2]; rw [← hd1] at i2; omega) (by rw [hk2]; rw [← hd1] at i2; omega)
    rw [hk2] at hp
    refine ⟨r, by rw [hts]; exact .lpGo ho hp2 hp, ?_⟩
    simp only [mh, hz, cond_true, nR s ht, ho, isR, aq, Bool.not_true, cond_false, mK ht, hw, hm, Ex.eta]
    exact hr
theorem ux {names : List Str} {l : List Tok} {s : Nat} (hk : kd s = 2) {d pl : Int} {ts : List Tok} {first : Option R5} {one : Int → Int → Int → Int → Option R5} (hl : l.length < 4611686018427387904)
  (he : Ends ts) (hts : ts.length ≤ l.length) (h1 : Snd names l (line (s + 1)) d ts pl first)
  (h2 : ∀ k : Nat, Ends (l.drop k) → (l.drop k).length < ts.length → Snd names l (line (s + 1)) d (l.drop k) pl (one (k : Int) d 0 pl)) :
  Snd names l (line s) d ts pl (xF names l (ops s) first one) := by
 obtain ⟨r, hp, hr⟩ := h1
 unfold xF
 cases r with
 | error e =>
  obtain ⟨x, k1, hk1, rfl⟩ := hr
  refine ⟨.error e, .lErr hk hp, x, k1, hk1, ?_⟩
  rw [aq, show ar = 18446744073709551615 + 1 from rfl, au]
  simp only [mh, Dh hp, cond_false, Ex.eta]
 | ok p =>
  obtain ⟨a, ts1⟩ := p
  obtain ⟨k1, hk1, rfl⟩ := hr
  obtain ⟨e1, e2⟩ := hp.ends he _ rfl
  simp only at hk1 e1 e2
  subst hk1
  simp only [shorter] at e2
  obtain ⟨r, hp2, hr2⟩ := Lb (s := s) (d := d) (pl := pl) (one := one) hl ts.length h2 18446744073709551615 k1 a e1 (by omega) (by omega)
  exact ⟨r, .lGo hk hp hp2, hr2⟩
theorem Fu {s : List Str} {v : Str} (hl : s.length < 4611686018427387904) : ∀ (r pre : List Str), s = pre ++ r → ∀ (M : Nat), r.length < M →
  an (bX s v) M (pre.length : Int) = some (match r.findIdx? (fun x => v == x) with | some i => ((pre.length + i : Nat) : Int) | none => -1)
 | [], pre, h, M, hM => by
  obtain ⟨m, rfl⟩ : ∃ m, M = m + 1 := ⟨M - 1, by simp at hM; omega⟩
  rw [au]
  simp only [bX, MO h, cond_false]
  rfl
 | x :: r, pre, h, M, hM => by
  obtain ⟨m, rfl⟩ : ∃ m, M = m + 1 := ⟨M - 1, by omega⟩
  rw [au]
  have hlen : pre.length < 4611686018427387904 := by rw [h] at hl; simp at hl; omega
  have ih := Fu (v := v) hl r (pre ++ [x]) (by rw [h]; simp) m (by simp at hM; omega)
  rw [show ((pre ++ [x]).length : Int) = ((pre.length + 1 : Nat) : Int) by simp] at ih
  simp only [bX, MQ h, cond_true, FQ h, aq, im hlen]
  cases hv : (v == x)
  ·simp only [cond_false]
   rw [ih, List.findIdx?_cons, hv]
   cases hf : r.findIdx? (fun x => v == x) with
   | none => rfl
   | some i =>
    simp only [List.length_append, List.length_cons, List.length_nil, Bool.false_eq_true, if_false, Option.map_some]
    congr 2; omega
  ·simp only [cond_true]
   rw [List.findIdx?_cons, hv]; rfl
theorem yn {s : List Str} (hl : s.length < 4611686018427387904) (v : Str) : aP s v = some (match at_ s v with | some i => (i : Int) | none => -1) := by
 have := Fu (v := v) hl s [] rfl ar (by show s.length < 2 ^ 64; omega)
 unfold aP at_
 rw [show an (bX s v) ar 0 = _ from this]
 cases s.findIdx? (fun x => v == x) with
 | none => rfl
 | some i => simp
theorem OE {names : List Str} (hn : names.length < 4611686018427387904) {l : List Tok} {d pl : Int} {a : Nat} {k} (hl : l.length < 4611686018427387904)
  (he : Ends (l.drop a)) (h2 : ∀ b : Nat, Ends (l.drop b) → (l.drop b).length < (l.drop a).length → Snd names l (line 1) d (l.drop b) pl (k (l, (b : Int), names, d, 0, pl))) :
  Snd names l (line 11) d (l.drop a) pl (dT k l (a : Int) names d 0 pl) := by
 obtain ⟨t, r1, hts⟩ := he.ne
 obtain ⟨ht, hd1, hlt⟩ := drop_cons hts
 have hw := im (n := a) (by omega)
 have hz : ((0 : Int) != 0) = false := rfl
 have hz' : ((0 : Int) == 0) = true := rfl
 have he1 := he
 rw [hts] at he1
 unfold dT
 have hio : aw ([13, 14] : List Int) l (a : Int) names d 0 pl = some (isR (ek 11 t)) := nR 11 ht names d 0 pl
 simp only [hz, cond_false, mK ht, aq, hio]
 cases ho : ek 11 t with
 | some o =>
  refine ⟨.ok (.mk o 0 t.2.2.2 [], r1), by rw [hts]; exact .oWord rfl ho, a + 1, hd1, ?_⟩
  simp only [isR, cond_true, hw]
 | none =>
  simp only [isR, cond_false]
  cases h2' : (t.1 == 2)
  ·simp only [cond_false, cz, CX]
   cases hnm : iw t
   ·have hgo : (az (t.1 == 1) default (some (pV.contains t.2.1)) fun r32 => ah (!r32) fun b38 => ah ((t.1 == 1) && b38) fun b40 => (some b40 : Option Bool)) = some false := by
     unfold iw key at hnm
     cases h1 : (t.1 == 1)
     ·rfl
     ·rw [h1, Bool.true_and] at hnm; simp only [gi, aq, cz, hnm, Bool.and_false]
    have hgo' : ∀ (f : Bool → Option R5), (az (t.1 == 1) default (some (pV.contains t.2.1)) fun r32 => f ((t.1 == 1) && !r32)) = f false := by
     intro f
     unfold iw key at hnm
     cases h1 : (t.1 == 1)
     ·rfl
     ·rw [h1, Bool.true_and] at hnm; simp only [gi, aq, hnm, Bool.and_false]
    rw [hgo' (fun b => bif b then _ else _)]
    simp only [cond_false]
    cases hop : open_ t
    ·have hop' : ((t.1 == 3) && (t.2.1 == [40])) = false := hop
     rw [hop']
     refine ⟨.error (2, t.2.2.2), by rw [hts]; exact .oForm rfl ho h2' hnm hop, .mk 0 0 0 [], a, hlt, ?_⟩
     simp only [cond_false, tX ht, aq]
    ·have hop' : ((t.1 == 3) && (t.2.1 == [40])) = true := hop
     rw [hop']
     simp only [cond_true, hw]
     have h4 : t.1 ≠ 4 := by unfold open_ at hop; simp only [Bool.and_eq_true, beq_iff_eq] at hop; omega
     obtain ⟨r2, hp2, hr2⟩ := h2 (a + 1) (by rw [hd1]; exact he1.tail h4) (by rw [hd1, hts]; simp)
     rw [hd1] at hp2
     cases r2 with
     | error e =>
      obtain ⟨x, k2, hk2, hm⟩ := hr2
      refine ⟨.error e, by rw [hts]; exact .oErr rfl ho h2' hnm hop hp2, x, k2, hk2, ?_⟩
      simp only [hm, aq, Dh hp2, Bool.false_and, uV, cond_false]
     | ok p =>
      obtain ⟨x, ts2⟩ := p
      obtain ⟨k2, hk2, hm⟩ := hr2
      obtain ⟨i1, i2⟩ := hp2.ends (he1.tail h4) _ rfl
      obtain ⟨c, r3, rfl⟩ := i1.ne
      obtain ⟨hc, hd2, hlt2⟩ := drop_cons hk2
      simp only [hm, aq, hz', gi, mK hc, Bool.true_and]
      have hw2 := im (n := k2) (by omega)
      cases hcl : close_ c
      ·refine ⟨.error (2, c.2.2.2), by rw [hts]; exact .oClose rfl ho h2' hnm hop hp2 hcl, .mk 0 0 0 [], k2, hlt2, ?_⟩
       unfold close_ at hcl
       cases h3 : (c.1 == 3)
       ·have : (c.1 != 3) = true := by simp [bne, h3]
        simp only [this, Bool.not_true, uV, Bool.true_or, cond_true, tX hc, aq]
       ·have : (c.1 != 3) = false := by simp [bne, h3]
        rw [h3, Bool.true_and] at hcl
        have h41 : (c.2.1 != [41]) = true := by simp [bne, hcl]
        simp only [this, Bool.not_false, gi, aq, h41, Bool.or_true, cond_true, tX hc]
      ·refine ⟨.ok (x, r3), by rw [hts]; exact .oOpen rfl ho h2' hnm hop hp2 hcl, k2 + 1, hd2, ?_⟩
       unfold close_ at hcl
       simp only [Bool.and_eq_true] at hcl
       have h3 : (c.1 != 3) = false := by simp only [bne, hcl.1, Bool.not_true]
       have h41 : (c.2.1 != [41]) = false := by simp only [bne, hcl.2, Bool.not_true]
       simp only [h3, Bool.not_false, gi, aq, h41, Bool.or_false, cond_false, cond_true, hw2]
   ·have hgo' : ∀ (f : Bool → Option R5), (az (t.1 == 1) default (some (pV.contains t.2.1)) fun r32 => f ((t.1 == 1) && !r32)) = f true := by
     intro f
     unfold iw key at hnm
     simp only [Bool.and_eq_true] at hnm
     rw [hnm.1]
     simp only [gi, aq, hnm.2, Bool.and_self]
    rw [hgo' (fun b => bif b then _ else _)]
    simp only [cond_true, yn hn, aq]
    cases hat : at_ names t.2.1 with
    | none =>
     refine ⟨.error (3, t.2.2.2), by rw [hts]; exact .oName rfl ho h2' hnm hat, .mk 0 0 0 [], a, hlt, ?_⟩
     simp only [show decide ((-1 : Int) < 0) = true from rfl, cond_true, tX ht, aq]
    | some i =>
     refine ⟨.ok (.mk 2 (i : Int) t.2.2.2 [], r1), by rw [hts]; exact .oVar rfl ho h2' hnm hat, a + 1, hd1, ?_⟩
     have : decide (((i : Nat) : Int) < 0) = false := by simp
     simp only [this, cond_false, hw]
  ·refine ⟨.ok (.mk 1 t.2.2.1 t.2.2.2 [], r1), by rw [hts]; exact .oNum rfl ho h2', a + 1, hd1, ?_⟩
   simp only [cond_true, hw]
end Pa
end Go.Proofs.YtdhgpnejphlfpaaDoor
namespace Go.Proofs.YtdhgpnejphlfpaaDoor
namespace Pa
open Job
section
variable (names : List Str) (l : List Tok) (N : Nat)
noncomputable def Gd (s : Nat) (n : Nat) (f : Int → Int → Int → Option R5) : Prop :=
 ∀ (a : Nat) (d pl : Int), 0 ≤ d → d ≤ 320 → Ends (l.drop a) → (l.drop a).length ≤ n → Snd names l (line s) d (l.drop a) pl (f (a : Int) d pl)
abbrev PF := (List Tok × Int × List Str × Int × Int × Int) → Option R5
noncomputable def Gk (s : Nat) (n : Nat) (k : PF) : Prop := Gd names l s n fun a d pl => k (l, a, names, d, 0, pl)
end
variable {names : List Str} {l : List Tok} {n : Nat}
theorem Gd.le {s m n : Nat} {f} (h : Gd names l s n f) (hm : m ≤ n) : Gd names l s m f := fun a d pl h0 h1 h2 h3 => h a d pl h0 h1 h2 (by omega)
theorem tN (a : Nat) : (l.drop a).length ≤ l.length := by simp
theorem Py (hn : names.length < 4611686018427387904) (hl : l.length < 4611686018427387904) {k : PF} (hk : Gk names l 1 n k) : Gd names l 11 (n + 1) fun a d pl => dT k l a names d 0 pl :=
 fun a d pl h0 h1 h2 h3 => OE hn hl h2 (fun b hb1 hb2 => hk b d pl h0 h1 hb1 (by omega))
theorem Jh {s : Nat} {F : PF → PF} (h : ∀ m k, m ≤ n → Gk names l s m k → Gk names l s (m + 1) (F k)) : ∀ m, m ≤ n + 1 → Gk names l s m (an F m) := by
 intro m
 induction m with
 | zero =>
  intro _ a d pl _ _ h2 h3
  obtain ⟨t, r, hr⟩ := h2.ne
  rw [hr] at h3; simp at h3
 | succ m ih => intro hm; exact h m _ (by omega) (ih (by omega))
theorem tV {s : Nat} {F : PF → PF} (hl : l.length < 4611686018427387904) (h : ∀ m k, m ≤ n → Gk names l s m k → Gk names l s (m + 1) (F k)) : Gk names l s (n + 1) (an F ar) := by
 by_cases hf : ar ≤ n + 1
 ·intro a d pl h0 h1 h2 h3
  have := tN (l := l) a
  exact Jh (n := n) h ar hf a d pl h0 h1 h2 (by show _ ≤ 2 ^ 64; omega)
 · -- a fuel beyond the length: the length alone counts
  intro a d pl h0 h1 h2 h3
  have : ∀ m, n + 1 ≤ m → Gk names l s (n + 1) (an F m) := by
   intro m
   induction m with
   | zero => intro hm; omega
   | succ m ih =>
    intro hm
    by_cases he : n + 1 ≤ m
    ·exact h n _ (Nat.le_refl _) ((ih he).le (by omega))
    ·exact Jh (n := n) h (m + 1) (by omega) |>.le (by omega)
  exact this ar (by omega) a d pl h0 h1 h2 h3
theorem MI (hn : names.length < 4611686018427387904) (hl : l.length < 4611686018427387904) {k : PF} (hk : Gk names l 1 n k) : Gd names l 10 (n + 1) fun a d pl => bE k l a names d 0 pl := by
 have hF : ∀ m k5, m ≤ n → Gk names l 10 m k5 → Gk names l 10 (m + 1) (fun s => jf k k5 s.1 s.2.1 s.2.2.1 s.2.2.2.1 s.2.2.2.2.1 s.2.2.2.2.2) := by
  intro m k5 hm h5 a d pl h0 h1 h2 h3
  have hg : ∀ D, dV k k5 l a names D 0 pl = oa names l (ops 10) a D 0 pl (dT k l a names D 0 pl) (fun a d b p => k5 (l, a, names, d, b, p)) := fun D => by
   unfold dV; rw [ey]; rfl
  show Snd names l (line 10) d (l.drop a) pl (rB names l a d 0 pl (fun D => dV k k5 l a names D 0 pl))
  refine pk rfl h0 h1 h2 (fun hd => ?_)
  show wq names l 10 (d + 1) (l.drop a) pl (dV k k5 l a names (d + 1) 0 pl)
  rw [hg]
  exact zH rfl hl h2 (Py hn hl hk a (d + 1) pl (by omega) (by omega) h2 (by omega)) (fun b hb1 hb2 => h5 b (d + 1) pl (by omega) (by omega) hb1 (by omega))
 intro a d pl h0 h1 h2 h3
 show Snd names l (line 10) d (l.drop a) pl (bE k l a names d 0 pl)
 unfold bE
 rw [ey]
 exact tV (n := n) hl hF a d pl h0 h1 h2 h3
theorem Gc (hn : names.length < 4611686018427387904) (hl : l.length < 4611686018427387904) {k : PF} (hk : Gk names l 1 n k) : Gd names l 9 (n + 1) fun a d pl => bL k l a names d 0 pl := by
 intro a d pl h0 h1 h2 h3
 have hg : bL k l a names d 0 pl = xF names l (ops 9) (bE k l a names d 0 pl) (fun a d b p => bE k l a names d b p) := by
  unfold bL; rw [ey]; rfl
 show Snd names l (line 9) d (l.drop a) pl (bL k l a names d 0 pl)
 rw [hg]
 exact ux rfl hl h2 (tN a) (MI hn hl hk a d pl h0 h1 h2 h3) (fun b hb1 hb2 => MI hn hl hk b d pl h0 h1 hb1 (by omega))
theorem IQ (hn : names.length < 4611686018427387904) (hl : l.length < 4611686018427387904) {k : PF} (hk : Gk names l 1 n k) : Gd names l 8 (n + 1) fun a d pl => bJ k l a names d 0 pl := by
 intro a d pl h0 h1 h2 h3
 have hg : bJ k l a names d 0 pl = xF names l (ops 8) (bL k l a names d 0 pl) (fun a d b p => bL k l a names d b p) := by
  unfold bJ; rw [ey]; rfl
 show Snd names l (line 8) d (l.drop a) pl (bJ k l a names d 0 pl)
 rw [hg]
 exact ux rfl hl h2 (tN a) (Gc hn hl hk a d pl h0 h1 h2 h3) (fun b hb1 hb2 => Gc hn hl hk b d pl h0 h1 hb1 (by omega))
theorem Pf (hn : names.length < 4611686018427387904) (hl : l.length < 4611686018427387904) {k : PF} (hk : Gk names l 1 n k) : Gd names l 7 (n + 1) fun a d pl => dR k l a names d 0 pl := by
 intro a d pl h0 h1 h2 h3
 have hg : dR k l a names d 0 pl = nh names l (ops 7) (bJ k l a names d 0 pl) (fun a d b p => bJ k l a names d b p) := rfl
 show Snd names l (line 7) d (l.drop a) pl (dR k l a names d 0 pl)
 rw [hg]
 obtain ⟨r, hp, hr⟩ := sB (s := 7) (whole := fun a d b p => bJ k l a names d b p) rfl hl h2 (IQ hn hl hk a d pl h0 h1 h2 h3) (fun b hb1 hb2 => IQ hn hl hk b d pl h0 h1 hb1 (by omega))
 exact ⟨r, hp d rfl rfl, hr⟩
theorem P7 (hn : names.length < 4611686018427387904) (hl : l.length < 4611686018427387904) {k : PF} (hk : Gk names l 1 n k) : Gd names l 6 (n + 1) fun a d pl => cU k l a names d 0 pl := by
 have hF : ∀ m k5, m ≤ n → Gk names l 6 m k5 → Gk names l 6 (m + 1) (fun s => jg k k5 s.1 s.2.1 s.2.2.1 s.2.2.2.1 s.2.2.2.2.1 s.2.2.2.2.2) := by
  intro m k5 hm h5 a d pl h0 h1 h2 h3
  have hg : ∀ D, dU k k5 l a names D 0 pl = oa names l (ops 6) a D 0 pl (dR k l a names D 0 pl) (fun a d b p => k5 (l, a, names, d, b, p)) := fun D => by
   unfold dU; rw [ey]; rfl
  show Snd names l (line 6) d (l.drop a) pl (rB names l a d 0 pl (fun D => dU k k5 l a names D 0 pl))
  refine pk rfl h0 h1 h2 (fun hd => ?_)
  show wq names l 6 (d + 1) (l.drop a) pl (dU k k5 l a names (d + 1) 0 pl)
  rw [hg]
  exact zH rfl hl h2 (Pf hn hl hk a (d + 1) pl (by omega) (by omega) h2 (by omega)) (fun b hb1 hb2 => h5 b (d + 1) pl (by omega) (by omega) hb1 (by omega))
 intro a d pl h0 h1 h2 h3
 show Snd names l (line 6) d (l.drop a) pl (cU k l a names d 0 pl)
 unfold cU
 rw [ey]
 exact tV (n := n) hl hF a d pl h0 h1 h2 h3
theorem MX (hn : names.length < 4611686018427387904) (hl : l.length < 4611686018427387904) {k : PF} (hk : Gk names l 1 n k) : Gd names l 5 (n + 1) fun a d pl => bm k l a names d 0 pl := by
 have hF : ∀ m k5, m ≤ n → Gk names l 5 m k5 → Gk names l 5 (m + 1) (fun s => jc k k5 s.1 s.2.1 s.2.2.1 s.2.2.2.1 s.2.2.2.2.1 s.2.2.2.2.2) := by
  intro m k5 hm h5 a d pl h0 h1 h2 h3
  have hg : ∀ D, dv k k5 l a names D 0 pl = nh names l (ops 5) (cU k l a names D 0 pl) (fun a d b p => k5 (l, a, names, d, b, p)) := fun D => by
   unfold dv; rw [ey]; rfl
  show Snd names l (line 5) d (l.drop a) pl (rB names l a d 0 pl (fun D => dv k k5 l a names D 0 pl))
  refine pk rfl h0 h1 h2 (fun hd => ?_)
  show wq names l 5 (d + 1) (l.drop a) pl (dv k k5 l a names (d + 1) 0 pl)
  rw [hg]
  exact sB rfl hl h2 (P7 hn hl hk a (d + 1) pl (by omega) (by omega) h2 (by omega)) (fun b hb1 hb2 => h5 b (d + 1) pl (by omega) (by omega) hb1 (by omega))
 intro a d pl h0 h1 h2 h3
 show Snd names l (line 5) d (l.drop a) pl (bm k l a names d 0 pl)
 unfold bm
 rw [ey]
 exact tV (n := n) hl hF a d pl h0 h1 h2 h3
theorem JJ (hn : names.length < 4611686018427387904) (hl : l.length < 4611686018427387904) {k : PF} (hk : Gk names l 1 n k) : Gd names l 4 (n + 1) fun a d pl => cd k l a names d 0 pl := by
 intro a d pl h0 h1 h2 h3
 have hg : cd k l a names d 0 pl = xF names l (ops 4) (bm k l a names d 0 pl) (fun a d b p => bm k l a names d b p) := by
  unfold cd; rw [ey]; rfl
 show Snd names l (line 4) d (l.drop a) pl (cd k l a names d 0 pl)
 rw [hg]
 exact ux rfl hl h2 (tN a) (MX hn hl hk a d pl h0 h1 h2 h3) (fun b hb1 hb2 => MX hn hl hk b d pl h0 h1 hb1 (by omega))
theorem P9 (hn : names.length < 4611686018427387904) (hl : l.length < 4611686018427387904) {k : PF} (hk : Gk names l 1 n k) : Gd names l 3 (n + 1) fun a d pl => dM k l a names d 0 pl := by
 intro a d pl h0 h1 h2 h3
 have hg : dM k l a names d 0 pl = xF names l (ops 3) (cd k l a names d 0 pl) (fun a d b p => cd k l a names d b p) := by
  unfold dM; rw [ey]; rfl
 show Snd names l (line 3) d (l.drop a) pl (dM k l a names d 0 pl)
 rw [hg]
 exact ux rfl hl h2 (tN a) (JJ hn hl hk a d pl h0 h1 h2 h3) (fun b hb1 hb2 => JJ hn hl hk b d pl h0 h1 hb1 (by omega))
theorem P8 (hn : names.length < 4611686018427387904) (hl : l.length < 4611686018427387904) {k : PF} (hk : Gk names l 1 n k) : Gd names l 2 (n + 1) fun a d pl => cS k l a names d 0 pl := by
 have hF : ∀ m k5, m ≤ n → Gk names l 2 m k5 → Gk names l 2 (m + 1) (fun s => jd k k5 s.1 s.2.1 s.2.2.1 s.2.2.2.1 s.2.2.2.2.1 s.2.2.2.2.2) := by
  intro m k5 hm h5 a d pl h0 h1 h2 h3
  have hg : ∀ D, dW k k5 l a names D 0 pl = nh names l (ops 2) (dM k l a names D 0 pl) (fun a d b p => k5 (l, a, names, d, b, p)) := fun D => by
   unfold dW; rw [ey]; rfl
  show Snd names l (line 2) d (l.drop a) pl (rB names l a d 0 pl (fun D => dW k k5 l a names D 0 pl))
  refine pk rfl h0 h1 h2 (fun hd => ?_)
  show wq names l 2 (d + 1) (l.drop a) pl (dW k k5 l a names (d + 1) 0 pl)
  rw [hg]
  exact sB rfl hl h2 (P9 hn hl hk a (d + 1) pl (by omega) (by omega) h2 (by omega)) (fun b hb1 hb2 => h5 b (d + 1) pl (by omega) (by omega) hb1 (by omega))
 intro a d pl h0 h1 h2 h3
 show Snd names l (line 2) d (l.drop a) pl (cS k l a names d 0 pl)
 unfold cS
 rw [ey]
 exact tV (n := n) hl hF a d pl h0 h1 h2 h3
theorem Qm (hn : names.length < 4611686018427387904) (hl : l.length < 4611686018427387904) {k : PF} (hk : Gk names l 1 n k) : Gk names l 1 (n + 1) (fun s => fQ k s.1 s.2.1 s.2.2.1 s.2.2.2.1 s.2.2.2.2.1 s.2.2.2.2.2) := by
 intro a d pl h0 h1 h2 h3
 have hg : ∀ D, dS k l a names D 0 pl = nh names l (ops 1) (cS k l a names D 0 pl) (fun a d b p => k (l, a, names, d, b, p)) := fun D => by
  unfold dS; rw [ey]; rfl
 show Snd names l (line 1) d (l.drop a) pl (rB names l a d 0 pl (fun D => dS k l a names D 0 pl))
 refine pk rfl h0 h1 h2 (fun hd => ?_)
 show wq names l 1 (d + 1) (l.drop a) pl (dS k l a names (d + 1) 0 pl)
 rw [hg]
 exact sB rfl hl h2 (P8 hn hl hk a (d + 1) pl (by omega) (by omega) h2 (by omega)) (fun b hb1 hb2 => hk b (d + 1) pl (by omega) (by omega) hb1 (by omega))
theorem IY (hn : names.length < 4611686018427387904) (hl : l.length < 4611686018427387904) {a : Nat} {d pl : Int} (h0 : 0 ≤ d) (h1 : d ≤ 320) (he : Ends (l.drop a)) :
  Snd names l (line 1) d (l.drop a) pl (gT l (a : Int) names d 0 pl) := by
 have := tV (names := names) (l := l) (n := l.length) (s := 1) (F := fun k s => fQ k s.1 s.2.1 s.2.2.1 s.2.2.2.1 s.2.2.2.2.1 s.2.2.2.2.2) hl (fun m k _ hk => Qm hn hl hk)
 exact this a d pl h0 h1 he (by have := tN (l := l) a; omega)
noncomputable def told (l : List Tok) : Out → Ex × Int × Int × Int
 | .ok p => (p.1, ((l.length - p.2.length : Nat) : Int), 0, 0)
 | .error e => (.mk 0 0 0 [], 0, e.1, e.2)
theorem LL (hn : names.length < 4611686018427387904) (hl : l.length < 4611686018427387904) {a : Nat} (he : Ends (l.drop a)) : ∃ r, P names (line 1) 0 (l.drop a) r ∧ jS l (a : Int) names = some (told l r) := by
 obtain ⟨r, hp, hr⟩ := IY (pl := 0) hn hl (Int.le_refl 0) (by omega) he
 refine ⟨r, hp, ?_⟩
 unfold jS
 cases r with
 | error e =>
  obtain ⟨x, k, hk, hm⟩ := hr
  rw [hm]
  simp only [aq, vW hp, cond_true]
  rfl
 | ok p =>
  obtain ⟨k, hk, hm⟩ := hr
  obtain ⟨e1, e2⟩ := hp.ends he _ rfl
  rw [hm]
  obtain ⟨t, r1, hts⟩ := e1.ne
  have hlt := (drop_cons (hk.trans hts)).2.2
  simp only [aq, show ((0 : Int) != 0) = false from rfl, cond_false, told]
  rw [← hk, List.length_drop, show l.length - (l.length - k) = k by omega]
end Pa
end Go.Proofs.YtdhgpnejphlfpaaDoor
namespace Go.Proofs.YtdhgpnejphlfpaaDoor
namespace Sy
open Pa
noncomputable def Er {α : Type} (x : Except Err α) : Prop := ∀ e, x = .error e → e.1 ≠ 0
theorem Er.ok {α : Type} {a : α} : Er (.ok a : Except Err α) := fun e h => by cases h
theorem Er.lit {α : Type} {e : Err} (h : e.1 ≠ 0) : Er (.error e : Except Err α) := fun e' he => by cases he; exact h
theorem Er.bif {α : Type} {c : Bool} {a b : Except Err α} (ha : c = true → Er a) (hb : c = false → Er b) : Er (bif c then a else b) := by cases c; exact hb rfl; exact ha rfl
theorem Er.of {α : Type} {x : Except Err α} (h : Er x) {e : Err} (he : x = .error e) {β : Type} : Er (.error e : Except Err β) := .lit (h e he)
theorem J8 {names : List Str} {ts : List Tok} : Er (sy names ts) := fun e h => by
 unfold sy at h
 split at h
 ·rename_i hx
  have h1 := Classical.choose_spec hx
  rw [h] at h1
  rcases h1.err e rfl with h | h | h <;> omega
 ·cases h; decide
theorem qN {x : Str} {ts : List Tok} : Er (aZ x ts) := by
 unfold aZ
 split
 ·exact .lit (by decide)
 ·exact .bif (fun _ => .ok) (fun _ => .lit (show (2 : Int) ≠ 0 by decide))
theorem Ed {full : Bool} {names procs : List Str} {ts : List Tok} : Er (er full names procs ts) := by
 unfold er
 split
 ·exact .lit (by decide)
 ·exact .bif (fun _ => .lit (show (2 : Int) ≠ 0 by decide)) fun _ => .bif (fun _ => .lit (show (3 : Int) ≠ 0 by decide)) fun _ => .bif (fun _ => .lit (show (9 : Int) ≠ 0 by decide)) fun _ => .ok
theorem C9 {neg : Bool} {ts : List Tok} : Er (iW neg ts) := by
 unfold iW
 split
 ·exact .lit (by decide)
 ·exact .bif (fun _ => .lit (show (2 : Int) ≠ 0 by decide)) fun _ => .ok
theorem Bg {ts : List Tok} : Er (eY ts) := .bif (fun _ => C9) fun _ => C9
theorem Nq {m : Mdl} {ts : List Tok} : Er (jl m ts) := by
 unfold jl
 split
 ·rename_i h; exact Ed.of h
 ·split
  ·rename_i h; exact Bg.of h
  ·split
   ·rename_i h; exact Bg.of h
   ·split
    ·rename_i h; exact Bg.of h
    ·split
     ·rename_i h; exact qN.of h
     ·exact .bif (fun _ => .lit (show (5 : Int) ≠ 0 by decide)) fun _ => .ok
theorem DE {want : Int} {names : List Str} {ts : List Tok} : Er (dY want names ts) := by
 unfold dY
 split
 ·rename_i h; exact J8.of h
 ·exact .bif (fun h => .lit (by simpa using h)) fun _ => .bif (fun _ => .lit (show (4 : Int) ≠ 0 by decide)) fun _ => .ok
theorem Dx {names : List Str} : ∀ (f : Nat) (acc : List (Int × Ex)) (ts : List Tok), Er (eo names f acc ts)
 | 0, _, _ => .lit (show (2 : Int) ≠ 0 by decide)
 | f + 1, acc, ts => by
  unfold eo
  split
  ·exact .lit (by decide)
  ·refine .bif (fun _ => .lit (show (2 : Int) ≠ 0 by decide)) fun _ => .bif (fun _ => .lit (show (3 : Int) ≠ 0 by decide)) fun _ => ?_
   split
   ·rename_i h; exact qN.of h
   ·split
    ·rename_i h; exact DE.of h
    ·exact .bif (fun _ => Dx f _ _) fun _ => .ok
theorem Ow {m : Mdl} {ts : List Tok} : Er (kg m ts) := by
 unfold kg
 refine .bif (fun _ => .lit (show (9 : Int) ≠ 0 by decide)) fun _ => ?_
 split
 ·rename_i h; exact DE.of h
 ·split
  ·rename_i h; exact qN.of h
  ·split
   ·rename_i h; exact (Dx _ _ _).of h
   ·split
    ·rename_i h; exact qN.of h
    ·exact .ok
theorem EM : ∀ (f : Nat) (m : Mdl) (ts : List Tok), Er (fU f m ts)
 | 0, _, _ => .lit (show (2 : Int) ≠ 0 by decide)
 | f + 1, m, ts => by
  unfold fU
  refine .bif (fun _ => .ok) fun _ => ?_
  split
  ·rename_i h; exact Ow.of h
  ·exact EM f _ _
theorem Mt {m : Mdl} {ts : List Tok} : Er (eT m ts) := by
 unfold eT
 split
 ·rename_i h; exact Ed.of h
 ·split
  ·rename_i h; exact qN.of h
  ·exact EM _ _ _
theorem wR : ∀ (f : Nat) (m : Mdl) (ts : List Tok), Er (bB f m ts)
 | 0, _, _ => .lit (show (2 : Int) ≠ 0 by decide)
 | f + 1, m, ts => by
  unfold bB
  split
  ·exact .lit (by decide)
  ·refine .bif (fun _ => .bif (fun _ => .lit (show (2 : Int) ≠ 0 by decide)) fun _ => .ok) fun _ => .bif (fun _ => ?_) fun _ => .bif (fun _ => ?_) fun _ => .lit (show (2 : Int) ≠ 0 by decide)
   ·split
    ·rename_i h; exact Nq.of h
    ·exact wR f _ _
   ·split
    ·rename_i h; exact Mt.of h
    ·exact wR f _ _
theorem CO {text : Str} {e : Err} (h : iJ text = .error e) : e.1 ≠ 0 := by
 unfold iJ at h
 split at h
 ·cases h; decide
 ·split at h
  ·exact wR _ _ _ e h
  ·rename_i hl
   cases h
   exact CJ _ _ _ _ hl
end Sy
end Go.Proofs.YtdhgpnejphlfpaaDoor
namespace Go.Proofs.YtdhgpnejphlfpaaDoor
theorem wy (k : Ex → Option (Int × Int × Int)) (e : Ex) (hk : ∀ x ∈ e.l, k x = some (ty x)) (hl : e.l.length < 4611686018427387904) :
  ∀ (r pre : List Ex), e.l = pre ++ r → ∀ (M : Nat) (i b t : Bool), r.length < M → an (jq k e) M (i, b, t, (pre.length : Int)) = some (tyA e.op e.at_ r i b t)
 | [], pre, h, M, i, b, t, hM => by
  obtain ⟨m, rfl⟩ : ∃ m, M = m + 1 := ⟨M - 1, by simp at hM; omega⟩
  rw [au]
  simp only [jq, O3 h, cond_false, cz, rA, tyA, p9]
  generalize decide (e.op ≤ 6) = c1
  generalize decide (6 < e.op) = c2
  generalize decide (e.op ≤ 12) = c3
  generalize (e.op == 13) = c4
  generalize (e.op == 14) = c5
  generalize decide (15 ≤ e.op) = c6
  generalize decide (e.op ≤ 19) = c7
  cases c1 <;> cases i <;> cases c2 <;> cases c3 <;> cases c4 <;> cases c5 <;> cases c6 <;> cases c7 <;> cases b <;> cases t <;> rfl
 | x :: r, pre, h, M, i, b, t, hM => by
  obtain ⟨m, rfl⟩ : ∃ m, M = m + 1 := ⟨M - 1, by omega⟩
  rw [au]
  have hx : k x = some (ty x) := hk x (by rw [h]; simp)
  have hlen : pre.length < 4611686018427387904 := by rw [h] at hl; simp at hl; omega
  have ih := wy k e hk hl r (pre ++ [x]) (by rw [h]; simp) m (i && (ty x).1 == 1) (b && (ty x).1 == 2) (t && (ty x).1 != 1) (by simp at hM; omega)
  rw [show ((pre ++ [x]).length : Int) = ((pre.length + 1 : Nat) : Int) by simp] at ih
  simp only [jq, Pr h, cond_true, A1 h, aq, hx, cz, im hlen, tyA]
  cases (ty x).2.1 != 0
  ·exact ih
  ·rfl
theorem J0 : ∀ (N : Nat) (e : Ex), e.sz ≤ N → e.sz < 4611686018427387904 → an (fun k s => lT k s) N e = some (ty e) := by
 intro N
 induction N with
 | zero => intro e h; have := ug e; omega
 | succ N ih =>
  intro e h hb
  rw [au]
  show an (jq _ e) ar (true, true, true, 0) = _
  have hl := z4 e
  have := wy (an (fun k s => lT k s) N) e (fun x hx => ih x (by have := qj hx; omega) (by have := qj hx; omega)) (by omega) e.l [] rfl ar true true true (by show e.l.length < 2 ^ 64; omega)
  rw [Cv]
  exact this
theorem Nj (e : Ex) (h : e.sz < 4611686018427387904) : mH e = some (ty e) := J0 ar e (by show e.sz ≤ 2 ^ 64; omega) h
end Go.Proofs.YtdhgpnejphlfpaaDoor
namespace Go.Proofs.YtdhgpnejphlfpaaDoor
namespace Mo
open Pa Sy
theorem jn {E A B : Type} (e : E) (k : A → Option (Except E B)) : bU (some (.error e)) k = some (.error e) := rfl
theorem eM {E A B : Type} (x : A) (k : A → Option (Except E B)) : bU (some (.ok x) : Option (Except E A)) k = k x := rfl
noncomputable def Rd {α β : Type} (l : List Tok) (s : Except Err (α × List Tok)) (f : α → Int → β) (m : Option (Except Err β)) : Prop := match s with
 | .error e => m = some (.error e)
 | .ok p => ∃ k : Nat, m = some (.ok (f p.1 (k : Int))) ∧ l.drop k = p.2
noncomputable def RdS (l : List Tok) (s : Except Err (List Tok)) (m : Option (Except Err Int)) : Prop := match s with
 | .error e => m = some (.error e)
 | .ok r => ∃ k : Nat, m = some (.ok (k : Int)) ∧ l.drop k = r
theorem qx {l a b : List Tok} {i k : Nat} (hi : l.drop i = a) (hk : l.drop k = b) (h : b.length < a.length) : i < k := by
 subst hi; subst hk
 simp only [List.length_drop] at h
 omega
section
variable {l : List Tok} {k : Nat} {t : Tok} {r : List Tok} (N : List Str) (S_ : List (Int × Int)) (I : List Int) (Q : List Str) (C : List Cmd)
theorem qM (h : l.drop k = t :: r) : bV l (k : Int) N S_ I Q C = some t := by
 unfold bV
 rw [(ik h).1]; rfl
theorem AZ (h : l.drop k = t :: r) (kd : Int) (x : Str) : dA kd x l (k : Int) N S_ I Q C = some (isT kd x t) := by
 unfold dA
 rw [qM N S_ I Q C h, aq, cz]
 unfold isT
 cases (t.1 == kd)
 ·rfl
 ·rw [gi, aq]; rfl
theorem lj (h : l.drop k = t :: r) (e : Int) : aR e l (k : Int) N S_ I Q C = some (.error (e, t.2.2.2)) := by
 unfold aR
 rw [qM N S_ I Q C h]; rfl
theorem Fs {names : List Str} {v : Str} : at_ names v = none ↔ names.contains v = false := by
 unfold at_
 rw [List.findIdx?_eq_none_iff]
 constructor
 ·intro h
  cases hc : names.contains v
  ·rfl
  ·have := h v (by simpa using hc)
   simp at this
 ·intro h x hx
  rw [Bool.eq_false_iff]
  intro e
  have : v = x := by simpa using e
  subst this
  have h2 : names.contains v = true := by simpa using hx
  rw [h] at h2; cases h2
theorem zr {names : List Str} (hn : names.length < 4611686018427387904) (v : Str) : cf names v = some (names.contains v) := by
 unfold cf
 rw [yn hn, aq]
 cases ha : at_ names v with
 | none => rw [Fs.1 ha]; rfl
 | some i =>
  have : names.contains v = true := by
   cases hc : names.contains v
   ·rw [Fs.2 hc] at ha; cases ha
   ·rfl
  rw [this]
  simp
theorem N8 (hN : N.length < 4611686018427387904) (hQ : Q.length < 4611686018427387904) (v : Str) : jE v l (k : Int) N S_ I Q C = some (N.contains v || Q.contains v) := by
 unfold jE
 rw [zr hN, aq, zr hQ]
 cases N.contains v <;> rfl
theorem Ix (he : Pa.Ends (l.drop k)) (hk : l.length < 4611686018427387904) (hN : N.length < 4611686018427387904) (hQ : Q.length < 4611686018427387904) (full : Bool) :
  Rd l (er full N Q (l.drop k)) (fun x k => (x, k)) (ew full l (k : Int) N S_ I Q C) := by
 obtain ⟨t, r, ht⟩ := he.ne
 have hd := ik ht
 unfold ew
 rw [qM N S_ I Q C ht, aq, ht]
 simp only [er]
 cases h1 : (t.1 != 1)
 ·simp only [cond_false]
  simp only [cz]
  rw [CX, aq, N8 N S_ I Q C hN hQ]
  unfold Pa.key
  cases h2 : pV.contains t.2.1
  ·simp only [Bool.not_false, gi, aq, Bool.false_or]
   cases h3 : (N.contains t.2.1 || Q.contains t.2.1)
   ·simp only [cond_false]
    cases full
    ·exact ⟨k + 1, by simp only [cond_false, oU, gW (show k < 4611686018427387904 by omega)], hd.2.1⟩
    ·simp only [cond_true, lj N S_ I Q C ht, jn]; rfl
   ·simp only [cond_true, lj N S_ I Q C ht, jn]; rfl
  ·simp only [Bool.not_true, uV, Bool.true_or, cond_true, lj N S_ I Q C ht, jn]; rfl
 ·simp only [cond_true, lj N S_ I Q C ht, jn]; rfl
theorem wU (he : Pa.Ends (l.drop k)) (hk : l.length < 4611686018427387904) (x : Str) : RdS l (aZ x (l.drop k)) (ba x l (k : Int) N S_ I Q C) := by
 obtain ⟨t, r, ht⟩ := he.ne
 have hd := ik ht
 unfold ba
 simp only [cz]
 rw [AZ N S_ I Q C ht, aq, ht]
 simp only [aZ]
 cases h1 : isT 3 x t
 ·simp only [Bool.not_false, cond_true, cond_false, lj N S_ I Q C ht, jn]; rfl
 ·exact ⟨k + 1, by simp only [Bool.not_true, cond_false, po, gW (show k < 4611686018427387904 by omega)], hd.2.1⟩
theorem BZ (he : Pa.Ends (l.drop k)) (hk : l.length < 4611686018427387904) (neg : Bool) : Rd l (iW neg (l.drop k)) (fun x k => (x, k)) (jK l N S_ I Q C neg (k : Int)) := by
 obtain ⟨t, r, ht⟩ := he.ne
 have hd := ik ht
 unfold jK
 rw [qM N S_ I Q C ht, aq, ht]
 simp only [iW]
 cases h1 : (t.1 != 2)
 ·refine ⟨k + 1, ?_, hd.2.1⟩
  simp only [cond_false, nI, gW (show k < 4611686018427387904 by omega)]
  cases neg <;> rfl
 ·simp only [cond_true, lj N S_ I Q C ht, jn]; rfl
theorem yW (he : Pa.Ends (l.drop k)) (hk : l.length < 4611686018427387904) : Rd l (eY (l.drop k)) (fun x k => (x, k)) (cI l (k : Int) N S_ I Q C) := by
 obtain ⟨t, r, ht⟩ := he.ne
 have hd := ik ht
 unfold cI eY
 rw [AZ N S_ I Q C ht, aq]
 have hh : isH 3 [45] (l.drop k) = isT 3 [45] t := by rw [ht]; rfl
 rw [hh]
 cases h1 : isT 3 [45] t
 ·exact BZ N S_ I Q C he hk false
 ·simp only [cond_true, gW (show k < 4611686018427387904 by omega)]
  have e1 : (l.drop k).tail = l.drop (k + 1) := by rw [ht, hd.2.1]; rfl
  rw [e1]
  refine BZ (k := k + 1) N S_ I Q C ?_ hk true
  rw [hd.2.1]
  rw [ht] at he
  exact he.tail (kE h1 (by decide))
end
end Mo
end Go.Proofs.YtdhgpnejphlfpaaDoor
namespace Go.Proofs.YtdhgpnejphlfpaaDoor
namespace Mo
open Pa Sy
theorem Oj (e : Ex) : kV e = lT mH e := rfl
theorem H9 (e : Ex) (h : e.sz < 4611686018427387904) : kV e = some (rt e) := by
 rw [Oj, ← Ie e.sz e (Nat.le_refl _)]
 have hl := z4 e
 show an (jq _ e) ar (true, true, true, 0) = _
 have := wy mH e (fun x hx => Nj x (by have := qj hx; omega)) (by omega) e.l [] rfl ar true true true (by show e.l.length < 2 ^ 64; omega)
 rw [Cv]
 exact this
section
variable {l : List Tok} {k : Nat} (N : List Str) (S_ : List (Int × Int)) (I : List Int) (Q : List Str) (C : List Cmd)
theorem wT (he : Pa.Ends (l.drop k)) (hk : l.length < 1099511627776) (hN : N.length < 4611686018427387904) (want : Int) :
  Rd l (dY want N (l.drop k)) (fun x k => (x, k)) (bH want l (k : Int) N S_ I Q C) := by
 obtain ⟨r, hP, hm⟩ := Pa.LL (names := N) (l := l) hN (by omega) he
 unfold bH dY
 simp only [cz]
 rw [hm, aq, EG hP]
 cases r with
 | error e =>
  have h0 : (e.1 != 0) = true := by
   rcases hP.err e rfl with h | h | h <;> rw [h] <;> rfl
  simp only [told, h0, cond_true]
  rfl
 | ok p =>
  have hsz := hP.size p rfl
  have hsuf := hP.suf p rfl
  have hjz : szJ (Job.line 1) = 0 := rfl
  rw [hjz] at hsz
  have hdl : (l.drop k).length ≤ l.length := by simp
  simp only [told, show ((0 : Int) != 0) = false from rfl, cond_false, kH, cz]
  rw [H9 p.1 (by omega), aq]
  cases h1 : ((rt p.1).2.1 != 0)
  ·simp only [cond_false, kQ, cz]
   cases h2 : ((rt p.1).1 != want)
   ·simp only [cond_false, kF]
    refine ⟨l.length - p.2.length, rfl, ?_⟩
    obtain ⟨pre, hpre⟩ := hsuf.trans (List.drop_suffix k l)
    have hlen : l.length = pre.length + p.2.length := by rw [← hpre, List.length_append]
    rw [show l.length - p.2.length = pre.length by omega, ← hpre, List.drop_left]
   ·rfl
  ·rfl
theorem JQ {names : List Str} (hn : names.length < 4611686018427387904) (v : Str) : aP names v = some (bO names v) := by
 refine (yn hn v).trans ?_
 unfold bO
 cases at_ names v <;> rfl
/-! assignments -/
theorem Dl (s : List (Int × Ex)) (c : Int) (hs : s.length < 4611686018427387904) : ∀ (r pre : List (Int × Ex)), s = pre ++ r → ∀ M, r.length < M →
  ∃ z, an (bu s c) M (pre.length : Int) = some z ∧ decide (0 ≤ z) = r.any (fun x => x.1 == c)
 | [], pre, h, M, hM => by
  obtain ⟨m, rfl⟩ : ∃ m, M = m + 1 := ⟨M - 1, by simp at hM; omega⟩
  rw [au]
  simp only [bu, Sy.G0 h, cond_false]
  exact ⟨_, rfl, rfl⟩
 | x :: r, pre, h, M, hM => by
  obtain ⟨m, rfl⟩ : ∃ m, M = m + 1 := ⟨M - 1, by omega⟩
  rw [au]
  have hlen : pre.length + r.length + 1 = s.length := by rw [h]; simp; omega
  obtain ⟨z, hz, hd⟩ := Dl s c hs r (pre ++ [x]) (by rw [h]; simp) m (by simp at hM; omega)
  rw [show ((pre ++ [x]).length : Int) = ((pre.length + 1 : Nat) : Int) by simp] at hz
  simp only [bu, Sy.G2 h, cond_true, Sy.mid h, aq, eD, Pa.gW (show pre.length < 4611686018427387904 by omega), List.any_cons]
  cases hv : (x.1 == c)
  ·simp only [cond_false, Bool.false_or]
   exact ⟨z, hz, hd⟩
  ·simp only [cond_true, Bool.true_or]
   exact ⟨_, rfl, by simp⟩
theorem N9 {s : List (Int × Ex)} (hs : s.length < 4611686018427387904) (c : Int) : br s c = some (iy s c) := by
 obtain ⟨z, hz, hd⟩ := Dl s c hs s [] rfl ar (by show _ < 2 ^ 64; omega)
 unfold br dC
 rw [show an (bu s c) ar 0 = some z from hz, aq, hd]
 rfl
noncomputable def mf (names : List Str) (acc : List (Int × Ex)) (ts : List Tok) : Except Err ((Int × Ex) × List Tok) := match ts with
 | [] => .error (2, 0)
 | t :: r => bif t.1 != 1 then .error (2, t.2.2.2) else bif decide (bO names t.2.1 < 0) || iy acc (bO names t.2.1) then .error (3, t.2.2.2) else
  match aZ [61] r with
  | .error e => .error e
  | .ok r1 => match dY 1 names r1 with
   | .error e => .error e
   | .ok (x, r2) => .ok ((bO names t.2.1, x), r2)
theorem mw (names : List Str) (f : Nat) (acc : List (Int × Ex)) (ts : List Tok) : eo names (f + 1) acc ts = match mf names acc ts with
  | .error e => .error e
  | .ok (s, r2) => bif isH 3 [44] r2 then eo names f (acc ++ [s]) r2.tail else .ok (acc ++ [s], r2) := by
 cases ts with
 | nil => rfl
 | cons t r =>
  simp only [eo, mf]
  cases (t.1 != 1)
  ·simp only [cond_false]
   cases (decide (bO names t.2.1 < 0) || iy acc (bO names t.2.1))
   ·simp only [cond_false]
    cases aZ [61] r with
    | error e => rfl
    | ok r1 =>
     simp only
     cases dY 1 names r1 with
     | error e => rfl
     | ok p => rfl
   ·rfl
  ·rfl
theorem Gh {names : List Str} {acc : List (Int × Ex)} {ts : List Tok} {p : (Int × Ex) × List Tok} (he : Pa.Ends ts) (h : mf names acc ts = .ok p) : cL ts p.2 := by
 obtain ⟨t, r, rfl⟩ := he.ne
 simp only [mf] at h
 cases h1 : (t.1 != 1)
 ·rw [h1] at h
  simp only [cond_false] at h
  have hr : Pa.Ends r := he.tail (by simp at h1; omega)
  cases h2 : (decide (bO names t.2.1 < 0) || iy acc (bO names t.2.1))
  ·rw [h2] at h
   simp only [cond_false] at h
   cases h3 : aZ [61] r with
   | error e => rw [h3] at h; cases h
   | ok r1 =>
    rw [h3] at h
    simp only at h
    have k1 := dJ hr h3
    cases h4 : dY 1 names r1 with
    | error e => rw [h4] at h; cases h
    | ok q =>
     rw [h4] at h
     cases h
     have k2 := (gL k1.1 h4).1
     exact ⟨k2.1, by have := k1.2; have := k2.2; simp only [List.length_cons] at *; omega⟩
  ·rw [h2] at h; cases h
 ·rw [h1] at h; cases h
theorem Dt (he : Pa.Ends (l.drop k)) (hk : l.length < 1099511627776) (hN : N.length < 1099511627776) {acc : List (Int × Ex)} (ha : acc.length < 1099511627776) :
  Rd l (mf N acc (l.drop k)) (fun x k => (x, k)) (cJ acc l (k : Int) N S_ I Q C) := by
 obtain ⟨t, r, ht⟩ := he.ne
 have hd := ik ht
 unfold cJ
 rw [qM N S_ I Q C ht, aq]
 have hr : t.1 ≠ 4 → Pa.Ends (l.drop (k + 1)) := fun h => by
  rw [hd.2.1]
  rw [ht] at he
  exact he.tail h
 rw [ht]
 simp only [mf]
 cases h1 : (t.1 != 1)
 ·simp only [cond_false, jr, cz]
  have h14 : t.1 = 1 := by simpa using h1
  rw [JQ (by omega), aq, N9 (by omega)]
  have hg : (az (!decide (bO N t.2.1 < 0)) default (some (iy acc (bO N t.2.1))) fun r44 => bif (decide (bO N t.2.1 < 0) || r44) then bU (aR 3 l (k : Int) N S_ I Q C) fun r53 => r53.elim else dL l (k : Int) N S_ I Q C (bO N t.2.1)) =
    bif (decide (bO N t.2.1 < 0) || iy acc (bO N t.2.1)) then bU (aR 3 l (k : Int) N S_ I Q C) fun r53 => r53.elim else dL l (k : Int) N S_ I Q C (bO N t.2.1) := by
   cases decide (bO N t.2.1 < 0) <;> rfl
  rw [hg]
  cases h2 : (decide (bO N t.2.1 < 0) || iy acc (bO N t.2.1))
  ·simp only [cond_false, dL, gW (show k < 4611686018427387904 by omega)]
   have hs := wU N S_ I Q C (l := l) (k := k + 1) (hr (by omega)) (by omega) [61]
   rw [hd.2.1] at hs
   cases h3 : aZ [61] r with
   | error e =>
    rw [h3] at hs
    rw [show ba [61] l ((k + 1 : Nat) : Int) N S_ I Q C = some (.error e) from hs]
    rfl
   | ok r1 =>
    rw [h3] at hs
    obtain ⟨k1, hm1, hd1⟩ := hs
    have hr1 := (dJ (by rw [← hd.2.1]; exact hr (by omega)) h3).1
    rw [hm1, eM]
    have hx := wT N S_ I Q C (l := l) (k := k1) (by rw [hd1]; exact hr1) hk (by omega) 1
    rw [hd1] at hx
    simp only
    cases h4 : dY 1 N r1 with
    | error e =>
     rw [h4] at hx
     rw [show bH 1 l (k1 : Int) N S_ I Q C = some (.error e) from hx]
     rfl
    | ok p =>
     rw [h4] at hx
     obtain ⟨k2, hm2, hd2⟩ := hx
     rw [hm2, eM]
     exact ⟨k2, rfl, hd2⟩
  ·simp only [cond_true, lj N S_ I Q C ht, jn]; rfl
 ·simp only [cond_true, lj N S_ I Q C ht, jn]; rfl
end
end Mo
end Go.Proofs.YtdhgpnejphlfpaaDoor
namespace Go.Proofs.YtdhgpnejphlfpaaDoor
namespace Mo
open Pa Sy
open Lx (strip)
noncomputable def tl (ts ts' : List Tok) : Prop := ts'.map strip = ts.map strip
theorem nP {t u : Tok} (h : strip u = strip t) (k : Int) (x : Str) : isT k x u = isT k x t := by unfold isT; rw [st1 h, st2 h]
theorem OV {ts us : List Tok} (h : tl ts us) : us.length = ts.length := by
 have := congrArg List.length h
 simpa using this
noncomputable def od (s : Int × Ex) : Int × Ex := (s.1, mp 0 s.2)
noncomputable def ri (c : Cmd) : Cmd := (c.1, mp 0 c.2.1, c.2.2.map od)
noncomputable def eqM (m n : Mdl) : Prop := n.1 = m.1 ∧ n.2.1 = m.2.1 ∧ n.2.2.1 = m.2.2.1 ∧ n.2.2.2.1 = m.2.2.2.1 ∧ n.2.2.2.2.map ri = m.2.2.2.2.map ri
end Mo
end Go.Proofs.YtdhgpnejphlfpaaDoor
namespace Go.Proofs.YtdhgpnejphlfpaaDoor
namespace Mo
open Pa Sy
open Lx (strip)
noncomputable def qF (t : Tok) : Bool := t.1 == 4 || (t.1 == 3 && [[123], [125]].contains t.2.1) || (t.1 == 1 && [[118, 97, 114], [112, 114, 111, 99]].contains t.2.1)
theorem u7 {t : Tok} (h : bad t = false) : qF t = false := by
 unfold bad at h
 unfold qF
 simp only [Bool.or_eq_false_iff] at h ⊢
 refine ⟨⟨h.1.1, ?_⟩, h.2⟩
 cases hc : (t.1 == 3)
 ·rfl
 ·have := h.1.2
  rw [hc, Bool.true_and] at this
  rw [Bool.true_and]
  simp only [List.contains_cons, Bool.or_eq_false_iff] at this ⊢
  exact ⟨this.1, this.2.1, rfl⟩
theorem vb {t : Tok} {c : UInt8} (h : isT 3 [c] t = true) (h1 : c ≠ 123) (h2 : c ≠ 125) : qF t = false := by
 unfold isT at h
 simp only [Bool.and_eq_true, beq_iff_eq] at h
 unfold qF
 rw [h.1, h.2]
 have e1 : ([c] == ([123] : Str)) = false := by simpa using h1
 have e2 : ([c] == ([125] : Str)) = false := by simpa using h2
 simp only [List.contains_cons, e1, e2]
 rfl
theorem tF {x : Str} {ts r : List Tok} (h : aZ x ts = .ok r) : ∃ t, ts = t :: r ∧ isT 3 x t = true := by
 cases ts with
 | nil => cases h
 | cons t r' =>
  simp only [aZ] at h
  cases hc : isT 3 x t
  ·rw [hc] at h; cases h
  ·rw [hc] at h; cases h; exact ⟨t, rfl, hc⟩
theorem tZ {x : Str} {t t' : Tok} {r : List Tok} (h : isT 3 x t = true) (ht : strip t' = strip t) : aZ x (t' :: r) = .ok r := by
 simp only [aZ, nP ht, h]
 rfl
theorem F5 {full : Bool} {names procs : List Str} {ts r : List Tok} {x : Str} (h : er full names procs ts = .ok (x, r)) :
  ∃ t, ts = t :: r ∧ t.1 = 1 ∧ t.2.1 = x ∧ key x = false ∧ names.contains x = false ∧ procs.contains x = false ∧ full = false := by
 cases ts with
 | nil => cases h
 | cons t r' =>
  simp only [er] at h
  cases h1 : (t.1 != 1)
  ·rw [h1] at h
   simp only [cond_false] at h
   cases h2 : (key t.2.1 || names.contains t.2.1 || procs.contains t.2.1)
   ·rw [h2] at h
    cases full
    ·cases h
     simp only [Bool.or_eq_false_iff] at h2
     exact ⟨t, rfl, by simpa using h1, rfl, h2.1.1, h2.1.2, h2.2, rfl⟩
    ·cases h
   ·rw [h2] at h; cases h
  ·rw [h1] at h; cases h
theorem F4 {names procs : List Str} {t t' : Tok} {r : List Tok} {x : Str} (h1 : t.1 = 1) (h2 : t.2.1 = x) (ht : strip t' = strip t) (hk : key x = false) (hn : names.contains x = false) (hp : procs.contains x = false) :
  er false names procs (t' :: r) = .ok (x, r) := by
 have e1 := st1 ht
 have e2 := st2 ht
 simp only [er, e1, e2, h1, h2, hk, hn, hp]
 rfl
theorem y7 {t : Tok} {x : Str} (h1 : t.1 = 1) (h2 : t.2.1 = x) (hk : key x = false) : bad t = false := CY (by
 unfold iw
 rw [h1, h2, hk]; rfl)
theorem Gz {neg : Bool} {ts r : List Tok} {n : Int} (h : iW neg ts = .ok (n, r)) : ∃ t, ts = t :: r ∧ t.1 = 2 ∧ ∀ t' r', strip t' = strip t → iW neg (t' :: r') = .ok (n, r') := by
 cases ts with
 | nil => cases h
 | cons t r' =>
  simp only [iW] at h
  cases h1 : (t.1 != 2)
  ·rw [h1] at h
   cases h
   refine ⟨t, rfl, by simpa using h1, fun t' r' ht => ?_⟩
   simp only [iW, st1 ht, st3 ht, h1]
   rfl
  ·rw [h1] at h; cases h
theorem M4 {t : Tok} (h : isT 3 [45] t = true) : bad t = false := by
 unfold isT at h
 simp only [Bool.and_eq_true, beq_iff_eq] at h
 unfold bad; rw [h.1, h.2]; rfl
theorem DZ {ts r : List Tok} {n : Int} (h : eY ts = .ok (n, r)) : ∃ a, ts = a ++ r ∧ (∀ t ∈ a, bad t = false) ∧ ∀ a' r', tl a a' → eY (a' ++ r') = .ok (n, r') := by
 unfold eY at h
 cases hc : isH 3 [45] ts
 ·rw [hc] at h
  obtain ⟨t, rfl, h2, hl⟩ := Gz h
  refine ⟨[t], rfl, fun u hu => by rw [List.mem_singleton.1 hu]; exact Az (by rw [h2]; rfl), fun a' r' ha => ?_⟩
  obtain ⟨u, us, rfl, hu, hus⟩ := map_cons ha
  have : us = [] := by simpa using hus
  subst this
  unfold eY
  have e : isH 3 [45] (u :: r') = false := by
   show isT 3 [45] u = false
   rw [nP hu]; exact hc
  rw [List.singleton_append, e]
  exact hl u r' hu
 ·rw [hc] at h
  cases ts with
  | nil => cases hc
  | cons m ts =>
   obtain ⟨t, e, h2, hl⟩ := Gz h
   simp only [List.tail_cons] at e
   subst e
   refine ⟨[m, t], rfl, fun u hu => ?_, fun a' r' ha => ?_⟩
   ·rcases List.mem_cons.1 hu with rfl | hu
    ·exact M4 hc
    ·rw [List.mem_singleton.1 hu]; exact Az (by rw [h2]; rfl)
   ·obtain ⟨u, us, rfl, hu, hus⟩ := map_cons ha
    obtain ⟨v, vs, rfl, hv, hvs⟩ := map_cons hus
    have : vs = [] := by simpa using hvs
    subst this
    unfold eY
    have e : isH 3 [45] (u :: v :: r') = true := by
     show isT 3 [45] u = true
     rw [nP hu]; exact hc
    show (bif isH 3 [45] (u :: v :: r') then iW true (v :: r') else _) = _
    rw [e]
    exact hl v r' hv
theorem FY {want : Int} {names : List Str} {ts r : List Tok} {x : Ex} (he : Pa.Ends ts) (h : dY want names ts = .ok (x, r)) : ∃ a, ts = a ++ r ∧ a ≠ [] ∧ (∀ t ∈ a, bad t = false) ∧
  ∀ (k : Nat) names' a' r', Pa.ahead k names names' → tl a a' → mc r r' → ∃ x', dY want names' (a' ++ r') = .ok (x', r') ∧ mp 0 x' = mp k x := by
 obtain ⟨_, hP, h0, hw⟩ := gL he h
 obtain ⟨a, e, hne, hb, hl⟩ := hP.loc _ rfl
 refine ⟨a, e, hne, hb, fun k names' a' r' hn ha hr => ?_⟩
 obtain ⟨x', p1, p2⟩ := hl k names' (.line 1) a' r' hn rfl ha hr
 obtain ⟨q1, q2⟩ := Qb p2
 refine ⟨x', ?_, p2⟩
 unfold dY
 rw [EG p1]
 simp only [q1, q2]
 simp only at h0 hw
 rw [h0, hw]
 simp
/-! a system behind another one -/
noncomputable def shS (k : Nat) (s : Int × Ex) : Int × Ex := (s.1 + k, mp k s.2)
noncomputable def shC (k q : Nat) (c : Cmd) : Cmd := (c.1 + q, mp k c.2.1, c.2.2.map (shS k))
structure RM (m0 m M : Mdl) : Prop where
 names : M.1 = m0.1 ++ m.1
 schema : M.2.1 = m0.2.1 ++ m.2.1
 init : M.2.2.1 = m0.2.2.1 ++ m.2.2.1
 procs : M.2.2.2.1 = m0.2.2.2.1 ++ m.2.2.2.1
 cmds : M.2.2.2.2.map ri = m0.2.2.2.2.map ri ++ m.2.2.2.2.map (shC m0.1.length m0.2.2.2.1.length)
noncomputable def wv (m0 : Mdl) (names procs : List Str) : Prop := ∀ x, x ∈ names ∨ x ∈ procs → x ∉ m0.1 ∧ x ∉ m0.2.2.2.1
theorem Jp {pre names : List Str} {v : Str} {i : Nat} (h : at_ names v = some i) (hv : v ∉ pre) : at_ (pre ++ names) v = some (i + pre.length) := by
 unfold at_ at *
 rw [List.findIdx?_append]
 have : pre.findIdx? (fun x => v == x) = none := by
  rw [List.findIdx?_eq_none_iff]
  intro x hx
  rw [beq_eq_false_iff_ne]
  rintro rfl
  exact hv hx
 rw [this, h]
 rfl
theorem at_mem {names : List Str} {v : Str} {i : Nat} (h : at_ names v = some i) : v ∈ names := by
 unfold at_ at h
 obtain ⟨h1, h2, _⟩ := List.findIdx?_eq_some_iff_getElem.1 h
 rw [beq_iff_eq.1 h2]
 exact List.getElem_mem h1
theorem EJ {m0 : Mdl} {names procs : List Str} (hf : wv m0 names procs) : Pa.ahead m0.1.length names (m0.1 ++ names) := fun v _i h => Jp h (hf v (.inl (at_mem h))).1
theorem Mk {m0 : Mdl} {names procs : List Str} (hf : wv m0 names procs) {v : Str} (h : 0 ≤ bO names v) : bO (m0.1 ++ names) v = bO names v + m0.1.length := by
 unfold bO at *
 cases ha : at_ names v with
 | none => rw [ha] at h; simp at h
 | some i => rw [Jp ha (hf v (.inl (at_mem ha))).1]; simp
theorem Pe {names : List Str} {acc : List (Int × Ex)} {ts r : List Tok} {s : Int × Ex} (he : Pa.Ends ts) (hk : ∀ n ∈ names, key n = false) (h : mf names acc ts = .ok (s, r)) :
  ∃ a, ts = a ++ r ∧ a ≠ [] ∧ (∀ t ∈ a, qF t = false) ∧ Pa.Ends r ∧ ∀ (m0 : Mdl) procs acc' a' r', wv m0 names procs → acc'.map od = acc.map (shS m0.1.length) → tl a a' → mc r r' →
   ∃ s', mf (m0.1 ++ names) acc' (a' ++ r') = .ok (s', r') ∧ od s' = shS m0.1.length s := by
 have hsh := Gh he h
 cases ts with
 | nil => cases h
 | cons t r0 =>
  simp only [mf] at h
  cases h1 : (t.1 != 1)
  case true => rw [h1] at h; cases h
  rw [h1] at h
  simp only [cond_false] at h
  cases h2 : (decide (bO names t.2.1 < 0) || iy acc (bO names t.2.1))
  case true => rw [h2] at h; cases h
  rw [h2] at h
  simp only [cond_false] at h
  have ht : t.1 = 1 := by simpa using h1
  have her := he.tail (by omega)
  simp only [Bool.or_eq_false_iff, decide_eq_false_iff_not] at h2
  cases h3 : aZ [61] r0 with
  | error e => rw [h3] at h; cases h
  | ok r1 =>
   rw [h3] at h
   simp only at h
   have s1 := dJ her h3
   obtain ⟨q, rfl, hq⟩ := tF h3
   cases h4 : dY 1 names r1 with
   | error e => rw [h4] at h; cases h
   | ok p =>
    obtain ⟨x, r2⟩ := p
    rw [h4] at h
    cases h
    obtain ⟨a, rfl, _, hb, hl⟩ := FY s1.1 h4
    have hnk : key t.2.1 = false := by
     refine hk _ ?_
     have := h2.1
     unfold bO at this
     cases ha : at_ names t.2.1 with
     | none => rw [ha] at this; simp at this
     | some i => exact at_mem ha
    refine ⟨t :: q :: a, rfl, by simp, fun u hu => ?_, hsh.1, fun m0 procs acc' a' r' hf hacc ha hr => ?_⟩
    ·rcases List.mem_cons.1 hu with rfl | hu
     ·exact u7 (y7 ht rfl hnk)
     ·rcases List.mem_cons.1 hu with rfl | hu
      ·exact vb hq (by decide) (by decide)
      ·exact u7 (hb u hu)
    ·obtain ⟨t', us, rfl, ht', hus⟩ := map_cons ha
     obtain ⟨q', us2, rfl, hq', hus2⟩ := map_cons hus
     obtain ⟨x', p1, p2⟩ := hl m0.1.length (m0.1 ++ names) us2 r' (EJ hf) hus2 hr
     have hi := Mk hf (v := t.2.1) (by omega)
     refine ⟨(bO names t.2.1 + m0.1.length, x'), ?_, by unfold od shS; rw [p2]⟩
     simp only [List.cons_append, mf, st1 ht', st2 ht', h1, hi]
     have hd : decide (bO names t.2.1 + (m0.1.length : Int) < 0) = false := decide_eq_false (by omega)
     have htw : iy acc' (bO names t.2.1 + m0.1.length) = iy acc (bO names t.2.1) := by
      unfold iy
      have e1 : ∀ (l : List (Int × Ex)) (i : Int), l.any (fun s => s.1 == i) = (l.map od).any (fun s => s.1 == i) := fun l i => by
       rw [List.any_map]; rfl
      rw [e1 acc', hacc, List.any_map]
      congr 1
      funext z
      show (z.1 + (m0.1.length : Int) == bO names t.2.1 + (m0.1.length : Int)) = (z.1 == bO names t.2.1)
      rw [Bool.eq_iff_iff, beq_iff_eq, beq_iff_eq]; omega
     rw [hd, htw, h2.2]
     simp only [Bool.or_self, cond_false]
     rw [tZ hq hq']
     simp only
     rw [p1]
theorem N6 {names : List Str} (hk : ∀ n ∈ names, key n = false) : ∀ (f : Nat) (acc : List (Int × Ex)) (ts r : List Tok) (s : List (Int × Ex)), Pa.Ends ts → eo names f acc ts = .ok (s, r) →
  ∃ a, ts = a ++ r ∧ a ≠ [] ∧ (∀ t ∈ a, qF t = false) ∧ Pa.Ends r ∧ ∀ (m0 : Mdl) procs acc' a' r' f', wv m0 names procs → acc'.map od = acc.map (shS m0.1.length) → tl a a' → mc r r' → a'.length ≤ f' →
   ∃ s', eo (m0.1 ++ names) f' acc' (a' ++ r') = .ok (s', r') ∧ s'.map od = s.map (shS m0.1.length) := by
 intro f
 induction f with
 | zero => intro _ _ _ _ _ h; simp [eo] at h
 | succ f ih =>
  intro acc ts r s he h
  rw [mw] at h
  cases h1 : mf names acc ts with
  | error e => rw [h1] at h; cases h
  | ok p =>
   obtain ⟨s1, r1⟩ := p
   rw [h1] at h
   simp only at h
   obtain ⟨a1, rfl, hne1, hb1, he1, hl1⟩ := Pe he hk h1
   cases h2 : isH 3 [44] r1
   ·rw [h2] at h
    simp only [cond_false] at h
    cases h
    refine ⟨a1, rfl, hne1, hb1, he1, fun m0 procs acc' a' r' f' hf hacc ha hr hf' => ?_⟩
    obtain ⟨s', p1, p2⟩ := hl1 m0 procs acc' a' r' hf hacc ha hr
    obtain ⟨g, rfl⟩ : ∃ g, f' = g + 1 := by
     obtain ⟨u, us, rfl, _⟩ : ∃ u us, a' = u :: us ∧ True := by
      cases a1 with
      | nil => exact absurd rfl hne1
      | cons t a1 => obtain ⟨u, us, rfl, _⟩ := map_cons ha; exact ⟨u, us, rfl, trivial⟩
     exact ⟨f' - 1, by simp only [List.length_cons] at hf'; omega⟩
    rw [mw, p1]
    simp only
    have hh : isH 3 [44] r' = false := by
     obtain ⟨t0, r0, rfl⟩ := he1.ne
     obtain ⟨u, us, rfl, hu⟩ := hr t0 r0 rfl
     show isT 3 [44] u = false
     rw [nP hu]; exact h2
    rw [hh]
    exact ⟨_, rfl, by simp [hacc, p2]⟩
   ·rw [h2] at h
    simp only [cond_true] at h
    obtain ⟨c, r2, rfl⟩ := he1.ne
    have hc : isT 3 [44] c = true := h2
    have he2 : Pa.Ends r2 := he1.tail (kE hc (by decide))
    simp only [List.tail_cons] at h
    obtain ⟨a2, rfl, hne2, hb2, he3, hl2⟩ := ih _ _ _ _ he2 h
    refine ⟨a1 ++ c :: a2, by simp, by simp, fun u hu => ?_, he3, fun m0 procs acc' a' r' f' hf hacc ha hr hf' => ?_⟩
    ·rcases List.mem_append.1 hu with hu | hu
     ·exact hb1 u hu
     ·rcases List.mem_cons.1 hu with rfl | hu
      ·exact vb hc (by decide) (by decide)
      ·exact hb2 u hu
    ·obtain ⟨b1, b2, rfl, hb1', hb2'⟩ := ig ha
     obtain ⟨c', b3, rfl, hc', hb3⟩ := map_cons hb2'
     obtain ⟨s1', p1, p2⟩ := hl1 m0 procs acc' b1 (c' :: (b3 ++ r')) hf hacc hb1' (jR hc')
     simp only [List.length_append, List.length_cons] at hf'
     obtain ⟨g, rfl⟩ : ∃ g, f' = g + 1 := ⟨f' - 1, by omega⟩
     obtain ⟨s2', q1, q2⟩ := hl2 m0 procs (acc' ++ [s1']) b3 r' g hf (by simp [hacc, p2]) hb3 hr (by omega)
     refine ⟨s2', ?_, q2⟩
     rw [List.append_assoc, List.cons_append, mw, p1]
     simp only
     rw [show isH 3 [44] (c' :: (b3 ++ r')) = true from (nP hc' 3 [44]).trans hc]
     exact q1
end Mo
end Go.Proofs.YtdhgpnejphlfpaaDoor
namespace Go.Proofs.YtdhgpnejphlfpaaDoor
namespace Mo
open Pa Sy
open Lx (strip)
noncomputable def NK (m : Mdl) : Prop := ∀ n ∈ m.1, key n = false
structure Fit (m0 m : Mdl) : Prop where
 free : wv m0 m.1 m.2.2.2.1
 names : m0.1.length + m.1.length ≤ 16
 procs : m0.2.2.2.1.length + m.2.2.2.1.length < 1099511627776
 cmds : m0.2.2.2.2.length + m.2.2.2.2.length ≤ 256
theorem RM.len {m0 m M : Mdl} (h : RM m0 m M) : M.2.2.2.2.length = m0.2.2.2.2.length + m.2.2.2.2.length := by
 have := congrArg List.length h.cmds
 simpa using this
theorem PG {m m1 : Mdl} {ts r : List Tok} (he : Pa.Ends ts) (hk : NK m) (h : kg m ts = .ok (m1, r)) :
  ∃ a c, ts = a ++ r ∧ 4 ≤ a.length ∧ (∀ t ∈ a, qF t = false) ∧ Pa.Ends r ∧ m1 = (m.1, m.2.1, m.2.2.1, m.2.2.2.1, m.2.2.2.2 ++ [c]) ∧
   ∀ (m0 M : Mdl) a' r', RM m0 m M → Fit m0 m1 → tl a a' → ∃ M1, kg M (a' ++ r') = .ok (M1, r') ∧ RM m0 m1 M1 := by
 obtain ⟨sh, g, r1, r2, sets, r3, h256, h1, he2, h3, hp, q2, q4⟩ := xD he h
 simp only at hp
 have e1 : Pa.Ends r1 := (gL he h1).1.1
 obtain ⟨a1, rfl, hne1, hb1, hl1⟩ := FY he h1
 obtain ⟨c1, rfl, hc1⟩ := tF q2
 obtain ⟨a2, rfl, hne2, hb2, e3, hl2⟩ := N6 hk _ _ _ _ _ he2 h3
 obtain ⟨c2, rfl, hc2⟩ := tF q4
 have l1 : 1 ≤ a1.length := List.length_pos_iff.2 hne1
 have l2 : 1 ≤ a2.length := List.length_pos_iff.2 hne2
 refine ⟨a1 ++ c1 :: (a2 ++ [c2]), (IntKind.i64.wrap ((m.2.2.2.1.length : Int) - 1), g, sets), by simp, by simp only [List.length_append, List.length_cons, List.length_nil]; omega, fun u hu => ?_, sh.1, hp, fun m0 M a' r' hM hF ha => ?_⟩
 ·rcases List.mem_append.1 hu with hu | hu
  ·exact u7 (hb1 u hu)
  ·rcases List.mem_cons.1 hu with rfl | hu
   ·exact vb hc1 (by decide) (by decide)
   ·rcases List.mem_append.1 hu with hu | hu
    ·exact hb2 u hu
    ·rw [List.mem_singleton.1 hu]; exact vb hc2 (by decide) (by decide)
 ·subst hp
  obtain ⟨b1, b2, rfl, ha1, hb2'⟩ := ig ha
  obtain ⟨c1', b3, rfl, hc1', hb3⟩ := map_cons hb2'
  obtain ⟨b4, b5, rfl, ha4, hb5⟩ := ig hb3
  obtain ⟨c2', b6, rfl, hc2', hb6⟩ := map_cons hb5
  have : b6 = [] := by simpa using hb6
  subst this
  have hfree := hF.free
  have hcm := hF.cmds
  have hpr := hF.procs
  simp only [List.length_append, List.length_singleton] at hfree hcm hpr
  obtain ⟨x', p1, p2⟩ := hl1 m0.1.length (m0.1 ++ m.1) b1 (c1' :: (b4 ++ [c2'] ++ r')) (EJ hfree) ha1 (jR hc1')
  obtain ⟨s', p3, p4⟩ := hl2 m0 m.2.2.2.1 [] b4 (c2' :: r') ((b4 ++ c2' :: r').length + 1) hfree rfl ha4 (jR hc2') (by simp; omega)
  have hml := hM.len
  refine ⟨(M.1, M.2.1, M.2.2.1, M.2.2.2.1, M.2.2.2.2 ++ [(IntKind.i64.wrap ((M.2.2.2.1.length : Int) - 1), x', s')]), ?_, ⟨hM.names, hM.schema, hM.init, hM.procs, ?_⟩⟩
  ·unfold kg
   rw [decide_eq_false (show ¬ (256 : Int) ≤ (M.2.2.2.2.length : Int) by omega), cond_false, hM.names]
   rw [show b1 ++ c1' :: (b4 ++ [c2']) ++ r' = b1 ++ c1' :: (b4 ++ [c2'] ++ r') by simp, p1]
   simp only
   rw [tZ hc1 hc1']
   simp only
   rw [show b4 ++ [c2'] ++ r' = b4 ++ c2' :: r' by simp, p3]
   simp only
   rw [tZ hc2 hc2']
  ·simp only [List.map_append, List.map_cons, List.map_nil, hM.cmds, List.append_assoc]
   congr 2
   unfold ri shC
   simp only [p2, p4, hM.procs, List.length_append]
   rw [w64 (by omega), w64 (by omega)]
   congr 2
   omega
theorem Ob : ∀ (f : Nat) {m m1 : Mdl} {ts r : List Tok}, Pa.Ends ts → NK m → fU f m ts = .ok (m1, r) →
  ∃ a c C, ts = a ++ c :: r ∧ (∀ t ∈ a, qF t = false) ∧ isT 3 [125] c = true ∧ Pa.Ends r ∧ m1 = (m.1, m.2.1, m.2.2.1, m.2.2.2.1, m.2.2.2.2 ++ C) ∧ 4 * C.length ≤ a.length ∧
   ∀ (m0 M : Mdl) a' c' r' f', RM m0 m M → Fit m0 m1 → tl a a' → strip c' = strip c → a'.length < f' → ∃ M1, fU f' M (a' ++ c' :: r') = .ok (M1, r') ∧ RM m0 m1 M1 := by
 intro f
 induction f with
 | zero => intro _ _ _ _ _ _ h; simp [fU] at h
 | succ f ih =>
  intro m m1 ts r he hk h
  simp only [fU] at h
  cases h0 : isH 3 [125] ts
  ·rw [h0] at h
   simp only [cond_false] at h
   cases h1 : kg m ts with
   | error e => rw [h1] at h; cases h
   | ok p =>
    obtain ⟨m2, r2⟩ := p
    rw [h1] at h
    simp only at h
    obtain ⟨a1, k, rfl, l4, hb1, he2, rfl, hl1⟩ := PG he hk h1
    obtain ⟨a2, c, C, rfl, hb2, hc, he3, hm1, hC, hl2⟩ := ih he2 (show NK (m.1, m.2.1, m.2.2.1, m.2.2.2.1, m.2.2.2.2 ++ [k]) from hk) h
    refine ⟨a1 ++ a2, c, k :: C, by simp, fun u hu => ?_, hc, he3, by rw [hm1]; simp, by simp only [List.length_cons, List.length_append]; omega, fun m0 M a' c' r' f' hM hF ha hc' hf' => ?_⟩
    ·rcases List.mem_append.1 hu with hu | hu
     ·exact hb1 u hu
     ·exact hb2 u hu
    ·subst hm1
     obtain ⟨b1, b2, rfl, ha1, ha2⟩ := ig ha
     have hF1 : Fit m0 (m.1, m.2.1, m.2.2.1, m.2.2.2.1, m.2.2.2.2 ++ [k]) := ⟨hF.free, hF.names, hF.procs, by have := hF.cmds; simp only [List.length_append, List.length_cons, List.length_nil] at this ⊢; omega⟩
     obtain ⟨M2, p1, p2⟩ := hl1 m0 M b1 (b2 ++ c' :: r') hM hF1 ha1
     have hlb : b1.length = a1.length := OV ha1
     obtain ⟨g, rfl⟩ : ∃ g, f' = g + 1 := ⟨f' - 1, by omega⟩
     simp only [List.length_append] at hf'
     obtain ⟨M1, q1, q2⟩ := hl2 m0 M2 b2 c' r' g p2 hF ha2 hc' (by omega)
     refine ⟨M1, ?_, q2⟩
     have hh : isH 3 [125] (b1 ++ b2 ++ c' :: r') = false := by
      cases a1 with
      | nil => simp at l4
      | cons t a1 =>
       obtain ⟨u, us, rfl, hu, _⟩ := map_cons ha1
       show isT 3 [125] u = false
       rw [nP hu]; exact h0
     simp only [fU, hh, cond_false]
     rw [List.append_assoc, p1]
     exact q1
  ·rw [h0] at h
   simp only [cond_true] at h
   cases h
   obtain ⟨c, r2, rfl⟩ := he.ne
   have hc : isT 3 [125] c = true := h0
   refine ⟨[], c, [], rfl, fun u hu => (by cases hu), hc, he.tail (kE hc (by decide)), by simp, by simp, fun m0 M a' c' r' f' hM hF ha hc' hf' => ⟨M, ?_, hM⟩⟩
   have : a' = [] := by simpa [tl] using ha
   subst this
   obtain ⟨g, rfl⟩ : ∃ g, f' = g + 1 := ⟨f' - 1, by omega⟩
   simp only [List.nil_append, fU]
   rw [show isH 3 [125] (c' :: r') = true from (nP hc' 3 [125]).trans hc]
   rfl
theorem u6 {m0 : Mdl} {names procs l : List Str} (hf : wv m0 names procs) {x : Str} (hx : x ∈ names ∨ x ∈ procs) (hl : l.contains x = false) : (m0.1 ++ l).contains x = false ∧ (m0.2.2.2.1 ++ l).contains x = false := by
 obtain ⟨h1, h2⟩ := hf x hx
 have h3 : x ∉ l := by simpa using hl
 constructor
 ·simp [h1, h3]
 ·simp [h2, h3]
theorem Nd {m m1 : Mdl} {ts r : List Tok} (he : Pa.Ends ts) (hk : NK m) (h : eT m ts = .ok (m1, r)) :
  ∃ x o a c name C, ts = x :: o :: (a ++ c :: r) ∧ bad x = false ∧ x.1 = 1 ∧ isT 3 [123] o = true ∧ (∀ t ∈ a, qF t = false) ∧ isT 3 [125] c = true ∧ Pa.Ends r ∧ m1 = (m.1, m.2.1, m.2.2.1, m.2.2.2.1 ++ [name], m.2.2.2.2 ++ C) ∧ 4 * C.length ≤ a.length ∧
   ∀ (m0 M : Mdl) x' o' a' c' r', RM m0 m M → Fit m0 m1 → strip x' = strip x → strip o' = strip o → tl a a' → strip c' = strip c → ∃ M1, eT M (x' :: o' :: (a' ++ c' :: r')) = .ok (M1, r') ∧ RM m0 m1 M1 := by
 unfold eT at h
 cases h1 : er false m.1 m.2.2.2.1 ts with
 | error e => rw [h1] at h; cases h
 | ok p =>
  obtain ⟨name, r1⟩ := p
  rw [h1] at h
  simp only at h
  have s1 := (oh he h1).1
  obtain ⟨x, rfl, x1, x2, xk, xn, xp, _⟩ := F5 h1
  cases h2 : aZ [123] r1 with
  | error e => rw [h2] at h; cases h
  | ok r2 =>
   rw [h2] at h
   simp only at h
   have s2 := dJ s1.1 h2
   obtain ⟨o, rfl, ho⟩ := tF h2
   obtain ⟨a, c, C, rfl, hb, hc, her, hm1, hC, hl⟩ := Ob _ s2.1 (show NK (m.1, m.2.1, m.2.2.1, m.2.2.2.1 ++ [name], m.2.2.2.2) from hk) h
   refine ⟨x, o, a, c, name, C, rfl, y7 x1 x2 xk, x1, ho, hb, hc, her, hm1, hC, fun m0 M x' o' a' c' r' hM hF hx' ho' ha hc' => ?_⟩
   subst hm1
   have hfr := u6 hF.free (x := name) (.inr (by simp)) xn
   have hfr2 := u6 hF.free (x := name) (.inr (by simp)) xp
   have hMn : M.1.contains name = false := by rw [hM.names]; exact hfr.1
   have hMp : M.2.2.2.1.contains name = false := by rw [hM.procs]; exact hfr2.2
   obtain ⟨M1, q1, q2⟩ := hl m0 (M.1, M.2.1, M.2.2.1, M.2.2.2.1 ++ [name], M.2.2.2.2) a' c' r' ((a' ++ c' :: r').length + 1) ⟨hM.names, hM.schema, hM.init, by simp only [hM.procs, List.append_assoc], hM.cmds⟩ hF ha hc' (by simp; omega)
   refine ⟨M1, ?_, q2⟩
   unfold eT
   rw [F4 x1 x2 hx' xk hMn hMp]
   simp only
   rw [tZ ho ho']
   exact q1
theorem Pj {m m1 : Mdl} {ts r : List Tok} (he : Pa.Ends ts) (h : jl m ts = .ok (m1, r)) :
  ∃ a c name lo hi fi, ts = a ++ c :: r ∧ (∀ t ∈ a, bad t = false) ∧ isT 3 [59] c = true ∧ Pa.Ends r ∧ m1 = (m.1 ++ [name], m.2.1 ++ [(lo, hi)], m.2.2.1 ++ [fi], m.2.2.2.1, m.2.2.2.2) ∧ key name = false ∧
   ∀ (m0 M : Mdl) a' c' r', RM m0 m M → Fit m0 m1 → tl a a' → strip c' = strip c → ∃ M1, jl M (a' ++ c' :: r') = .ok (M1, r') ∧ RM m0 m1 M1 := by
 have hsh := (tY he h).1
 unfold jl at h
 cases h1 : er (decide (16 ≤ (m.1.length : Int))) m.1 m.2.2.2.1 ts with
 | error e => rw [h1] at h; cases h
 | ok q1 =>
  obtain ⟨name, ts1⟩ := q1
  rw [h1] at h
  simp only at h
  obtain ⟨x, rfl, x1, x2, xk, xn, xp, x16⟩ := F5 h1
  cases h2 : eY ts1 with
  | error e => rw [h2] at h; cases h
  | ok q2 =>
   obtain ⟨lo, ts2⟩ := q2
   rw [h2] at h
   simp only at h
   obtain ⟨a2, rfl, b2, l2⟩ := DZ h2
   cases h3 : eY ts2 with
   | error e => rw [h3] at h; cases h
   | ok q3 =>
    obtain ⟨hi, ts3⟩ := q3
    rw [h3] at h
    simp only at h
    obtain ⟨a3, rfl, b3, l3⟩ := DZ h3
    cases h4 : eY ts3 with
    | error e => rw [h4] at h; cases h
    | ok q4 =>
     obtain ⟨fi, ts4⟩ := q4
     rw [h4] at h
     simp only at h
     obtain ⟨a4, rfl, b4, l4⟩ := DZ h4
     cases h5 : aZ [59] ts4 with
     | error e => rw [h5] at h; cases h
     | ok ts5 =>
      rw [h5] at h
      simp only at h
      obtain ⟨c, rfl, hc⟩ := tF h5
      cases h6 : (!(dk lo hi) || decide (fi < lo) || decide (hi < fi))
      case true => rw [h6] at h; cases h
      rw [h6] at h
      cases h
      refine ⟨x :: (a2 ++ (a3 ++ a4)), c, name, lo, hi, fi, by simp, fun u hu => ?_, hc, hsh.1, rfl, xk, fun m0 M a' c' r' hM hF ha hc' => ?_⟩
      ·rcases List.mem_cons.1 hu with rfl | hu
       ·exact y7 x1 x2 xk
       ·rcases List.mem_append.1 hu with hu | hu
        ·exact b2 u hu
        ·rcases List.mem_append.1 hu with hu | hu
         ·exact b3 u hu
         ·exact b4 u hu
      ·obtain ⟨x', us, rfl, hx', hus⟩ := map_cons ha
       obtain ⟨c2, us2, rfl, hc2, hus2⟩ := ig hus
       obtain ⟨c3, c4, rfl, hc3, hc4⟩ := ig hus2
       have hfr := u6 hF.free (x := name) (.inl (by simp)) xn
       have hfr2 := u6 hF.free (x := name) (.inl (by simp)) xp
       have hMn : M.1.contains name = false := by rw [hM.names]; exact hfr.1
       have hMp : M.2.2.2.1.contains name = false := by rw [hM.procs]; exact hfr2.2
       have h16 : decide (16 ≤ (M.1.length : Int)) = false := by
        have := hF.names
        simp only [List.length_append, List.length_singleton] at this
        rw [hM.names]
        exact decide_eq_false (by simp only [List.length_append]; omega)
       refine ⟨(M.1 ++ [name], M.2.1 ++ [(lo, hi)], M.2.2.1 ++ [fi], M.2.2.2.1, M.2.2.2.2), ?_, ⟨by simp [hM.names], by simp [hM.schema], by simp [hM.init], hM.procs, ?_⟩⟩
       ·unfold jl
        rw [h16, List.cons_append, F4 x1 x2 hx' xk hMn hMp]
        simp only [List.append_assoc]
        rw [l2 c2 _ hc2]
        simp only
        rw [l3 c3 _ hc3]
        simp only
        rw [l4 c4 _ hc4]
        simp only
        rw [tZ hc hc']
        simp only [h6, cond_false]
       ·have := hM.cmds
        simpa using this
end Mo
end Go.Proofs.YtdhgpnejphlfpaaDoor
