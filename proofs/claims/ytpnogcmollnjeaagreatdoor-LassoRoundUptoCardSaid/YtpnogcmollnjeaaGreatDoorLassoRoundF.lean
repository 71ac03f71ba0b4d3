/-
  Own texts for the statement LassoRound, cut down to what it needs: DenR, TrA, TrType, TrEval, ExprLex, TrPa, TrSys, TrPb, TrGen, SysT, LsA, TrRKey, TrRRead, TrRLine, TrRType, TrRSys, TrRSys2. (cut and joined by a program)
-/
import Derived.Test.YtpnogcmollnjeaaGreatDoorLassoRoundA
import Derived.Test.YtpnogcmollnjeaaGreatDoorLassoRoundB
import Derived.Test.YtpnogcmollnjeaaGreatDoorLassoRoundC
import Derived.Test.YtpnogcmollnjeaaGreatDoorLassoRoundD
import Derived.Test.YtpnogcmollnjeaaGreatDoorLassoRoundE
import Derived.KernelRfl
namespace Go.Proofs.YtpnogcmollnjeaaGreatDoor
open Go.Proofs
noncomputable section
set_option maxRecDepth 100000
def oK : Ent := ⟨5, [.str, (.dat .ex [none]), (.dat (.p (.l (.l (.i .i64))) (.l (.l (.i .i64)))) [none, none])], .bool, [], fun s => eA s.1 s.2.1 s.2.2⟩
def fM (eta : Ex → Ex) (_du : Sh → (R : Type) → Option R → Option R) (text : Str) (e : Ex) (l : Q17) : Option Bool := (gJ).bind fun r7 => (fp text).bind fun r10 => ab (!r10.2) fun b26 => aJ (!b26) default (fN l 12) fun r28 => ab (!r28) fun b34 => ab (b26 || b34) fun b36 => ab (decide ((List.length l.2 : Int) < 1)) fun b38 => ab (b36 || b38) fun b40 => aJ (!b40) default (dV (eta e) (List.length r10.1.1 : Int)) fun r42 => ab (!r42) fun b48 => ab (b40 || b48) fun b50 => bif b50 then ( some r7) else ( chk (ay (List.length ([] : List Q3) + List.length l.2) 24) <| chk (ay (List.length (([] : List Q3) ++ l.2) + List.length l.2) 24) <| (idx l.2 0).bind fun e70 => chk (gD 1 ((List.length l.2) : Int) (List.length l.2)) <| (idx l.2 0).bind fun e80 => chk (ay (List.length ([] : List Q3) + List.length l.1) 24) <| chk (ay (List.length (([] : List Q3) ++ l.1) + List.length ([e70] : List Q3)) 24) <| chk (ay (List.length ([] : List Q3) + List.length (bN l.2 1 ((List.length l.2) : Int))) 24) <| chk (ay (List.length (([] : List Q3) ++ (bN l.2 1 ((List.length l.2) : Int))) + List.length ([e80] : List Q3)) 24) <| (dC r10.1 l).bind fun r113 => (dL r10.1 (eta e) l).bind fun r116 => aJ r7 default (dC r10.1 (l.1, ((([] : List Q3) ++ l.2) ++ l.2))) fun r119 => ab (r119 == r113) fun b125 => ab (r7 && b125) fun b127 => aJ b127 default (dC r10.1 (((([] : List Q3) ++ l.1) ++ ([e70] : List Q3)), ((([] : List Q3) ++ (bN l.2 1 ((List.length l.2) : Int))) ++ ([e80] : List Q3)))) fun r129 => ab (r129 == r113) fun b135 => ab (b127 && b135) fun b137 => aJ b137 default (dL r10.1 (eta e) (l.1, ((([] : List Q3) ++ l.2) ++ l.2))) fun r139 => ab (r139 == r116) fun b145 => ab (b137 && b145) fun b147 => aJ b147 default (dL r10.1 (eta e) (((([] : List Q3) ++ l.1) ++ ([e70] : List Q3)), ((([] : List Q3) ++ (bN l.2 1 ((List.length l.2) : Int))) ++ ([e80] : List Q3)))) fun r149 => ab (r149 == r116) fun b155 => ab (b147 && b155) fun b157 => some b157)
theorem nh : (oK).Ok X0.P X0.Γ :=
 az (.c .o (.r [40000] (.r [40000] .o))) Tryz.call5 Tryz.func5 (ok1 qd (ok1 lO (ok1 rT (ok1 oT (ok1 nE (ok1 qj ok0)))))) ok0 ok0 fun s => (show _ = fM gP duE s.1 s.2.1 s.2.2 from by kernel_rfl).trans ((congrArg (fun eta => fM eta duE s.1 s.2.1 s.2.2) cM).trans ((congrArg (fun du => fM id du s.1 s.2.1 s.2.2) dM).trans (by kernel_rfl)))
end
end Go.Proofs.YtpnogcmollnjeaaGreatDoor
namespace Go.Proofs.YtpnogcmollnjeaaGreatDoor
theorem kP (e : Ex) : 1 ≤ e.sz := by rw [Ex.Di]; omega
theorem Iu {x : Ex} : ∀ {l : List Ex}, x ∈ l → x.sz ≤ szL l
 | y :: l, h => by
  simp only [szL]
  rcases List.mem_cons.1 h with rfl | h
  ·omega
  ·have := Iu h; omega
theorem Gl : ∀ (l : List Ex), l.length ≤ szL l
 | [] => Nat.le_refl _
 | x :: l => by have := Gl l; have := kP x; simp only [szL, List.length_cons]; omega
theorem iK {e x : Ex} (h : x ∈ e.l) : x.sz < e.sz := by have := Iu h; rw [Ex.Di e]; omega
theorem sU (e : Ex) : e.l.length < e.sz := by have := Gl e.l; rw [Ex.Di e]; omega
theorem ai {α ρ : Type} (x : α) (k : α → Option ρ) : (some x).bind k = k x := rfl
theorem aP {α ρ : Type} (x : α) (k : α → Option ρ) : ab x k = k x := rfl
theorem cd {α ρ : Type} (d : α) (m : Option α) (k : α → Option ρ) : aJ true d m k = m.bind k := rfl
theorem gG {α ρ : Type} (d : α) (m : Option α) (k : α → Option ρ) : aJ false d m k = k d := rfl
theorem sX {l pre r : List Ex} {x : Ex} (h : l = pre ++ x :: r) : idx l (pre.length : Int) = some x := by subst h; simp [idx]
theorem tz {n : Nat} (h : n < 4611686018427387904) : IntKind.i64.wrap ((n : Int) + 1) = ((n + 1 : Nat) : Int) := by rw [w64 (by omega)]; omega
theorem DW {l pre r : List Ex} {x : Ex} (h : l = pre ++ x :: r) : decide ((pre.length : Int) < (List.length l : Int)) = true := by subst h; simp; omega
theorem Dp {l pre : List Ex} (h : l = pre ++ []) : decide ((pre.length : Int) < (List.length l : Int)) = false := by subst h; simp
noncomputable def mo (op a : Int) (i b t : Bool) : Int × Int × Int :=
 bif decide (op ≤ 6) && i then (1, 0, 0)
 else bif decide (6 < op) && decide (op ≤ 12) && i || op == 13 || op == 14 || decide (15 ≤ op) && decide (op ≤ 19) && b then (2, 0, 0)
 else bif decide (15 ≤ op) && t then (3, 0, 0) else (0, 4, a)
mutual
noncomputable def ty : Ex → Int × Int × Int
 | .mk op _ a l => tyA op a l true true true
noncomputable def tyA (op a : Int) : List Ex → Bool → Bool → Bool → Int × Int × Int
 | [], i, b, t => mo op a i b t
 | x :: r, i, b, t => bif (ty x).2.1 != 0 then (0, (ty x).2.1, (ty x).2.2) else tyA op a r (i && (ty x).1 == 1) (b && (ty x).1 == 2) (t && (ty x).1 != 1)
end
theorem Cr (e : Ex) : ty e = tyA e.op e.at_ e.l true true true := by cases e; simp only [ty, Ex.op, Ex.at_, Ex.l]
theorem JL (op a : Int) (i b t : Bool) : (mo op a i b t).2.1 = 0 → (mo op a i b t).1 = 1 ∨ (mo op a i b t).1 = 2 ∨ (mo op a i b t).1 = 3 := by
 unfold mo
 cases decide (op ≤ 6) && i
 ·cases decide (6 < op) && decide (op ≤ 12) && i || op == 13 || op == 14 || decide (15 ≤ op) && decide (op ≤ 19) && b
  ·cases decide (15 ≤ op) && t
   ·intro h; cases h
   ·intro _; exact .inr (.inr rfl)
  ·intro _; exact .inr (.inl rfl)
 ·intro _; exact .inl rfl
theorem GR (op a : Int) : ∀ (l : List Ex) (i b t : Bool), (tyA op a l i b t).2.1 = 0 → (tyA op a l i b t).1 = 1 ∨ (tyA op a l i b t).1 = 2 ∨ (tyA op a l i b t).1 = 3
 | [], i, b, t => JL op a i b t
 | x :: r, i, b, t => by
  simp only [tyA]
  cases h : (ty x).2.1 != 0
  ·simp only [cond_false]; exact GR op a r _ _ _
  ·simp only [cond_true]
   intro h0
   rw [h0] at h; cases h
theorem JP (e : Ex) : (ty e).2.1 = 0 → (ty e).1 = 1 ∨ (ty e).1 = 2 ∨ (ty e).1 = 3 := by rw [Cr]; exact GR _ _ _ _ _ _
noncomputable def fO (op : Int) : Int := bif op == 1 || op == 2 || op == 13 || op == 14 then 0 else bif op == 6 || op == 15 || op == 20 || op == 21 || op == 22 then 1 else 2
noncomputable def kK (op n len want vars : Int) : Bool :=
 !(decide (op < 1) || decide (24 < op) || len != want) && !((op == 1) && (decide (n < 0) || decide (1073741824 < n)) || (op == 2) && (decide (n < 0) || decide (vars ≤ n)) || decide (2 < op) && n != 0)
mutual
noncomputable def dR (vars : Int) : Ex → Bool
 | .mk op n _ l => kK op n (l.length : Int) (fO op) vars && kL vars l
noncomputable def kL (vars : Int) : List Ex → Bool
 | [] => true
 | x :: r => dR vars x && kL vars r
end
theorem AK (vars : Int) (e : Ex) : dR vars e = (kK e.op e.n (e.l.length : Int) (fO e.op) vars && kL vars e.l) := by cases e; simp only [dR, Ex.op, Ex.n, Ex.l]
noncomputable def tr (b : Bool) : Int := bif b then 1 else 0
noncomputable def evF (op n : Int) (v : List Int) (a b : Int) : Int :=
 bif op == 1 then n else bif op == 2 then (bif decide (n < 0) || decide ((List.length v : Int) ≤ n) then 0 else v.getD n.toNat 0)
 else bif op == 3 then IntKind.i64.wrap (a + b) else bif op == 5 then IntKind.i64.wrap (a * b) else bif op == 6 then IntKind.i64.wrap (0 - a) else bif op == 4 then IntKind.i64.wrap (a - b)
 else bif op == 8 then tr ((a == b) != true) else bif op == 7 then tr ((a == b) != false) else bif op == 19 then tr ((a == b) != false)
 else bif op == 12 then tr (decide (a < b) != true) else bif op == 9 then tr (decide (a < b) != false) else bif op == 11 then tr (decide (a ≤ b) != true) else bif op == 10 then tr (decide (a ≤ b) != false)
 else bif op == 13 then 1 else bif op == 15 then IntKind.i64.wrap (1 - a) else bif op == 16 then IntKind.i64.wrap (a * b) else bif op == 17 then max a b else bif op == 18 then max (IntKind.i64.wrap (1 - a)) b else 0
mutual
noncomputable def ev (v : List Int) : Ex → Int
 | .mk op n _ l => evF op n v (ev0 v l) (ev1 v l)
noncomputable def ev0 (v : List Int) : List Ex → Int
 | [] => 0
 | x :: _ => ev v x
noncomputable def ev1 (v : List Int) : List Ex → Int
 | [] => 0
 | _ :: r => ev0 v r
end
theorem Qv (v : List Int) (e : Ex) : ev v e = evF e.op e.n v (ev0 v e.l) (ev1 v e.l) := by cases e; simp only [ev, Ex.op, Ex.n, Ex.l]
noncomputable def Cd (op a len i b t : Int) : Int × Int × Int :=
 bif decide (op ≤ 6) && (i == len) then (1, 0, 0)
 else bif decide (7 ≤ op) && decide (op ≤ 12) && (i == len) || op == 13 || op == 14 then (2, 0, 0)
 else bif decide (15 ≤ op) && decide (op ≤ 19) && (b == len) then (2, 0, 0)
 else bif decide (15 ≤ op) && (b + t == len) then (3, 0, 0) else (0, 4, a)
mutual
noncomputable def rt : Ex → Int × Int × Int
 | .mk op _ a l => rtA op a (l.length : Int) l 0 0 0
noncomputable def rtA (op a len : Int) : List Ex → Int → Int → Int → Int × Int × Int
 | [], i, b, t => Cd op a len i b t
 | x :: r, i, b, t => bif (rt x).2.1 != 0 then (0, (rt x).2.1, (rt x).2.2) else rtA op a len r (bif (rt x).1 == 1 then i + 1 else i) (bif (rt x).1 == 2 then b + 1 else b) (bif (rt x).1 == 3 then t + 1 else t)
end
theorem rt_eq (e : Ex) : rt e = rtA e.op e.at_ (e.l.length : Int) e.l 0 0 0 := by cases e; simp only [rt, Ex.op, Ex.at_, Ex.l]
theorem pO {α ρ : Type} (g : Bool) (d v : α) (k : α → Option ρ) : aJ g d (some v) k = k (bif g then v else d) := by cases g <;> rfl
theorem JY (op a len : Int) (i b t : Int) : mo op a (i == len) (b == len) (b + t == len) = Cd op a len i b t := by
 unfold mo Cd
 have h6 : decide (6 < op) = decide (7 ≤ op) := by
  by_cases h : 6 < op
  ·rw [decide_eq_true h, decide_eq_true (by omega)]
  ·rw [decide_eq_false h, decide_eq_false (by omega)]
 rw [h6]
 cases (decide (op ≤ 6) && (i == len))
 ·cases (decide (7 ≤ op) && decide (op ≤ 12) && (i == len))
  ·cases (op == 13)
   ·cases (op == 14)
    ·cases (decide (15 ≤ op) && decide (op ≤ 19) && (b == len)) <;> rfl
    ·rfl
   ·rfl
  ·rfl
 ·rfl
theorem y5 (op a len : Int) : ∀ (r : List Ex) (m : Int) (i b t : Int), (∀ x ∈ r, ty x = rt x) → m + r.length = len → 0 ≤ i ∧ 0 ≤ b ∧ 0 ≤ t → i + b + t = m →
  tyA op a r (i == m) (b == m) (b + t == m) = rtA op a len r i b t
 | [], m, i, b, t, _, hm, h0, _ => by
  obtain rfl : m = len := by simpa using hm
  simp only [tyA, rtA]
  exact JY op a m i b t
 | x :: r, m, i, b, t, hx, hm, h0, hs => by
  have e := hx x (by simp)
  have one := JP x
  simp only [tyA, rtA, e] at one ⊢
  cases hf : ((rt x).2.1 != 0)
  ·simp only [cond_false]
   have ih := y5 op a len r (m + 1)
   have hr : ∀ y ∈ r, ty y = rt y := fun y hy => hx y (List.mem_cons_of_mem _ hy)
   have hm' : m + 1 + (r.length : Int) = len := by simp only [List.length_cons] at hm; omega
   have q : ∀ z : Int, z ≤ m → ((z == m) && true) = (z + 1 == m + 1) := fun z _ => by
    rw [Bool.and_true, Bool.eq_iff_iff, beq_iff_eq, beq_iff_eq]; omega
   have q0 : ∀ z : Int, z ≤ m → ((z == m) && false) = (z == m + 1) := fun z hz => by
    rw [Bool.and_false]; symm; rw [beq_eq_false_iff_ne]; omega
   rcases one (by simpa using hf) with h1 | h1 | h1
   ·rw [h1]
    have := ih (i + 1) b t hr hm' ⟨by omega, by omega, by omega⟩ (by omega)
    rw [← q i (by omega), ← q0 b (by omega), ← q0 (b + t) (by omega)] at this
    exact this
   ·rw [h1]
    have := ih i (b + 1) t hr hm' ⟨by omega, by omega, by omega⟩ (by omega)
    rw [show b + 1 + t = b + t + 1 by omega, ← q0 i (by omega), ← q b (by omega), ← q (b + t) (by omega)] at this
    exact this
   ·rw [h1]
    have := ih i b (t + 1) hr hm' ⟨by omega, by omega, by omega⟩ (by omega)
    rw [show b + (t + 1) = b + t + 1 by omega, ← q0 i (by omega), ← q0 b (by omega), ← q (b + t) (by omega)] at this
    exact this
  ·rfl
theorem H6 : ∀ (N : Nat) (e : Ex), e.sz ≤ N → ty e = rt e := by
 intro N
 induction N with
 | zero => intro e h; have := kP e; omega
 | succ N ih =>
  intro e h
  rw [Cr, rt_eq]
  exact y5 e.op e.at_ (e.l.length : Int) e.l 0 0 0 0 (fun x hx => ih x (by have := iK hx; omega)) (by omega) ⟨by omega, by omega, by omega⟩ rfl
theorem Be {vars : Int} {e : Ex} (h : dR vars e = true) : (1 ≤ e.op ∧ e.op ≤ 24) ∧ (e.l.length : Int) = fO e.op ∧ (e.op = 1 → 0 ≤ e.n ∧ e.n ≤ 1073741824) ∧ (e.op = 2 → 0 ≤ e.n ∧ e.n < vars) ∧ ∀ x ∈ e.l, dR vars x = true := by
 rw [AK] at h
 simp only [kK, Bool.and_eq_true, Bool.not_eq_true', Bool.or_eq_false_iff, decide_eq_false_iff_not, bne_eq_false_iff_eq, Bool.and_eq_false_imp, beq_iff_eq] at h
 obtain ⟨⟨⟨⟨h1, h2⟩, h3⟩, ⟨h4, h5⟩, _⟩, h6⟩ := h
 refine ⟨by omega, h3, fun h => by have := h4 h; omega, fun h => by have := h5 h; omega, ?_⟩
 have : ∀ (l : List Ex), kL vars l = true → ∀ x ∈ l, dR vars x = true := fun l => by
  induction l with
  | nil => intro _ x hx; cases hx
  | cons y r ih =>
   intro h x hx
   simp only [kL, Bool.and_eq_true] at h
   rcases List.mem_cons.1 hx with rfl | hx
   ·exact h.1
   ·exact ih h.2 x hx
 exact this _ h6
end Go.Proofs.YtpnogcmollnjeaaGreatDoor
namespace Go.Proofs.YtpnogcmollnjeaaGreatDoor
theorem BA (k : Ex → Option (Int × Int × Int)) (e : Ex) (hk : ∀ x ∈ e.l, k x = some (ty x)) (hl : e.l.length < 4611686018427387904) :
  ∀ (r pre : List Ex), e.l = pre ++ r → ∀ (M : Nat) (i b t : Bool), r.length < M → al (ki k e) M (i, b, t, (pre.length : Int)) = some (tyA e.op e.at_ r i b t)
 | [], pre, h, M, i, b, t, hM => by
  obtain ⟨m, rfl⟩ : ∃ m, M = m + 1 := ⟨M - 1, by simp at hM; omega⟩
  rw [ao]
  simp only [ki, Dp h, cond_false, aP, qk, tyA, mo]
  generalize decide (e.op ≤ 6) = c1
  generalize decide (6 < e.op) = c2
  generalize decide (e.op ≤ 12) = c3
  generalize (e.op == 13) = c4
  generalize (e.op == 14) = c5
  generalize decide (15 ≤ e.op) = c6
  generalize decide (e.op ≤ 19) = c7
  cases c1 <;> cases i <;> cases c2 <;> cases c3 <;> cases c4 <;> cases c5 <;> cases c6 <;> cases c7 <;> cases b <;> cases t <;> rfl
 | x :: r, pre, h, M, i, b, t, hM => by
  obtain ⟨m, rfl⟩ : ∃ m, M = m + 1 := ⟨M - 1, by omega⟩
  rw [ao]
  have hx : k x = some (ty x) := hk x (by rw [h]; simp)
  have hlen : pre.length < 4611686018427387904 := by rw [h] at hl; simp at hl; omega
  have ih := BA k e hk hl r (pre ++ [x]) (by rw [h]; simp) m (i && (ty x).1 == 1) (b && (ty x).1 == 2) (t && (ty x).1 != 1) (by simp at hM; omega)
  rw [show ((pre ++ [x]).length : Int) = ((pre.length + 1 : Nat) : Int) by simp] at ih
  simp only [ki, DW h, cond_true, sX h, ai, hx, aP, tz hlen, tyA]
  cases (ty x).2.1 != 0
  ·exact ih
  ·rfl
theorem IN : ∀ (N : Nat) (e : Ex), e.sz ≤ N → e.sz < 4611686018427387904 → al (fun k s => nW k s) N e = some (ty e) := by
 intro N
 induction N with
 | zero => intro e h; have := kP e; omega
 | succ N ih =>
  intro e h hb
  rw [ao]
  show al (ki _ e) au (true, true, true, 0) = _
  have hl := sU e
  have := BA (al (fun k s => nW k s) N) e (fun x hx => ih x (by have := iK hx; omega) (by have := iK hx; omega)) (by omega) e.l [] rfl au true true true (by show e.l.length < 2 ^ 64; omega)
  rw [Cr]
  exact this
theorem N5 (e : Ex) (h : e.sz < 4611686018427387904) : rQ e = some (ty e) := IN au e (by show e.sz ≤ 2 ^ 64; omega) h
end Go.Proofs.YtpnogcmollnjeaaGreatDoor
namespace Go.Proofs.YtpnogcmollnjeaaGreatDoor
theorem Ly (b : Bool) : mI b = some (tr b) := by cases b <;> rfl
theorem vd (k : Ex × List Int → Option Int) (e : Ex) (v : List Int) (again : Int × Int × Int → Option Int) (a b t : Int) (h : ¬ t < (List.length (bN e.l 0 (min (List.length e.l : Int) 2)) : Int)) :
  bR k e v again (a, b, t) = some (evF e.op e.n v a b) := by
 simp only [bR, decide_eq_false h, cond_false, aP, qH, qt, qJ, qh, qm, Ly, ai, evF]
 cases c2 : (decide (e.n < 0) || decide ((List.length v : Int) ≤ e.n))
 ·have h1 : idx v e.n = some (v.getD e.n.toNat 0) := by
   simp only [Bool.or_eq_false_iff, decide_eq_false_iff_not] at c2
   unfold idx
   rw [if_pos (by omega), List.getElem?_eq_getElem (by omega)]
   simp [List.getD, List.getElem?_eq_getElem (show e.n.toNat < v.length by omega)]
  rw [h1]
  generalize (e.op == 1) = b1
  generalize (e.op == 2) = b2
  generalize (e.op == 3) = b3
  generalize (e.op == 5) = b5
  generalize (e.op == 6) = b6
  generalize (e.op == 4) = b4
  generalize (e.op == 8) = b8
  generalize (e.op == 7) = b7
  generalize (e.op == 19) = b19
  generalize (e.op == 12) = b12
  generalize (e.op == 9) = b9
  generalize (e.op == 11) = b11
  generalize (e.op == 10) = b10
  generalize (e.op == 13) = b13
  generalize (e.op == 15) = b15
  generalize (e.op == 16) = b16
  generalize (e.op == 17) = b17
  generalize (e.op == 18) = b18
  cases b1
  case true => rfl
  cases b2
  case true => rfl
  cases b3
  case true => rfl
  cases b5
  case true => rfl
  cases b6
  case true => rfl
  cases b4
  case true => rfl
  cases b8
  case true => rfl
  cases b7
  case true => rfl
  cases b19
  case true => rfl
  cases b12
  case true => rfl
  cases b9
  case true => rfl
  cases b11
  case true => rfl
  cases b10
  case true => rfl
  cases b13
  case true => rfl
  cases b15
  case true => rfl
  cases b16
  case true => rfl
  cases b17
  case true => rfl
  cases b18 <;> rfl
 ·generalize (e.op == 1) = b1
  generalize (e.op == 2) = b2
  generalize (e.op == 3) = b3
  generalize (e.op == 5) = b5
  generalize (e.op == 6) = b6
  generalize (e.op == 4) = b4
  generalize (e.op == 8) = b8
  generalize (e.op == 7) = b7
  generalize (e.op == 19) = b19
  generalize (e.op == 12) = b12
  generalize (e.op == 9) = b9
  generalize (e.op == 11) = b11
  generalize (e.op == 10) = b10
  generalize (e.op == 13) = b13
  generalize (e.op == 15) = b15
  generalize (e.op == 16) = b16
  generalize (e.op == 17) = b17
  generalize (e.op == 18) = b18
  cases b1
  case true => rfl
  cases b2
  case true => rfl
  cases b3
  case true => rfl
  cases b5
  case true => rfl
  cases b6
  case true => rfl
  cases b4
  case true => rfl
  cases b8
  case true => rfl
  cases b7
  case true => rfl
  cases b19
  case true => rfl
  cases b12
  case true => rfl
  cases b9
  case true => rfl
  cases b11
  case true => rfl
  cases b10
  case true => rfl
  cases b13
  case true => rfl
  cases b15
  case true => rfl
  cases b16
  case true => rfl
  cases b17
  case true => rfl
  cases b18 <;> rfl
theorem OS (k : Ex × List Int → Option Int) (e : Ex) (v : List Int) (hk : ∀ x ∈ e.l, k (x, v) = some (ev v x)) : kO k e v = some (ev v e) := by
 unfold kO
 have hc : gD 0 (min (List.length e.l : Int) 2) (List.length e.l) = true := tI.2 ⟨⟨Int.le_refl _, by omega⟩, by omega⟩
 rw [hc, Qv]
 show al (bR k e v) au (0, 0, 0) = _
 rw [show au = 18446744073709551613 + 1 + 1 + 1 from rfl]
 generalize 18446744073709551613 = N
 rw [ao]
 obtain ⟨op, n, a, l⟩ := e
 match l, hk with
 | [], _ => exact vd k (.mk op n a []) v _ 0 0 0 (by show ¬ (0 : Int) < ((List.length (bN ([] : List Ex) 0 _) : Nat) : Int); simp [bN])
 | [x], hk =>
  have hx := hk x (by simp [Ex.l])
  have hl : bN [x] 0 (min (List.length [x] : Int) 2) = [x] := rfl
  have h1 : bR k (.mk op n a [x]) v (al (bR k (.mk op n a [x]) v) (N + 1 + 1)) (0, 0, 0) = al (bR k (.mk op n a [x]) v) (N + 1 + 1) (ev v x, 0, 1) := by
   simp only [bR, Ex.l, hl]
   show (k (x, v)).bind _ = _
   rw [hx]
   rfl
  rw [h1, ao]
  exact vd k (.mk op n a [x]) v _ (ev v x) 0 1 (by show ¬ (1 : Int) < (List.length (bN [x] 0 (min (List.length [x] : Int) 2)) : Int); rw [hl]; simp)
 | x :: y :: r, hk =>
  have hx := hk x (by simp [Ex.l])
  have hy := hk y (by simp [Ex.l])
  have hm : min (List.length (x :: y :: r) : Int) 2 = 2 := by simp only [List.length_cons]; omega
  have hl : bN (x :: y :: r) 0 2 = [x, y] := rfl
  have h1 : bR k (.mk op n a (x :: y :: r)) v (al (bR k (.mk op n a (x :: y :: r)) v) (N + 1 + 1)) (0, 0, 0) = al (bR k (.mk op n a (x :: y :: r)) v) (N + 1 + 1) (ev v x, 0, 1) := by
   show (bif decide ((0 : Int) < (List.length (bN (x :: y :: r) 0 (min (List.length (x :: y :: r) : Int) 2)) : Int)) then (idx (bN (x :: y :: r) 0 (min (List.length (x :: y :: r) : Int) 2)) 0).bind _ else _) = _
   rw [hm, hl]
   show (k (x, v)).bind _ = _
   rw [hx]
   rfl
  have h2 : bR k (.mk op n a (x :: y :: r)) v (al (bR k (.mk op n a (x :: y :: r)) v) (N + 1)) (ev v x, 0, 1) = al (bR k (.mk op n a (x :: y :: r)) v) (N + 1) (ev v x, ev v y, 2) := by
   show (bif decide ((1 : Int) < (List.length (bN (x :: y :: r) 0 (min (List.length (x :: y :: r) : Int) 2)) : Int)) then (idx (bN (x :: y :: r) 0 (min (List.length (x :: y :: r) : Int) 2)) 1).bind _ else _) = _
   rw [hm, hl]
   show (k (y, v)).bind _ = _
   rw [hy]
   rfl
  rw [h1, ao, h2, ao]
  exact vd k (.mk op n a (x :: y :: r)) v _ (ev v x) (ev v y) 2 (by show ¬ (2 : Int) < (List.length (bN (x :: y :: r) 0 (min (List.length (x :: y :: r) : Int) 2)) : Int); rw [hm, hl]; simp)
theorem IL : ∀ (N : Nat) (e : Ex) (v : List Int), e.sz ≤ N → al (fun k (s : Ex × List Int) => kO k s.1 s.2) N (e, v) = some (ev v e) := by
 intro N
 induction N with
 | zero => intro e _ h; have := kP e; omega
 | succ N ih =>
  intro e v h
  rw [ao]
  exact OS _ e v (fun x hx => ih x v (by have := iK hx; omega))
theorem Ao (e : Ex) (h : e.sz < 4611686018427387904) (v : List Int) : kj e v = some (ev v e) := IL au e v (by show e.sz ≤ 2 ^ 64; omega)
end Go.Proofs.YtpnogcmollnjeaaGreatDoor
namespace Go.Proofs.YtpnogcmollnjeaaGreatDoor
namespace Lx
theorem N8 {α : Type} (xs : List α) (k : Nat) : idx xs (k : Int) = xs[k]? := by simp [idx]
theorem O9 {α : Type} {xs : List α} {k : Nat} (h : k < xs.length) : idx xs (k : Int) = some xs[k] := by rw [N8, List.getElem?_eq_getElem h]
theorem ao {σ ρ : Type} (F : (σ → Option ρ) → σ → Option ρ) (n : Nat) (s : σ) : al F (n + 1) s = F (al F n) s := rfl
theorem jZ {ρ : Type} (k : Option ρ) : chk true k = k := rfl
theorem pg {ρ : Type} (c : Bool) (k : Option ρ) : uI false c k = k := rfl
theorem j6 {ρ : Type} (k : Option ρ) (g : Bool) : uI g true k = k := by cases g <;> rfl
theorem jB {α ρ : Type} (d : α) (m : Option α) (k : α → Option ρ) : aJ true d m k = m.bind k := rfl
theorem nc {α ρ : Type} (d : α) (m : Option α) (k : α → Option ρ) : aJ false d m k = k d := rfl
theorem fX {α ρ : Type} (x : α) (k : α → Option ρ) : (some x).bind k = k x := rfl
theorem gi {α ρ : Type} (x : α) (k : α → Option ρ) : ab x k = k x := rfl
theorem lz {i : Int} {n : Nat} (h0 : 0 ≤ i) (h1 : i < n) : inB i n = true := jC.2 ⟨h0, h1⟩
theorem vZ {i j : Int} {n : Nat} (h0 : 0 ≤ i) (h1 : i ≤ j) (h2 : j ≤ n) : gD i j n = true := tI.2 ⟨⟨h0, h1⟩, h2⟩
theorem pF {k b : Nat} (h : k * b ≤ 140737488355328) (h2 : k ≤ 9223372036854775807) : ay k b = true := by
  simp only [ay, Bool.and_eq_true]; exact ⟨Nat.ble_eq_true_of_le h, Nat.ble_eq_true_of_le h2⟩
theorem yD (l : Str) (k : Nat) (h : k < l.length) : hZ l (k : Int) = (l[k].toNat : Int) := by
  simp [hZ, List.getD, h]
theorem NW (l : Str) (i j : Nat) : cut l (i : Int) (j : Int) = (l.drop i).take (j - i) := rfl
theorem kC {p : Prop} [Decidable p] (h : p) : decide p = true := decide_eq_true h
theorem nX {p : Prop} [Decidable p] (h : ¬ p) : decide p = false := decide_eq_false h
theorem pY : au = 18446744073709551616 := rfl
theorem NI {σ ρ : Type} {F : (σ → Option ρ) → σ → Option ρ} {N : Nat} (st : Nat → σ) (n : Nat) (r : Option ρ)
    (step : ∀ again k, k < n → F again (st k) = again (st (k + 1))) (last : ∀ again, F again (st n) = r) :
    ∀ k, k ≤ n → n - k < N → al F N (st k) = r := by
  induction N with
  | zero => intro k _ h; omega
  | succ N ih =>
    intro k hk hN
    rw [ao]
    by_cases hkn : k < n
    · rw [step _ k hkn]; exact ih (k + 1) (by omega) (by omega)
    · have : k = n := by omega
      subst this; exact last _
theorem fixN_upto {σ ρ : Type} {F : (σ → Option ρ) → σ → Option ρ} {N : Nat} (st : Nat → σ) (n m : Nat) (_hm : m ≤ n) (r : Option ρ)
    (step : ∀ again k, k < m → F again (st k) = again (st (k + 1))) (last : ∀ again, F again (st m) = r) (h0 : m < N) : al F N (st 0) = r :=
  NI st m r step last 0 (Nat.zero_le _) (by omega)
abbrev Tok := Int × Str × Int × Int
noncomputable def dS (c : UInt8) : Bool := c == 32 || c == 9 || c == 10 || c == 13
noncomputable def cS (c : UInt8) : Bool := (decide (97 ≤ c) && decide (c ≤ 122)) || (decide (65 ≤ c) && decide (c ≤ 90)) || c == 95
noncomputable def isDigit (c : UInt8) : Bool := decide (48 ≤ c) && decide (c ≤ 57)
noncomputable def bV (c : UInt8) : Bool := cS c || isDigit c
noncomputable def n3 (c : UInt8) : Bool := c != 10
theorem rM (c d : UInt8) : ((c.toNat : Int) == (d.toNat : Int)) = (c == d) := by
  rw [Bool.eq_iff_iff]
  simp only [beq_iff_eq]
  constructor
  · intro h; exact UInt8.toNat_inj.1 (by omega)
  · intro h; rw [h]
theorem Ae (c d : UInt8) : decide ((c.toNat : Int) ≤ (d.toNat : Int)) = decide (c ≤ d) := by
  rw [Bool.eq_iff_iff]
  simp only [decide_eq_true_eq, UInt8.le_iff_toNat_le]
  omega
/-! runs -/
theorem ql {p : UInt8 → Bool} : ∀ (l : Str) (k : Nat), (∀ i (h : i < l.length), i < k → p l[i] = true) → k ≤ l.length → (∀ h : k < l.length, p l[k] = false) → l.takeWhile p = l.take k
  | [], k, _, hk, _ => by simp
  | c :: l, 0, _, _, h2 => by
    have := h2 (by simp)
    simp at this
    simp [this]
  | c :: l, k + 1, h1, hk, h2 => by
    have hc := h1 0 (by simp) (by omega)
    simp at hc
    rw [List.takeWhile_cons, if_pos hc, List.take_succ_cons, ql l k (fun i h hik => by
      have := h1 (i + 1) (by simp; omega) (by omega)
      simpa using this) (by simpa using hk) (fun h => by
      have := h2 (by simp; omega)
      simpa using this)]
/-! numbers -/
noncomputable def dig (c : UInt8) : Int := (c.toNat : Int) - 48
noncomputable def dp (n : Int) (s : Str) : Int := s.foldl (fun n c => 10 * n + dig c) n
noncomputable def big (n : Int) : Bool := decide (1073741824 < n)
theorem yn {c : UInt8} (h : isDigit c = true) : 0 ≤ dig c ∧ dig c ≤ 9 := by
  simp only [isDigit, Bool.and_eq_true, decide_eq_true_eq, UInt8.le_iff_toNat_le] at h
  unfold dig
  have h1 : (48 : UInt8).toNat = 48 := rfl
  have h2 : (57 : UInt8).toNat = 57 := rfl
  omega
theorem qO : ∀ (s : Str) (n : Int), 0 ≤ n → s.all isDigit = true → n ≤ dp n s
  | [], n, _, _ => Int.le_refl _
  | c :: s, n, hn, h => by
    simp only [List.all_cons, Bool.and_eq_true] at h
    have hd := yn h.1
    have := qO s (10 * n + dig c) (by omega) h.2
    show n ≤ dp (10 * n + dig c) s
    omega
theorem rune_digit (s : Str) (k : Nat) (h : k < s.length) (hd : isDigit s[k] = true) : u5 s k = (s[k].toNat : Int) ∧ jD s k = k + 1 := by
  have hc : (s[k].toNat : Nat) < 128 := by
    simp only [isDigit, Bool.and_eq_true, decide_eq_true_eq, UInt8.le_iff_toNat_le] at hd
    have h2 : (57 : UInt8).toNat = 57 := rfl
    omega
  have hget : (⟨s.toArray⟩ : ByteArray).get! k = s[k] := by
    show s.toArray[k]! = s[k]
    simp [h]
  have hdec : Utf8.decode ⟨s.toArray⟩ k = (s[k].toNat, 1) := by
    unfold Utf8.decode
    simp only [Nat.add_zero, hget]
    rw [if_pos hc]
  exact ⟨by simp [u5, hdec], by simp [jD, hdec]⟩
/-! signs -/
noncomputable def bz : List Str := [[60, 45, 62], [45, 62], [61, 61], [33, 61], [60, 61], [62, 61], [60], [62], [61], [43], [45], [42], [40], [41], [123], [125], [59], [44], [58], [38], [124], [33]]
noncomputable def cF (s : Str) : Str := (bz.find? (fun g => g.isPrefixOf s)).getD []
/-! one step -/
inductive Step where
  | skip (k : Nat)
  | err (e : Int)
  | tok (k : Int) (t : Str) (n : Int)
noncomputable def step : Str → Step
  | [] => .skip 0
  | c :: s =>
    if dS c then .skip 1
    else if c == 35 then .skip ((c :: s).takeWhile n3).length
    else if cS c then (if 32 < ((c :: s).takeWhile bV).length then .err 9 else .tok 1 ((c :: s).takeWhile bV) 0)
    else if isDigit c then (if big (dp 0 ((c :: s).takeWhile isDigit)) then .err 9 else .tok 2 ((c :: s).takeWhile isDigit) (dp 0 ((c :: s).takeWhile isDigit)))
    else if cF (c :: s) == [] then .err 2 else .tok 3 (cF (c :: s)) 0
noncomputable def gQ : Nat → Nat → Str → Except (Int × Int) (List Tok)
  | 0, _, _ => .ok []
  | _ + 1, at_, [] => .ok [(4, [], 0, (at_ : Int))]
  | f + 1, at_, c :: s =>
    match step (c :: s) with
    | .skip k => gQ f (at_ + k) ((c :: s).drop k)
    | .err e => .error (e, at_)
    | .tok k t n => match gQ f (at_ + t.length) ((c :: s).drop t.length) with
      | .ok l => .ok ((k, t, n, (at_ : Int)) :: l)
      | .error e => .error e
noncomputable def res : Except (Int × Int) (List Tok) → List Tok × Int × Int
  | .ok l => (l, 0, 0)
  | .error e => ([], e.1, e.2)
noncomputable def tokens (s : Str) : List Tok × Int × Int := if 65536 < s.length then ([], 9, 0) else res (gQ (s.length + 1) 0 s)
theorem jy (p : UInt8 → Bool) : ∀ s : Str, (s.takeWhile p).all p = true
  | [] => rfl
  | c :: s => by
    rw [List.takeWhile_cons]
    split
    · rename_i h; simp only [List.all_cons, h, Bool.true_and]; exact jy p s
    · rfl
theorem kZ (p : UInt8 → Bool) (s : Str) : (s.takeWhile p).length ≤ s.length := (List.takeWhile_prefix p).length_le
theorem gV {p : UInt8 → Bool} {c : UInt8} {s : Str} (h : p c = true) : 1 ≤ ((c :: s).takeWhile p).length := by
  rw [List.takeWhile_cons, if_pos h]; simp
theorem lr {c : UInt8} (h : cS c = true) : bV c = true := by simp [bV, h]
theorem AX : ∀ g ∈ bz, 1 ≤ g.length := by decide
theorem o9 {s : Str} (h : (cF s == []) = false) : cF s ∈ bz ∧ cF s <+: s ∧ bz.find? (fun g => g.isPrefixOf s) = some (cF s) := by
  unfold cF at *
  cases hf : bz.find? (fun g => g.isPrefixOf s) with
  | none => rw [hf] at h; simp at h
  | some g =>
    refine ⟨List.mem_of_find?_eq_some hf, ?_, rfl⟩
    have := List.find?_some hf
    simpa using this
theorem step_take {c : UInt8} {s : Str} (hb : dS c = false) (hc : (c == 35) = false) {k : Int} {t : Str} {n : Int} (h : step (c :: s) = .tok k t n) : 1 ≤ t.length ∧ t <+: (c :: s) := by
  simp only [step, hb, hc, Bool.false_eq_true, if_false] at h
  cases hlet : cS c
  · simp only [hlet, Bool.false_eq_true, if_false] at h
    cases hdig : isDigit c
    · simp only [hdig, Bool.false_eq_true, if_false] at h
      cases hsg : (cF (c :: s) == [])
      · simp only [hsg, Bool.false_eq_true, if_false, Step.tok.injEq] at h
        obtain ⟨_, rfl, _⟩ := h
        obtain ⟨h1, h2, _⟩ := o9 hsg
        exact ⟨AX _ h1, h2⟩
      · simp [hsg] at h
    · simp only [hdig, if_true] at h
      split at h
      · cases h
      · simp only [Step.tok.injEq] at h
        obtain ⟨_, rfl, _⟩ := h
        exact ⟨gV hdig, List.takeWhile_prefix _⟩
  · simp only [hlet, if_true] at h
    split at h
    · cases h
    · simp only [Step.tok.injEq] at h
      obtain ⟨_, rfl, _⟩ := h
      exact ⟨gV (lr hlet), List.takeWhile_prefix _⟩
noncomputable def vY (out : List Tok) : Except (Int × Int) (List Tok) → List Tok × Int × Int
  | .ok l => (out ++ l, 0, 0)
  | .error e => ([], e.1, e.2)
theorem BV {s : Str} {k : Nat} {c : UInt8} {r : Str} (h : s.drop k = c :: r) : ∃ hk : k < s.length, s[k] = c := by
  have hk : k < s.length := by
    rcases Nat.lt_or_ge k s.length with h' | h'
    · exact h'
    · rw [List.drop_of_length_le h'] at h; cases h
  refine ⟨hk, ?_⟩
  rw [List.drop_eq_getElem_cons hk] at h
  exact (List.cons.inj h).1
theorem PO {c : UInt8} {s : Str} {e : Int} (h : step (c :: s) = .err e) : e ≠ 0 := by
  simp only [step] at h
  split at h
  · cases h
  · split at h
    · cases h
    · split at h
      · split at h
        · cases h; decide
        · cases h
      · split at h
        · split at h
          · cases h; decide
          · cases h
        · split at h
          · cases h; decide
          · cases h
theorem uT {σ ρ : Type} {F : (σ → Option ρ) → σ → Option ρ} (p : UInt8 → Bool) (s : Str) (st : Nat → σ) (r : Nat → Option ρ)
    (go : ∀ again k (h : k < s.length), p s[k] = true → (∀ i (hi : i < s.length), i < k → p s[i] = true) → F again (st k) = again (st (k + 1)))
    (stop : ∀ again k (h : k < s.length), p s[k] = false → F again (st k) = r k)
    (last : ∀ again, F again (st s.length) = r s.length) (N : Nat) (hN : s.length < N) : al F N (st 0) = r (s.takeWhile p).length := by
  have key : ∀ N k, k ≤ s.length → s.length - k < N → (∀ i (h : i < s.length), i < k → p s[i] = true) → al F N (st k) = r (s.takeWhile p).length := by
    intro N
    induction N with
    | zero => intro k _ h; omega
    | succ N ih =>
      intro k hk hN hp
      rw [ao]
      by_cases hlt : k < s.length
      · cases hpk : p s[k]
        · rw [stop _ k hlt hpk, ql s k hp hk (fun _ => hpk), List.length_take, Nat.min_eq_left hk]
        · rw [go _ k hlt hpk hp]
          exact ih (k + 1) (by omega) (by omega) (fun i h hi => by
            rcases Nat.lt_or_ge i k with h' | h'
            · exact hp i h h'
            · have : i = k := by omega
              subst this; exact hpk)
      · have : k = s.length := by omega
        subst this
        rw [last, ql s s.length hp (Nat.le_refl _) (fun h => absurd h hlt), List.length_take, Nat.min_self]
  exact key N 0 (Nat.zero_le _) (by omega) (fun i _ h => by omega)
noncomputable def kindOf (c : UInt8) : Int := if dS c then 0 else if cS c then 1 else if isDigit c then 2 else 3
theorem FJ (c : UInt8) : dS c = (((c == 9 || c == 10) || c == 13) || c == 32) := by
  unfold dS
  cases (c == 32) <;> cases (c == 9) <;> cases (c == 10) <;> cases (c == 13) <;> rfl
theorem tu (c : UInt8) : dc (c.toNat : Int) = some (kindOf c) := by
  unfold dc
  simp only [gi]
  have h1 := rM c 32; have h2 := rM c 9; have h3 := rM c 10; have h4 := rM c 13
  have k1 := Ae 97 c; have k2 := Ae c 122; have k3 := Ae 65 c; have k4 := Ae c 90; have k5 := rM c 95
  have d1 := Ae 48 c; have d2 := Ae c 57
  rw [show ((32 : Int) = ((32 : UInt8).toNat : Int)) from rfl, show ((9 : Int) = ((9 : UInt8).toNat : Int)) from rfl, show ((10 : Int) = ((10 : UInt8).toNat : Int)) from rfl, show ((13 : Int) = ((13 : UInt8).toNat : Int)) from rfl, h1, h2, h3, h4, ← FJ]
  rw [show ((97 : Int) = ((97 : UInt8).toNat : Int)) from rfl, show ((122 : Int) = ((122 : UInt8).toNat : Int)) from rfl, show ((65 : Int) = ((65 : UInt8).toNat : Int)) from rfl, show ((90 : Int) = ((90 : UInt8).toNat : Int)) from rfl, show ((95 : Int) = ((95 : UInt8).toNat : Int)) from rfl, k1, k2, k3, k4, k5]
  rw [show ((48 : Int) = ((48 : UInt8).toNat : Int)) from rfl, show ((57 : Int) = ((57 : UInt8).toNat : Int)) from rfl, d1, d2]
  unfold kindOf
  have e1 : ((decide (97 ≤ c) && decide (c ≤ 122)) || (decide (65 ≤ c) && decide (c ≤ 90)) || c == 95) = cS c := rfl
  have e2 : (decide (48 ≤ c) && decide (c ≤ 57)) = isDigit c := rfl
  rw [e1, e2]
  cases dS c <;> cases cS c <;> cases isDigit c <;> rfl
noncomputable def bw (n : Int) (s : Str) : Int := s.foldl (fun n c => if n ≤ 1073741824 then 10 * n + dig c else n) n
theorem Dl : ∀ (s : Str) (n : Int), 1073741824 < n → bw n s = n
  | [], _, _ => rfl
  | c :: s, n, h => by
    show bw (if n ≤ 1073741824 then 10 * n + dig c else n) s = n
    rw [if_neg (by omega)]; exact Dl s n h
theorem Gb : ∀ (s : Str) (n : Int), 0 ≤ n → s.all isDigit = true → (big (dp n s) = false → bw n s = dp n s) ∧ (big (dp n s) = true → 1073741824 < bw n s)
  | [], n, _, _ => ⟨fun _ => rfl, fun h => of_decide_eq_true (show decide (1073741824 < n) = true from h)⟩
  | c :: s, n, hn, h => by
    simp only [List.all_cons, Bool.and_eq_true] at h
    have hd := yn h.1
    have ih := Gb s (10 * n + dig c) (by omega) h.2
    have e1 : dp n (c :: s) = dp (10 * n + dig c) s := rfl
    have e2 : bw n (c :: s) = bw (if n ≤ 1073741824 then 10 * n + dig c else n) s := rfl
    rw [e1, e2]
    by_cases hb : n ≤ 1073741824
    · rw [if_pos hb]; exact ih
    · rw [if_neg hb]
      have hm := qO s (10 * n + dig c) (by omega) h.2
      constructor
      · intro hf; simp [big] at hf; omega
      · intro _; rw [Dl s n (by omega)]; omega
theorem vc : ∀ (s : Str) (n : Int), 0 ≤ n → n ≤ 10737418249 → s.all isDigit = true → 0 ≤ bw n s ∧ bw n s ≤ 10737418249
  | [], n, h, h', _ => ⟨h, h'⟩
  | c :: s, n, h, h', hd => by
    simp only [List.all_cons, Bool.and_eq_true] at hd
    have hdl := yn hd.1
    show 0 ≤ bw (if n ≤ 1073741824 then 10 * n + dig c else n) s ∧ bw (if n ≤ 1073741824 then 10 * n + dig c else n) s ≤ 10737418249
    split
    · exact vc s _ (by omega) (by omega) hd.2
    · exact vc s _ h h' hd.2
theorem Lu (s : Str) (k : Nat) (h : k < s.length) : bw 0 (s.take (k + 1)) = if bw 0 (s.take k) ≤ 1073741824 then 10 * bw 0 (s.take k) + dig s[k] else bw 0 (s.take k) := by
  have e : bw 0 (s.take (k + 1)) = bw (bw 0 (s.take k)) [s[k]] := by
    rw [List.take_succ_eq_append_getElem h]; unfold bw; rw [List.foldl_append]
  rw [e]; rfl
theorem sV (p : UInt8 → Bool) (s : Str) : s.take (s.takeWhile p).length = s.takeWhile p :=
  (List.prefix_iff_eq_take.1 (List.takeWhile_prefix p)).symm
section
variable {text s : Str} {at_ : Nat} (hd : text.drop at_ = s) (hat : at_ ≤ text.length)
include hd hat
theorem vq : text.length = at_ + s.length := by
  rw [← hd]; simp; omega
theorem pT (k : Nat) (h : k < s.length) : hZ text ((at_ + k : Nat) : Int) = (s[k].toNat : Int) := by
  have hl := vq hd hat
  rw [yD text (at_ + k) (by omega)]
  congr 2
  subst hd
  rw [List.getElem_drop]
omit hat in
theorem CI (k : Nat) : cut text (at_ : Int) ((at_ + k : Nat) : Int) = s.take k := by
  rw [NW, hd]; congr 1; omega
theorem Qt (hl : text.length ≤ 65536) (out : List Tok) (again7) :
    al (dA text out again7) au (at_ : Int) = again7 (out, ((at_ + (s.takeWhile n3).length : Nat) : Int)) := by
  have hlen := vq hd hat
  have h0 : (at_ : Int) = ((at_ + 0 : Nat) : Int) := rfl
  rw [h0]
  refine uT n3 s (fun k => ((at_ + k : Nat) : Int)) (fun k => again7 (out, ((at_ + k : Nat) : Int))) ?_ ?_ ?_ au (by rw [pY]; omega)
  · intro again k h hp _
    unfold dA
    simp only [gi]
    rw [kC (by omega), lz (by omega) (by omega), pT hd hat k h, j6]
    have : ((s[k].toNat : Int) != 10) = n3 s[k] := by
      have := rM s[k] 10
      unfold n3 bne
      rw [show ((10 : Int) = ((10 : UInt8).toNat : Int)) from rfl, this]
    rw [this, hp, Bool.and_self, cond_true, w64 (by omega)]
    rfl
  · intro again k h hp
    unfold dA
    simp only [gi]
    rw [kC (by omega), lz (by omega) (by omega), pT hd hat k h, j6]
    have : ((s[k].toNat : Int) != 10) = n3 s[k] := by
      have := rM s[k] 10
      unfold n3 bne
      rw [show ((10 : Int) = ((10 : UInt8).toNat : Int)) from rfl, this]
    rw [this, hp, Bool.and_false, cond_false]
  · intro again
    unfold dA
    simp only [gi]
    rw [nX (by omega), pg, Bool.false_and, cond_false]
end
theorem xl (c : UInt8) : ((kindOf c == 1) || (kindOf c == 2)) = bV c := by
  cases hb : dS c
  · unfold kindOf bV
    rw [hb]
    cases cS c <;> cases isDigit c <;> rfl
  · have : bV c = false := by
      simp only [dS, Bool.or_eq_true, beq_iff_eq] at hb
      rcases hb with ((rfl | rfl) | rfl) | rfl <;> decide
    unfold kindOf
    rw [if_pos hb, this]; rfl
theorem Qz {text s : Str} {at_ : Nat} (hd : text.drop at_ = s) (hat : at_ ≤ text.length) (hl : text.length ≤ 65536) (out : List Tok) (again7) (hout : out.length ≤ 65536) :
    al (cu text out (at_ : Int) again7) au (at_ : Int) = if 32 < (s.takeWhile bV).length then some ([], 9, (at_ : Int)) else again7 (out ++ [(1, s.takeWhile bV, 0, (at_ : Int))], ((at_ + (s.takeWhile bV).length : Nat) : Int)) := by
  have hlen := vq hd hat
  have e0 : (if 32 < (s.takeWhile bV).length then some ([], 9, (at_ : Int)) else again7 (out ++ [(1, s.takeWhile bV, 0, (at_ : Int))], ((at_ + (s.takeWhile bV).length : Nat) : Int)))
     = (fun k => if 32 < k then some ([], 9, (at_ : Int)) else again7 (out ++ [(1, s.take k, 0, (at_ : Int))], ((at_ + k : Nat) : Int))) (s.takeWhile bV).length := by
    simp only [sV]
  rw [e0]
  have tail : ∀ k, k ≤ s.length → (bif (decide (32 < (IntKind.i64.wrap (((at_ + k : Nat) : Int) - (at_ : Int))))) then ( some ([], 9, (at_ : Int))) else ( chk (gD (at_ : Int) ((at_ + k : Nat) : Int) (List.length text)) <| chk (ay (List.length out + List.length ([(1, (cut text (at_ : Int) ((at_ + k : Nat) : Int)), 0, (at_ : Int))] : List (Int × Str × Int × Int))) 40) <| again7 ((out ++ ([(1, (cut text (at_ : Int) ((at_ + k : Nat) : Int)), 0, (at_ : Int))] : List (Int × Str × Int × Int))), ((at_ + k : Nat) : Int)))) = (if 32 < k then some ([], 9, (at_ : Int)) else again7 (out ++ [(1, s.take k, 0, (at_ : Int))], ((at_ + k : Nat) : Int))) := by
    intro k hk
    rw [w64 (by omega)]
    by_cases h32 : 32 < k
    · rw [kC (by omega), cond_true, if_pos h32]
    · rw [nX (by omega), cond_false, if_neg h32, vZ (by omega) (by omega) (by omega), jZ, pF (by simp; omega) (by simp; omega), jZ, CI hd]
  refine uT (F := cu text out (at_ : Int) again7) bV s (fun k => ((at_ + k : Nat) : Int)) (fun k => if 32 < k then some ([], 9, (at_ : Int)) else again7 (out ++ [(1, s.take k, 0, (at_ : Int))], ((at_ + k : Nat) : Int))) ?_ ?_ ?_ au (by rw [pY]; omega)
  · intro again k h hp _
    unfold cu
    simp only [gi]
    have ke := xl s[k]
    rw [hp] at ke
    rw [kC (by omega), lz (by omega) (by omega), pT hd hat k h]
    simp only [j6, tu, jB, fX, Bool.true_and]
    cases hk1 : (kindOf s[k] == 1)
    · rw [hk1] at ke
      simp only [Bool.not_false, jB, fX, Bool.false_or] at ke ⊢
      rw [ke, cond_true, w64 (by omega)]; rfl
    · simp only [Bool.not_true, nc, Bool.true_or, cond_true]
      rw [w64 (by omega)]; rfl
  · intro again k h hp
    unfold cu
    simp only [gi]
    have ke := xl s[k]
    rw [hp] at ke
    simp only [Bool.or_eq_false_iff] at ke
    rw [kC (by omega), lz (by omega) (by omega), pT hd hat k h]
    simp only [j6, tu, jB, fX, Bool.true_and, ke.1, ke.2, Bool.not_false, Bool.or_self, cond_false]
    exact tail k (by omega)
  · intro again
    unfold cu
    simp only [gi]
    rw [nX (by omega)]
    simp only [pg, nc, Bool.false_and, cond_false]
    exact tail s.length (Nat.le_refl _)
theorem HN (c : UInt8) (h : cS c = false) : (kindOf c == 2) = isDigit c := by
  unfold kindOf
  rw [h]
  cases hb : dS c
  · cases isDigit c <;> rfl
  · have : isDigit c = false := by
      simp only [dS, Bool.or_eq_true, beq_iff_eq] at hb
      rcases hb with ((rfl | rfl) | rfl) | rfl <;> decide
    rw [this]; rfl
theorem Du {c : UInt8} (h : cS c = true) : isDigit c = false := by
  simp only [cS, Bool.or_eq_true, Bool.and_eq_true, decide_eq_true_eq, beq_iff_eq, UInt8.le_iff_toNat_le] at h
  cases hd : isDigit c
  · rfl
  · simp only [isDigit, Bool.and_eq_true, decide_eq_true_eq, UInt8.le_iff_toNat_le] at hd
    have h1 : (48 : UInt8).toNat = 48 := rfl
    have h2 : (57 : UInt8).toNat = 57 := rfl
    have h3 : (97 : UInt8).toNat = 97 := rfl
    have h4 : (65 : UInt8).toNat = 65 := rfl
    rcases h with (h | h) | h
    · omega
    · omega
    · subst h; have : (95 : UInt8).toNat = 95 := rfl; omega
theorem ug (c : UInt8) : (kindOf c == 2) = isDigit c := by
  cases hl : cS c
  · exact HN c hl
  · unfold kindOf
    rw [Du hl, hl]
    cases dS c <;> rfl
theorem Qs {text s : Str} {at_ : Nat} (hd : text.drop at_ = s) (hat : at_ ≤ text.length) (hl : text.length ≤ 65536) (out : List Tok) (again7) (hout : out.length ≤ 65536) :
    al (cw text out (at_ : Int) again7) au ((at_ : Int), 0) = if big (dp 0 (s.takeWhile isDigit)) then some ([], 9, (at_ : Int)) else again7 (out ++ [(2, s.takeWhile isDigit, dp 0 (s.takeWhile isDigit), (at_ : Int))], ((at_ + (s.takeWhile isDigit).length : Nat) : Int)) := by
  have hlen := vq hd hat
  have hsat := Gb (s.takeWhile isDigit) 0 (Int.le_refl _) (jy _ _)
  have e0 : (if big (dp 0 (s.takeWhile isDigit)) then some ([], 9, (at_ : Int)) else again7 (out ++ [(2, s.takeWhile isDigit, dp 0 (s.takeWhile isDigit), (at_ : Int))], ((at_ + (s.takeWhile isDigit).length : Nat) : Int)))
     = (fun k => if 1073741824 < bw 0 (s.take k) then some ([], 9, (at_ : Int)) else again7 (out ++ [(2, s.take k, bw 0 (s.take k), (at_ : Int))], ((at_ + k : Nat) : Int))) (s.takeWhile isDigit).length := by
    simp only [sV]
    cases hb : big (dp 0 (s.takeWhile isDigit))
    · have h1 := hsat.1 hb
      rw [h1]
      have : ¬ 1073741824 < dp 0 (s.takeWhile isDigit) := by simpa [big] using hb
      rw [if_neg this]; rfl
    · rw [if_pos (hsat.2 hb)]; rfl
  rw [e0]
  have tail : ∀ k, k ≤ s.length → (bif (decide (1073741824 < bw 0 (s.take k))) then ( some ([], 9, (at_ : Int))) else ( chk (gD (at_ : Int) ((at_ + k : Nat) : Int) (List.length text)) <| chk (ay (List.length out + List.length ([(2, (cut text (at_ : Int) ((at_ + k : Nat) : Int)), bw 0 (s.take k), (at_ : Int))] : List (Int × Str × Int × Int))) 40) <| again7 ((out ++ ([(2, (cut text (at_ : Int) ((at_ + k : Nat) : Int)), bw 0 (s.take k), (at_ : Int))] : List (Int × Str × Int × Int))), ((at_ + k : Nat) : Int)))) = (if 1073741824 < bw 0 (s.take k) then some ([], 9, (at_ : Int)) else again7 (out ++ [(2, s.take k, bw 0 (s.take k), (at_ : Int))], ((at_ + k : Nat) : Int))) := by
    intro k hk
    by_cases h32 : 1073741824 < bw 0 (s.take k)
    · rw [kC (by omega), cond_true, if_pos h32]
    · rw [nX (by omega), cond_false, if_neg h32, vZ (by omega) (by omega) (by omega), jZ, pF (by simp; omega) (by simp; omega), jZ, CI hd]
  refine uT (F := cw text out (at_ : Int) again7) isDigit s (fun k => (((at_ + k : Nat) : Int), bw 0 (s.take k))) (fun k => if 1073741824 < bw 0 (s.take k) then some ([], 9, (at_ : Int)) else again7 (out ++ [(2, s.take k, bw 0 (s.take k), (at_ : Int))], ((at_ + k : Nat) : Int))) ?_ ?_ ?_ au (by rw [pY]; omega)
  · intro again k h hp hall
    unfold cw
    simp only [gi]
    have ke := ug s[k]
    rw [hp] at ke
    have hdl := yn hp
    have hb := vc (s.take k) 0 (Int.le_refl _) (by omega) (by
      rw [List.all_eq_true]; intro c hc
      obtain ⟨i, hi, rfl⟩ := List.mem_iff_getElem.1 hc
      rw [List.getElem_take]
      exact hall i (by simp at hi; omega) (by simp at hi; omega))
    rw [kC (by omega), lz (by omega) (by omega), pT hd hat k h]
    simp only [j6, tu, jB, fX, Bool.true_and, ke, cond_true]
    rw [Lu s k h, w64 (x := ((at_ + k : Nat) : Int) + 1) (by omega)]
    unfold dig at hdl ⊢
    by_cases hs : bw 0 (s.take k) ≤ 1073741824
    · rw [kC hs, cond_true, jZ, if_pos hs, w64 (x := 10 * _) (by omega), w64 (x := (s[k].toNat : Int)) (by omega), w64 (x := 10 * _ + _) (by omega), w64 (by omega)]
      congr 2
      omega
    · rw [nX hs, cond_false, if_neg hs]; rfl
  · intro again k h hp
    unfold cw
    simp only [gi]
    have ke := ug s[k]
    rw [hp] at ke
    rw [kC (by omega), lz (by omega) (by omega), pT hd hat k h]
    simp only [j6, tu, jB, fX, Bool.true_and, ke, cond_false]
    exact tail k (by omega)
  · intro again
    unfold cw
    simp only [gi]
    rw [nX (by omega)]
    simp only [pg, nc, Bool.false_and, cond_false]
    exact tail s.length (Nat.le_refl _)
theorem Fz : jH = some bz := rfl
theorem P5 {text : Str} {out : List Tok} {i5 : Int} {again7} {again122} {g : Str} {j : Int} (hg : (g == []) = false)
    (hr : out.length ≤ 65536) (hi : 0 ≤ i5 ∧ i5 ≤ 65536) (hgl : g.length ≤ 65536) :
    aS text out i5 again7 bz again122 (g, j) = again7 (out ++ [(3, g, 0, i5)], i5 + g.length) := by
  unfold aS
  simp only [gi, hg, Bool.and_false, cond_false]
  rw [pF (by simp; omega) (by simp; omega), jZ, w64 (by omega)]
theorem Qy {text s : Str} {at_ : Nat} (hd : text.drop at_ = s) (hat : at_ ≤ text.length) (hl : text.length ≤ 65536) (out : List Tok) (again7) (hout : out.length ≤ 65536) :
    al (aS text out (at_ : Int) again7 bz) au ([], 0) = if cF s == [] then some ([], 2, (at_ : Int)) else again7 (out ++ [(3, cF s, 0, (at_ : Int))], ((at_ + (cF s).length : Nat) : Int)) := by
  have hlen := vq hd hat
  have hs22 : bz.length = 22 := rfl
  have key : ∀ N k, k ≤ bz.length → bz.length - k + 1 < N → (∀ i (h : i < bz.length), i < k → bz[i].isPrefixOf s = false) →
      al (aS text out (at_ : Int) again7 bz) N ([], ((k : Nat) : Int)) = if cF s == [] then some ([], 2, (at_ : Int)) else again7 (out ++ [(3, cF s, 0, (at_ : Int))], ((at_ + (cF s).length : Nat) : Int)) := by
    intro N
    induction N with
    | zero => intro k _ h; omega
    | succ N ih =>
      intro k hk hN hp
      rw [ao]
      by_cases hlt : k < bz.length
      · have hgmem : bz[k] ∈ bz := List.getElem_mem hlt
        have hgl : ∀ g ∈ bz, g.length ≤ 3 ∧ (g == []) = false := by decide
        have hg3 := hgl _ hgmem
        have body : aS text out (at_ : Int) again7 bz (al (aS text out (at_ : Int) again7 bz) N) ([], ((k : Nat) : Int)) = al (aS text out (at_ : Int) again7 bz) N ((if bz[k].isPrefixOf s then bz[k] else []), ((k + 1 : Nat) : Int)) := by
          generalize al (aS text out (at_ : Int) again7 bz) N = again
          unfold aS
          simp only [gi]
          rw [kC (by omega)]
          simp only [show (([] : Str) == []) = true from rfl, Bool.and_self, cond_true]
          rw [O9 hlt]
          simp only [fX]
          rw [w64 (x := (text.length : Int) - (at_ : Int)) (by omega), w64 (x := ((k : Nat) : Int) + 1) (by omega)]
          by_cases hle : bz[k].length ≤ s.length
          · rw [kC (by omega)]
            simp only [jB, fX, Bool.true_and]
            rw [w64 (by omega), vZ (by omega) (by omega) (by omega), j6]
            have e2 : (at_ : Int) + (bz[k].length : Int) = ((at_ + bz[k].length : Nat) : Int) := by omega
            rw [e2, CI hd]
            have e3 : (s.take bz[k].length == bz[k]) = bz[k].isPrefixOf s := by
              rw [Bool.eq_iff_iff, List.isPrefixOf_iff_prefix, beq_iff_eq]
              constructor
              · intro h; rw [← h]; exact List.take_prefix ..
              · intro h; exact (List.prefix_iff_eq_take.1 h).symm
            rw [e3]
            cases bz[k].isPrefixOf s
            · rfl
            · rfl
          · rw [nX (by omega)]
            simp only [nc, pg, Bool.false_and, cond_false]
            have : bz[k].isPrefixOf s = false := by
              rw [Bool.eq_false_iff, Ne, List.isPrefixOf_iff_prefix]
              intro h; exact hle h.length_le
            rw [this]; rfl
        rw [body]
        cases hpk : bz[k].isPrefixOf s
        · exact ih (k + 1) (by omega) (by omega) (fun i h hi => by
            rcases Nat.lt_or_ge i k with h' | h'
            · exact hp i h h'
            · have : i = k := by omega
              subst this; exact hpk)
        · have hsg : cF s = bz[k] := by
            unfold cF
            have : bz.find? (fun g => g.isPrefixOf s) = some bz[k] := by
              rw [List.find?_eq_some_iff_getElem]
              exact ⟨hpk, k, hlt, rfl, fun j hj => by simp [hp j (by omega) hj]⟩
            rw [this]; rfl
          rw [hsg]
          obtain ⟨N, rfl⟩ : ∃ m, N = m + 1 := ⟨N - 1, by omega⟩
          rw [ao]
          simp only [if_true, hg3.2, Bool.false_eq_true, if_false]
          rw [P5 hg3.2 hout (by omega) (by omega)]
          rfl
      · have : cF s = [] := by
          unfold cF
          have : bz.find? (fun g => g.isPrefixOf s) = none := by
            rw [List.find?_eq_none]
            intro g hg
            obtain ⟨i, hi, rfl⟩ := List.mem_iff_getElem.1 hg
            simp [hp i hi (by omega)]
          rw [this]; rfl
        rw [this]
        generalize al (aS text out (at_ : Int) again7 bz) N = again
        unfold aS
        simp only [gi]
        rw [nX (by omega)]
        rfl
  exact key au 0 (by omega) (by rw [pY]; omega) (fun i _ h => by omega)
theorem LJ (text : Str) (hlen : text.length ≤ 65536) : ∀ (N f at_ : Nat) (out : List Tok), at_ ≤ text.length → text.length - at_ < N → text.length - at_ < f → out.length ≤ at_ →
    al (eV text) N (out, (at_ : Int)) = some (vY out (gQ f at_ (text.drop at_))) := by
  intro N
  induction N with
  | zero => intro f at_ out _ h; omega
  | succ N ih =>
    intro f at_ out hat hN hf hout
    obtain ⟨f, rfl⟩ : ∃ g, f = g + 1 := ⟨f - 1, by omega⟩
    rw [ao]
    generalize al (eV text) N = again at ih ⊢
    unfold eV
    dsimp only
    cases hd : text.drop at_ with
    | nil =>
      have hge' : at_ = text.length := by
        have := congrArg List.length hd
        simp at this; omega
      subst hge'
      rw [nX (by omega)]
      simp only [cond_false]
      rw [pF (by simp; omega) (by simp; omega), jZ]
      rfl
    | cons c r =>
      obtain ⟨hlt, hget⟩ := BV hd
      have hdl : (c :: r).length = text.length - at_ := by rw [← hd]; simp
      have hbyte : hZ text (at_ : Int) = (c.toNat : Int) := by rw [yD _ _ hlt, hget]
      have next : ∀ (k : Nat) (out' : List Tok), 1 ≤ k → k ≤ (c :: r).length → out'.length ≤ at_ + k →
          again (out', ((at_ + k : Nat) : Int)) = some (vY out' (gQ f (at_ + k) ((c :: r).drop k))) := by
        intro k out' h1 h2 h3
        rw [ih f (at_ + k) out' (by omega) (by omega) (by omega) h3]
        have e2 : text.drop (at_ + k) = (c :: r).drop k := by rw [← hd, List.drop_drop]
        rw [e2]
      rw [kC (by omega)]
      simp only [cond_true, lz (show (0 : Int) ≤ (at_ : Int) by omega) (show (at_ : Int) < (text.length : Int) by omega), jZ, hbyte, tu, fX]
      have h35 : ((c.toNat : Int) == 35) = (c == 35) := by
        rw [show ((35 : Int) = ((35 : UInt8).toNat : Int)) from rfl]; exact rM c 35
      rw [h35]
      cases hb : dS c
      · have hk0 : (kindOf c == 0) = false := by
          unfold kindOf; rw [hb]; cases cS c <;> cases isDigit c <;> rfl
        simp only [hk0, cond_false]
        cases hc : (c == 35)
        · simp only [cond_false]
          simp only [gQ, step, hb, hc, Bool.false_eq_true, if_false]
          cases hlet : cS c
          · have hk1 : (kindOf c == 1) = false := by
              unfold kindOf; rw [hb, hlet]; cases isDigit c <;> rfl
            simp only [hk1, cond_false, Bool.false_eq_true, if_false]
            rw [ug]
            cases hdig : isDigit c
            · simp only [cond_false, Bool.false_eq_true, if_false]
              rw [Fz, fX, Qy hd hat hlen out again (by omega)]
              cases hsg : (cF (c :: r) == [])
              · simp only [Bool.false_eq_true, if_false]
                obtain ⟨h1, h2, _⟩ := o9 hsg
                have h3 := AX _ h1
                have h4 := h2.length_le
                rw [next _ _ h3 h4 (by simp; omega)]
                cases gQ f (at_ + (cF (c :: r)).length) ((c :: r).drop (cF (c :: r)).length) <;> simp [vY]
              · simp only [if_true]; rfl
            · simp only [cond_true, if_true]
              rw [Qs hd hat hlen out again (by omega)]
              cases hbig : big (dp 0 ((c :: r).takeWhile isDigit))
              · simp only [Bool.false_eq_true, if_false]
                have h3 := gV (s := r) hdig
                have h4 := kZ isDigit (c :: r)
                rw [next _ _ h3 h4 (by simp; omega)]
                cases gQ f (at_ + ((c :: r).takeWhile isDigit).length) ((c :: r).drop ((c :: r).takeWhile isDigit).length) <;> simp [vY]
              · simp only [if_true]; rfl
          · have hk1 : (kindOf c == 1) = true := by
              unfold kindOf; rw [hb, hlet]; rfl
            simp only [hk1, cond_true, if_true]
            rw [Qz hd hat hlen out again (by omega)]
            by_cases h32 : 32 < ((c :: r).takeWhile bV).length
            · rw [if_pos h32, if_pos h32]; rfl
            · rw [if_neg h32, if_neg h32]
              have h3 := gV (s := r) (lr hlet)
              have h4 := kZ bV (c :: r)
              rw [next _ _ h3 h4 (by simp; omega)]
              simp only []
              cases gQ f (at_ + ((c :: r).takeWhile bV).length) ((c :: r).drop ((c :: r).takeWhile bV).length) <;> simp [vY]
        · simp only [cond_true]
          rw [Qt hd hat hlen out again]
          have hpos : 1 ≤ ((c :: r).takeWhile n3).length := gV (by
            have : c = 35 := by simpa using hc
            subst this; decide)
          have hle := kZ n3 (c :: r)
          rw [next _ _ hpos hle (by omega)]
          have hst : step (c :: r) = .skip ((c :: r).takeWhile n3).length := by simp [step, hb, hc]
          simp only [gQ, hst]
      · have hk0 : (kindOf c == 0) = true := by unfold kindOf; rw [hb]; rfl
        simp only [hk0, cond_true]
        rw [w64 (by omega)]
        have e1 : ((at_ : Int) + 1) = ((at_ + 1 : Nat) : Int) := by omega
        rw [e1, next 1 out (by omega) (by omega) (by omega)]
        have hst : step (c :: r) = .skip 1 := by simp [step, hb]
        simp only [gQ, hst]
theorem vt (text : Str) : dm text = some (tokens text) := by
  unfold dm tokens
  by_cases h : 65536 < text.length
  · rw [kC (by omega), cond_true, if_pos h]
  · rw [nX (by omega), cond_false, if_neg h]
    have := LJ text (by omega) au (text.length + 1) 0 [] (by omega) (by rw [pY]; omega) (by omega) (by simp)
    simp only [List.drop_zero] at this
    have h0 : ((0 : Nat) : Int) = 0 := rfl
    rw [h0] at this
    rw [this]
    cases gQ (text.length + 1) 0 text <;> rfl
abbrev Res := Except (Int × Int) (List Tok)
theorem step_skip {c : UInt8} {s : Str} {k : Nat} (h : step (c :: s) = .skip k) : 1 ≤ k ∧ k ≤ (c :: s).length := by
  cases hb : dS c
  · cases hc : (c == 35)
    · simp only [step, hb, hc, Bool.false_eq_true, if_false] at h
      repeat (split at h <;> try (cases h))
    · simp only [step, hb, hc, Bool.false_eq_true, if_false, if_true, Step.skip.injEq] at h
      subst h
      have : c = 35 := by simpa using hc
      subst this
      exact ⟨gV (by decide), kZ _ _⟩
  · simp only [step, hb, if_true, Step.skip.injEq] at h
    subst h; simp
theorem uz {c : UInt8} {s : Str} {k : Int} {t : Str} {n : Int} (h : step (c :: s) = .tok k t n) : dS c = false ∧ (c == 35) = false ∧ 1 ≤ t.length ∧ t <+: (c :: s) := by
  cases hb : dS c
  · cases hc : (c == 35)
    · obtain ⟨h1, h2⟩ := step_take hb hc h; exact ⟨rfl, rfl, h1, h2⟩
    · simp only [step, hb, hc, Bool.false_eq_true, if_false, if_true] at h; cases h
  · simp only [step, hb, if_true] at h; cases h
noncomputable def lex (s : Str) : Res := gQ (s.length + 1) 0 s
theorem Hm {s : Str} (h : s.length ≤ 65536) : tokens s = res (lex s) := by
  unfold tokens lex; rw [if_neg (by omega)]
theorem lex_ind {P : Str → Prop} (h0 : P [])
    (hs : ∀ c s k, step (c :: s) = .skip k → P ((c :: s).drop k) → P (c :: s))
    (he : ∀ c s e, step (c :: s) = .err e → P (c :: s))
    (ht : ∀ c s k t n, step (c :: s) = .tok k t n → P ((c :: s).drop t.length) → P (c :: s)) : ∀ s, P s := by
  have key : ∀ (m : Nat) (s : Str), s.length < m → P s := by
    intro m
    induction m with
    | zero => intro s h; omega
    | succ m ih =>
      intro s h
      cases s with
      | nil => exact h0
      | cons c s =>
        cases hst : step (c :: s) with
        | skip k =>
          obtain ⟨h1, h2⟩ := step_skip hst
          exact hs c s k hst (ih _ (by simp at *; omega))
        | err e => exact he c s e hst
        | tok k t n =>
          obtain ⟨_, _, h1, h2⟩ := uz hst
          exact ht c s k t n hst (ih _ (by simp at *; omega))
  exact fun s => key _ s (Nat.lt_succ_self _)
/-! what stands behind -/
theorem nL {p : UInt8 → Bool} : ∀ {t : Str}, t.all p = true → t.takeWhile p = t
  | [], _ => rfl
  | c :: t, h => by
    simp only [List.all_cons, Bool.and_eq_true] at h
    rw [List.takeWhile_cons, if_pos h.1, nL h.2]
theorem zp : ∀ g ∈ bz, cF g = g ∧ ∃ c s, g = c :: s ∧ dS c = false ∧ (c == 35) = false ∧ cS c = false ∧ isDigit c = false := by
  intro g hg
  have h1 : ∀ g ∈ bz, cF g = g ∧ (match g with | [] => false | c :: _ => !dS c && !(c == 35) && !cS c && !isDigit c) = true := by decide
  obtain ⟨h1, h2⟩ := h1 g hg
  refine ⟨h1, ?_⟩
  cases g with
  | nil => cases h2
  | cons c s =>
    simp only [Bool.and_eq_true, Bool.not_eq_true'] at h2
    exact ⟨c, s, rfl, h2.1.1.1, h2.1.1.2, h2.1.2, h2.2⟩
theorem step_self {c : UInt8} {s : Str} {k : Int} {t : Str} {n : Int} (h : step (c :: s) = .tok k t n) : step t = .tok k t n ∧ (∃ s', t = c :: s') ∧ (k = 1 ∨ k = 2 ∨ k = 3) ∧ (k ≠ 2 → n = 0) := by
  obtain ⟨hb, hc, ht1, ht2⟩ := uz h
  have hcs : ∃ s', t = c :: s' := by
    cases t with
    | nil => simp at ht1
    | cons d t =>
      obtain ⟨u, hu⟩ := ht2
      simp only [List.cons_append, List.cons.injEq] at hu
      exact ⟨t, by rw [hu.1]⟩
  obtain ⟨s', rfl⟩ := hcs
  simp only [step, hb, hc, Bool.false_eq_true, if_false] at h ⊢
  cases hlet : cS c
  · simp only [hlet, Bool.false_eq_true, if_false] at h ⊢
    cases hdig : isDigit c
    · simp only [hdig, Bool.false_eq_true, if_false] at h ⊢
      cases hsg : (cF (c :: s) == [])
      · simp only [hsg, Bool.false_eq_true, if_false, Step.tok.injEq] at h
        obtain ⟨rfl, h2, rfl⟩ := h
        obtain ⟨hm, _, _⟩ := o9 hsg
        rw [h2] at hm
        rw [(zp _ hm).1]
        exact ⟨rfl, ⟨s', rfl⟩, .inr (.inr rfl), fun _ => rfl⟩
      · simp [hsg] at h
    · simp only [hdig, if_true] at h ⊢
      split at h
      · cases h
      · rename_i hbig
        simp only [Step.tok.injEq] at h
        obtain ⟨rfl, h2, rfl⟩ := h
        have hall := jy isDigit (c :: s)
        rw [h2] at hall hbig
        rw [nL hall, h2, if_neg hbig]
        exact ⟨rfl, ⟨s', rfl⟩, .inr (.inl rfl), fun h => absurd rfl h⟩
  · simp only [hlet, if_true] at h ⊢
    split at h
    · cases h
    · rename_i h32
      simp only [Step.tok.injEq] at h
      obtain ⟨rfl, h2, rfl⟩ := h
      have hall := jy bV (c :: s)
      rw [h2] at hall h32
      rw [nL hall, if_neg h32]
      exact ⟨rfl, ⟨s', rfl⟩, .inl rfl, fun _ => rfl⟩
/-! two texts with a line feed between them -/
end Lx
end Go.Proofs.YtpnogcmollnjeaaGreatDoor
namespace Go.Proofs.YtpnogcmollnjeaaGreatDoor
noncomputable def kA : List Str := [[116, 114, 117, 101], [102, 97, 108, 115, 101], [88], [70], [71], [85], [82], [118, 97, 114], [112, 114, 111, 99]]
noncomputable def OW : List Str := [[], [], [], [43], [45], [42], [45], [61, 61], [33, 61], [60], [60, 61], [62], [62, 61], [116, 114, 117, 101], [102, 97, 108, 115, 101], [33], [38], [124], [45, 62], [60, 45, 62], [88], [70], [71], [85], [82]]
noncomputable def aU (op : Int) : Str := OW.getD op.toNat []
namespace Pa
abbrev Tok := Int × Str × Int × Int
abbrev Out := Except (Int × Int) (Ex × List Tok)
noncomputable def key (s : Str) : Bool := kA.contains s
noncomputable def sgn (t : Tok) : Bool := t.1 == 3 || (t.1 == 1 && key t.2.1)
noncomputable def ops : Nat → List Int
 | 1 => [19]
 | 2 => [18]
 | 3 => [17]
 | 4 => [16]
 | 5 => [23, 24]
 | 6 => [15, 20, 21, 22]
 | 7 => [7, 8, 9, 10, 11, 12]
 | 8 => [3, 4]
 | 9 => [5]
 | 10 => [6]
 | 11 => [13, 14]
 | _ => []
noncomputable def fnd (l : List Int) (t : Tok) : Option Int := bif sgn t then l.find? (fun o => aU o == t.2.1) else none
noncomputable def bI (s : Nat) (t : Tok) : Option Int := fnd (ops s) t
noncomputable def kd : Nat → Nat
 | 6 => 0
 | 10 => 0
 | 1 => 1
 | 2 => 1
 | 5 => 1
 | 7 => 1
 | 3 => 2
 | 4 => 2
 | 8 => 2
 | 9 => 2
 | 11 => 3
 | _ => 4
noncomputable def kz (s : Nat) : Bool := s == 1 || s == 2 || s == 5 || s == 6 || s == 10
noncomputable def dn (s : Nat) (d : Int) : Int := bif kz s then d + 1 else d
noncomputable def jw (s : Nat) (d : Int) : Bool := kz s && decide (320 ≤ d)
noncomputable def nx (s : Nat) : Nat := bif s == 7 then 8 else s
noncomputable def at_ (names : List Str) (v : Str) : Option Nat := names.findIdx? (fun x => v == x)
noncomputable def open_ (t : Tok) : Bool := t.1 == 3 && t.2.1 == [40]
noncomputable def close_ (t : Tok) : Bool := t.1 == 3 && t.2.1 == [41]
noncomputable def pJ (t : Tok) : Bool := t.1 == 1 && !key t.2.1
noncomputable def Pu (k : Int) (a : Int) (r : Out) : Out := r.map fun p => (.mk k 0 a [p.1], p.2)
noncomputable def O1 (k : Int) (a : Int) (x : Ex) (r : Out) : Out := r.map fun p => (.mk k 0 a [x, p.1], p.2)
inductive Job where
 | line (s : Nat)
 | loop (s : Nat) (a : Ex)
open Job
inductive P (names : List Str) : Job → Int → List Tok → Out → Prop
 | big {s d t ts} : jw s d = true → P names (line s) d (t :: ts) (.error (9, t.2.2.2))
 | pre {s d t ts k r} : kd s = 0 → jw s d = false → bI s t = some k → P names (line s) (dn s d) ts r → P names (line s) d (t :: ts) (Pu k t.2.2.2 r)
 | other {s d t ts r} : kd s = 0 → jw s d = false → bI s t = none → P names (line (s + 1)) (dn s d) (t :: ts) r → P names (line s) d (t :: ts) r
 | rErr {s d ts e} : kd s = 1 → jw s d = false → P names (line (s + 1)) (dn s d) ts (.error e) → P names (line s) d ts (.error e)
 | rOne {s d ts a t ts'} : kd s = 1 → jw s d = false → P names (line (s + 1)) (dn s d) ts (.ok (a, t :: ts')) → bI s t = none → P names (line s) d ts (.ok (a, t :: ts'))
 | rTwo {s d ts a t ts' k r} : kd s = 1 → jw s d = false → P names (line (s + 1)) (dn s d) ts (.ok (a, t :: ts')) → bI s t = some k → P names (line (nx s)) (dn s d) ts' r → P names (line s) d ts (O1 k t.2.2.2 a r)
 | lErr {s d ts e} : kd s = 2 → P names (line (s + 1)) d ts (.error e) → P names (line s) d ts (.error e)
 | lGo {s d ts a ts' r} : kd s = 2 → P names (line (s + 1)) d ts (.ok (a, ts')) → P names (loop s a) d ts' r → P names (line s) d ts r
 | lpEnd {s a d t ts} : bI s t = none → P names (loop s a) d (t :: ts) (.ok (a, t :: ts))
 | lpErr {s a d t ts k e} : bI s t = some k → P names (line (s + 1)) d ts (.error e) → P names (loop s a) d (t :: ts) (.error e)
 | lpGo {s a d t ts k b ts' r} : bI s t = some k → P names (line (s + 1)) d ts (.ok (b, ts')) → P names (loop s (.mk k 0 t.2.2.2 [a, b])) d ts' r → P names (loop s a) d (t :: ts) r
 | oWord {s d t ts k} : kd s = 3 → bI s t = some k → P names (line s) d (t :: ts) (.ok (.mk k 0 t.2.2.2 [], ts))
 | oNum {s d t ts} : kd s = 3 → bI s t = none → (t.1 == 2) = true → P names (line s) d (t :: ts) (.ok (.mk 1 t.2.2.1 t.2.2.2 [], ts))
 | oVar {s d t ts i} : kd s = 3 → bI s t = none → (t.1 == 2) = false → pJ t = true → at_ names t.2.1 = some i → P names (line s) d (t :: ts) (.ok (.mk 2 (i : Int) t.2.2.2 [], ts))
 | oName {s d t ts} : kd s = 3 → bI s t = none → (t.1 == 2) = false → pJ t = true → at_ names t.2.1 = none → P names (line s) d (t :: ts) (.error (3, t.2.2.2))
 | oOpen {s d t ts a c ts'} : kd s = 3 → bI s t = none → (t.1 == 2) = false → pJ t = false → open_ t = true → P names (line 1) d ts (.ok (a, c :: ts')) → close_ c = true → P names (line s) d (t :: ts) (.ok (a, ts'))
 | oErr {s d t ts e} : kd s = 3 → bI s t = none → (t.1 == 2) = false → pJ t = false → open_ t = true → P names (line 1) d ts (.error e) → P names (line s) d (t :: ts) (.error e)
 | oClose {s d t ts a c ts'} : kd s = 3 → bI s t = none → (t.1 == 2) = false → pJ t = false → open_ t = true → P names (line 1) d ts (.ok (a, c :: ts')) → close_ c = false → P names (line s) d (t :: ts) (.error (2, c.2.2.2))
 | oForm {s d t ts} : kd s = 3 → bI s t = none → (t.1 == 2) = false → pJ t = false → open_ t = false → P names (line s) d (t :: ts) (.error (2, t.2.2.2))
theorem iT {s : Nat} {d : Int} (h : jw s d = true) : kd s = 0 ∨ kd s = 1 := by
 unfold jw kz at h
 simp only [Bool.and_eq_true, Bool.or_eq_true, beq_iff_eq] at h
 rcases h.1 with (((rfl | rfl) | rfl) | rfl) | rfl <;> simp [kd]
theorem P.det {names : List Str} {j : Job} {d : Int} {ts : List Tok} {r r' : Out} (h : P names j d ts r) (h' : P names j d ts r') : r = r' := by
 induction h generalizing r' with
 | big h0 => have := iT h0; cases h' <;> simp_all
 | pre h0 h1 h2 h3 ih => cases h' <;> simp_all <;> (rename_i h4; rw [ih h4])
 | other h0 h1 h2 h3 ih =>
  cases h' with
  | other _ _ _ h => exact ih h
  | _ => simp_all
 | rErr h0 h1 h2 ih =>
  cases h' with
  | rErr _ _ h => exact ih h
  | rOne _ _ h => cases ih h
  | rTwo _ _ h => cases ih h
  | _ => simp_all
 | rOne h0 h1 h2 h3 ih =>
  cases h' with
  | rErr _ _ h => cases ih h
  | rOne _ _ h => exact ih h
  | rTwo _ _ h h4 => cases ih h; simp_all
  | _ => simp_all
 | rTwo h0 h1 h2 h3 h4 ih ih2 =>
  cases h' with
  | rErr _ _ h => cases ih h
  | rOne _ _ h => cases ih h; simp_all
  | rTwo _ _ h h5 h6 => cases ih h; rw [h3] at h5; cases h5; rw [ih2 h6]
  | _ => simp_all
 | lErr h0 h1 ih =>
  cases h' with
  | lErr _ h => exact ih h
  | lGo _ h => cases ih h
  | big h => have := iT h; simp_all
  | _ => simp_all
 | lGo h0 h1 h2 ih ih2 =>
  cases h' with
  | lErr _ h => cases ih h
  | lGo _ h h3 => cases ih h; exact ih2 h3
  | big h => have := iT h; simp_all
  | _ => simp_all
 | lpEnd h0 => cases h' <;> simp_all
 | lpErr h0 h1 ih =>
  cases h' with
  | lpErr _ h => exact ih h
  | lpGo _ h => cases ih h
  | _ => simp_all
 | lpGo h0 h1 h2 ih ih2 =>
  cases h' with
  | lpErr _ h => cases ih h
  | lpGo h4 h h3 => cases ih h; rw [h0] at h4; cases h4; exact ih2 h3
  | _ => simp_all
 | oOpen h0 h1 h2 h3 h4 h5 h6 ih =>
  cases h' with
  | oOpen _ _ _ _ _ h _ => cases ih h; rfl
  | oErr _ _ _ _ _ h => cases ih h
  | oClose _ _ _ _ _ h h7 => cases ih h; simp_all
  | big h => have := iT h; simp_all
  | _ => simp_all
 | oErr h0 h1 h2 h3 h4 h5 ih =>
  cases h' with
  | oOpen _ _ _ _ _ h _ => cases ih h
  | oErr _ _ _ _ _ h => exact ih h
  | oClose _ _ _ _ _ h h7 => cases ih h
  | big h => have := iT h; simp_all
  | _ => simp_all
 | oClose h0 h1 h2 h3 h4 h5 h6 ih =>
  cases h' with
  | oOpen _ _ _ _ _ h _ => cases ih h; simp_all
  | oErr _ _ _ _ _ h => cases ih h
  | oClose _ _ _ _ _ h h7 => cases ih h; rfl
  | big h => have := iT h; simp_all
  | _ => simp_all
 | oWord h0 h1 => cases h' <;> first | (rename_i h; have := iT h; simp_all; done) | simp_all
 | oNum h0 h1 h2 => cases h' <;> first | (rename_i h; have := iT h; simp_all; done) | simp_all
 | oVar h0 h1 h2 h3 h4 => cases h' <;> first | (rename_i h; have := iT h; simp_all; done) | simp_all
 | oName h0 h1 h2 h3 h4 => cases h' <;> first | (rename_i h; have := iT h; simp_all; done) | simp_all
 | oForm h0 h1 h2 h3 h4 => cases h' <;> first | (rename_i h; have := iT h; simp_all; done) | simp_all
noncomputable def Ends : List Tok → Prop
 | [] => False
 | t :: ts => Ends ts ∨ (ts = [] ∧ t.1 = 4)
theorem Ends.tail {t : Tok} {ts : List Tok} (h : Ends (t :: ts)) (h4 : t.1 ≠ 4) : Ends ts := by
 rcases h with h | ⟨_, h⟩
 ·exact h
 ·exact absurd h h4
theorem Ends.ne {ts : List Tok} (h : Ends ts) : ∃ t r, ts = t :: r := by
 cases ts with
 | nil => exact h.elim
 | cons t r => exact ⟨t, r, rfl⟩
theorem P6 {t : Tok} (h : sgn t = true) : t.1 ≠ 4 := by
 unfold sgn at h
 intro h4
 rw [h4] at h; simp at h
theorem NH {l : List Int} {t : Tok} {k : Int} (h : fnd l t = some k) : sgn t = true := by
 unfold fnd at h
 cases hs : sgn t
 ·rw [hs] at h; cases h
 ·rfl
theorem Pf {l : List Int} {t : Tok} {k : Int} (h : fnd l t = some k) : t.1 ≠ 4 := P6 (NH h)
theorem rG {s : Nat} {t : Tok} {k : Int} (h : bI s t = some k) : t.1 ≠ 4 := Pf h
noncomputable def shorter : Job → Nat → Nat → Prop
 | line _, a, b => a < b
 | loop _ _, a, b => a ≤ b
theorem P.ends {names : List Str} {j : Job} {d : Int} {ts : List Tok} {r : Out} (h : P names j d ts r) : Ends ts → ∀ p, r = .ok p → Ends p.2 ∧ shorter j p.2.length ts.length := by
 induction h with
 | big => intro _ p h; cases h
 | @pre s d t ts k r h0 h1 h2 h3 ih =>
  intro he p h
  cases r with
  | error e => cases h
  | ok q =>
   obtain ⟨i1, i2⟩ := ih (he.tail (rG h2)) q rfl
   cases h
   refine ⟨i1, ?_⟩
   simp only [shorter, List.length_cons] at *; omega
 | other h0 h1 h2 h3 ih => intro he p h; exact ih he p h
 | rErr => intro _ p h; cases h
 | rOne h0 h1 h2 h3 ih => intro he p h; exact ih he p h
 | @rTwo s d ts a t ts' k r h0 h1 h2 h3 h4 ih ih2 =>
  intro he p h
  cases r with
  | error e => cases h
  | ok q =>
   obtain ⟨i1, i2⟩ := ih he _ rfl
   obtain ⟨i3, i4⟩ := ih2 (i1.tail (rG h3)) q rfl
   cases h
   refine ⟨i3, ?_⟩
   simp only [shorter, List.length_cons] at *; omega
 | lErr => intro _ p h; cases h
 | lGo h0 h1 h2 ih ih2 =>
  intro he p h
  obtain ⟨i1, i2⟩ := ih he _ rfl
  obtain ⟨i3, i4⟩ := ih2 i1 p h
  refine ⟨i3, ?_⟩
  simp only [shorter] at *; omega
 | lpEnd h0 => intro he p h; cases h; exact ⟨he, Nat.le_refl _⟩
 | lpErr => intro _ p h; cases h
 | lpGo h0 h1 h2 ih ih2 =>
  intro he p h
  obtain ⟨i1, i2⟩ := ih (he.tail (rG h0)) _ rfl
  obtain ⟨i3, i4⟩ := ih2 i1 p h
  refine ⟨i3, ?_⟩
  simp only [shorter, List.length_cons] at *; omega
 | oWord h0 h1 => intro he p h; cases h; exact ⟨he.tail (rG h1), Nat.lt_succ_self _⟩
 | oNum h0 h1 h2 => intro he p h; cases h; exact ⟨he.tail (by have := beq_iff_eq.1 h2; omega), Nat.lt_succ_self _⟩
 | oVar h0 h1 h2 h3 h4 => intro he p h; cases h; exact ⟨he.tail (by unfold pJ at h3; simp only [Bool.and_eq_true, beq_iff_eq] at h3; omega), Nat.lt_succ_self _⟩
 | oName => intro _ p h; cases h
 | oOpen h0 h1 h2 h3 h4 h5 h6 ih =>
  intro he p h
  cases h
  obtain ⟨i1, i2⟩ := ih (he.tail (by unfold open_ at h4; simp only [Bool.and_eq_true, beq_iff_eq] at h4; omega)) _ rfl
  refine ⟨i1.tail (by unfold close_ at h6; simp only [Bool.and_eq_true, beq_iff_eq] at h6; omega), ?_⟩
  simp only [shorter, List.length_cons] at *; omega
 | oErr => intro _ p h; cases h
 | oClose => intro _ p h; cases h
 | oForm => intro _ p h; cases h
theorem P.err {names : List Str} {j : Job} {d : Int} {ts : List Tok} {r : Out} (h : P names j d ts r) : ∀ e, r = .error e → e.1 = 9 ∨ e.1 = 2 ∨ e.1 = 3 := by
 induction h with
 | big => intro e h; cases h; exact .inl rfl
 | @pre s d t ts k r h0 h1 h2 h3 ih =>
  intro e h
  cases r with
  | error e' => cases h; exact ih _ rfl
  | ok q => cases h
 | other h0 h1 h2 h3 ih => exact ih
 | rErr _ _ _ ih => exact ih
 | rOne => intro e h; cases h
 | @rTwo s d ts a t ts' k r h0 h1 h2 h3 h4 ih ih2 =>
  intro e h
  cases r with
  | error e' => cases h; exact ih2 _ rfl
  | ok q => cases h
 | lErr _ _ ih => exact ih
 | lGo _ _ _ _ ih => exact ih
 | lpEnd => intro e h; cases h
 | lpErr _ _ ih => exact ih
 | lpGo _ _ _ _ ih => exact ih
 | oWord => intro e h; cases h
 | oNum => intro e h; cases h
 | oVar => intro e h; cases h
 | oName => intro e h; cases h; exact .inr (.inr rfl)
 | oOpen => intro e h; cases h
 | oErr _ _ _ _ _ _ ih => exact ih
 | oClose => intro e h; cases h; exact .inr (.inl rfl)
 | oForm => intro e h; cases h; exact .inr (.inl rfl)
end Pa
end Go.Proofs.YtpnogcmollnjeaaGreatDoor
namespace Go.Proofs.YtpnogcmollnjeaaGreatDoor
namespace Sy
open Pa
abbrev Cmd := Int × Ex × List (Int × Ex)
abbrev Mdl := List Str × List (Int × Int) × List Int × List Str × List Cmd
abbrev Err := Int × Int
noncomputable def rI (names : List Str) (ts : List Tok) : Out :=
 open Classical in if h : ∃ r, P names (.line 1) 0 ts r then Classical.choose h else .error (2, 0)
theorem L3 {names : List Str} {ts : List Tok} {r : Out} (h : P names (.line 1) 0 ts r) : rI names ts = r := by
 unfold rI
 rw [dif_pos ⟨r, h⟩]
 exact (Classical.choose_spec (⟨r, h⟩ : ∃ r, P names (.line 1) 0 ts r)).det h
theorem KN {names : List Str} {ts : List Tok} {p : Ex × List Tok} (h : rI names ts = .ok p) : P names (.line 1) 0 ts (.ok p) := by
 unfold rI at h
 split at h
 ·rename_i hx
  have := Classical.choose_spec hx
  rw [h] at this; exact this
 ·cases h
noncomputable def isT (k : Int) (x : Str) (t : Tok) : Bool := (t.1 == k) && (t.2.1 == x)
noncomputable def wA : List Tok → Int
 | [] => 0
 | t :: _ => t.2.2.2
noncomputable def isH (k : Int) (x : Str) : List Tok → Bool
 | [] => false
 | t :: _ => isT k x t
noncomputable def aV (x : Str) (ts : List Tok) : Except Err (List Tok) := match ts with
 | [] => .error (2, 0)
 | t :: r => bif isT 3 x t then .ok r else .error (2, t.2.2.2)
noncomputable def cU (full : Bool) (names procs : List Str) (ts : List Tok) : Except Err (Str × List Tok) := match ts with
 | [] => .error (2, 0)
 | t :: r => bif t.1 != 1 then .error (2, t.2.2.2) else bif key t.2.1 || names.contains t.2.1 || procs.contains t.2.1 then .error (3, t.2.2.2) else bif full then .error (9, t.2.2.2) else .ok (t.2.1, r)
noncomputable def jQ (neg : Bool) (ts : List Tok) : Except Err (Int × List Tok) := match ts with
 | [] => .error (2, 0)
 | t :: r => bif t.1 != 2 then .error (2, t.2.2.2) else .ok (bif neg then IntKind.i64.wrap (0 - t.2.2.1) else t.2.2.1, r)
noncomputable def dh (ts : List Tok) : Except Err (Int × List Tok) := bif isH 3 [45] ts then jQ true ts.tail else jQ false ts
noncomputable def kh (lo hi : Int) : Bool := !(decide (hi < lo)) && !(decide (lo < -1073741824)) && !(decide (1073741824 < hi)) && !(decide (65535 < IntKind.i64.wrap (hi - lo)))
noncomputable def jk (m : Mdl) (ts : List Tok) : Except Err (Mdl × List Tok) :=
 match cU (decide (16 ≤ (m.1.length : Int))) m.1 m.2.2.2.1 ts with
 | .error e => .error e
 | .ok (name, ts1) => match dh ts1 with
  | .error e => .error e
  | .ok (lo, ts2) => match dh ts2 with
   | .error e => .error e
   | .ok (hi, ts3) => match dh ts3 with
    | .error e => .error e
    | .ok (first, ts4) => match aV [59] ts4 with
     | .error e => .error e
     | .ok ts5 => bif !(kh lo hi) || decide (first < lo) || decide (hi < first) then .error (5, wA ts1) else .ok ((m.1 ++ [name], m.2.1 ++ [(lo, hi)], m.2.2.1 ++ [first], m.2.2.2.1, m.2.2.2.2), ts5)
noncomputable def bZ (want : Int) (names : List Str) (ts : List Tok) : Except Err (Ex × List Tok) :=
 match rI names ts with
 | .error e => .error e
 | .ok (x, r) => bif (rt x).2.1 != 0 then .error ((rt x).2.1, (rt x).2.2) else bif (rt x).1 != want then .error (4, x.at_) else .ok (x, r)
noncomputable def cC (names : List Str) (v : Str) : Int := match at_ names v with
 | some i => (i : Int)
 | none => -1
noncomputable def nU (acc : List (Int × Ex)) (i : Int) : Bool := acc.any (fun s => s.1 == i)
noncomputable def cK (names : List Str) : Nat → List (Int × Ex) → List Tok → Except Err (List (Int × Ex) × List Tok)
 | 0, _, _ => .error (2, 0)
 | f + 1, acc, ts => match ts with
  | [] => .error (2, 0)
  | t :: r => bif t.1 != 1 then .error (2, t.2.2.2) else bif decide (cC names t.2.1 < 0) || nU acc (cC names t.2.1) then .error (3, t.2.2.2) else
   match aV [61] r with
   | .error e => .error e
   | .ok r1 => match bZ 1 names r1 with
    | .error e => .error e
    | .ok (x, r2) => bif isH 3 [44] r2 then cK names f (acc ++ [(cC names t.2.1, x)]) r2.tail else .ok (acc ++ [(cC names t.2.1, x)], r2)
noncomputable def gO (m : Mdl) (ts : List Tok) : Except Err (Mdl × List Tok) :=
 bif decide (256 ≤ (m.2.2.2.2.length : Int)) then .error (9, wA ts) else
 match bZ 2 m.1 ts with
 | .error e => .error e
 | .ok (g, r1) => match aV [58] r1 with
  | .error e => .error e
  | .ok r2 => match cK m.1 (r2.length + 1) [] r2 with
   | .error e => .error e
   | .ok (sets, r3) => match aV [59] r3 with
    | .error e => .error e
    | .ok r4 => .ok ((m.1, m.2.1, m.2.2.1, m.2.2.2.1, m.2.2.2.2 ++ [(IntKind.i64.wrap ((m.2.2.2.1.length : Int) - 1), g, sets)]), r4)
noncomputable def fY : Nat → Mdl → List Tok → Except Err (Mdl × List Tok)
 | 0, _, _ => .error (2, 0)
 | f + 1, m, ts => bif isH 3 [125] ts then .ok (m, ts.tail) else match gO m ts with
  | .error e => .error e
  | .ok (m', r) => fY f m' r
noncomputable def kV (m : Mdl) (ts : List Tok) : Except Err (Mdl × List Tok) :=
 match cU false m.1 m.2.2.2.1 ts with
 | .error e => .error e
 | .ok (name, r1) => match aV [123] r1 with
  | .error e => .error e
  | .ok r2 => fY (r2.length + 1) (m.1, m.2.1, m.2.2.1, m.2.2.2.1 ++ [name], m.2.2.2.2) r2
noncomputable def iZ : Nat → Mdl → List Tok → Except Err Mdl
 | 0, _, _ => .error (2, 0)
 | f + 1, m, ts => match ts with
  | [] => .error (2, 0)
  | t :: r => bif t.1 == 4 then (bif m.1.isEmpty then .error (2, t.2.2.2) else .ok m)
   else bif isT 1 [118, 97, 114] t then (match jk m r with
    | .error e => .error e
    | .ok (m', r') => iZ f m' r')
   else bif isT 1 [112, 114, 111, 99] t then (match kV m r with
    | .error e => .error e
    | .ok (m', r') => iZ f m' r')
   else .error (2, t.2.2.2)
noncomputable def sys (l : List Tok) : Except Err Mdl := iZ (l.length + 1) ([], [], [], [], []) l
noncomputable def xD : Except Err Mdl → Mdl × Int × Int
 | .ok m => (m, 0, 0)
 | .error e => (([], [], [], [], []), e.1, e.2)
/-! what is read is shorter, and ends as it ended -/
noncomputable def ct (ts ts' : List Tok) : Prop := Pa.Ends ts' ∧ ts'.length < ts.length
theorem EF {k : Int} {x : Str} {t : Tok} (h : isT k x t = true) (hk : k ≠ 4) : t.1 ≠ 4 := by
 unfold isT at h
 simp only [Bool.and_eq_true, beq_iff_eq] at h
 omega
theorem gw {x : Str} {ts r : List Tok} (he : Pa.Ends ts) (h : aV x ts = .ok r) : ct ts r := by
 obtain ⟨t, ts', rfl⟩ := he.ne
 simp only [aV] at h
 cases hc : isT 3 x t
 ·rw [hc] at h; cases h
 ·rw [hc] at h; cases h
  exact ⟨he.tail (EF hc (by decide)), Nat.lt_succ_self _⟩
theorem xH {full : Bool} {names procs : List Str} {ts : List Tok} {p : Str × List Tok} (he : Pa.Ends ts) (h : cU full names procs ts = .ok p) :
  ct ts p.2 ∧ key p.1 = false ∧ names.contains p.1 = false ∧ procs.contains p.1 = false ∧ full = false := by
 obtain ⟨t, ts', rfl⟩ := he.ne
 simp only [cU] at h
 cases h1 : (t.1 != 1)
 ·rw [h1] at h
  simp only [cond_false] at h
  cases h2 : (key t.2.1 || names.contains t.2.1 || procs.contains t.2.1)
  ·rw [h2] at h
   simp only [cond_false] at h
   cases full
   ·cases h
    simp only [Bool.or_eq_false_iff] at h2
    have : t.1 = 1 := by simpa using h1
    exact ⟨⟨he.tail (by omega), Nat.lt_succ_self _⟩, h2.1.1, h2.1.2, h2.2, rfl⟩
   ·cases h
  ·rw [h2] at h; cases h
 ·rw [h1] at h; cases h
theorem C9 {neg : Bool} {ts : List Tok} {p : Int × List Tok} (he : Pa.Ends ts) (h : jQ neg ts = .ok p) : ct ts p.2 := by
 obtain ⟨t, ts', rfl⟩ := he.ne
 simp only [jQ] at h
 cases h1 : (t.1 != 2)
 ·rw [h1] at h
  cases h
  have : t.1 = 2 := by simpa using h1
  exact ⟨he.tail (by omega), Nat.lt_succ_self _⟩
 ·rw [h1] at h; cases h
theorem iu {k : Int} {x : Str} {ts : List Tok} (he : Pa.Ends ts) (hk : k ≠ 4) (h : isH k x ts = true) : Pa.Ends ts.tail ∧ ts.tail.length + 1 = ts.length := by
 obtain ⟨t, ts', rfl⟩ := he.ne
 exact ⟨he.tail (EF h hk), rfl⟩
theorem zE {ts : List Tok} {p : Int × List Tok} (he : Pa.Ends ts) (h : dh ts = .ok p) : ct ts p.2 := by
 unfold dh at h
 cases hc : isH 3 [45] ts
 ·rw [hc] at h; exact C9 he h
 ·rw [hc] at h
  obtain ⟨h1, h2⟩ := iu he (by decide) hc
  obtain ⟨h3, h4⟩ := C9 h1 h
  exact ⟨h3, by omega⟩
theorem j8 {want : Int} {names : List Str} {ts : List Tok} {p : Ex × List Tok} (he : Pa.Ends ts) (h : bZ want names ts = .ok p) :
  ct ts p.2 ∧ P names (.line 1) 0 ts (.ok p) ∧ (rt p.1).2.1 = 0 ∧ (rt p.1).1 = want := by
 unfold bZ at h
 cases hr : rI names ts with
 | error e => rw [hr] at h; cases h
 | ok q =>
  obtain ⟨x, r⟩ := q
  rw [hr] at h
  simp only at h
  cases h1 : ((rt x).2.1 != 0)
  ·rw [h1] at h
   simp only [cond_false] at h
   cases h2 : ((rt x).1 != want)
   ·rw [h2] at h
    cases h
    have hp := KN hr
    exact ⟨hp.ends he _ rfl, hp, by simpa using h1, by simpa using h2⟩
   ·rw [h2] at h; cases h
  ·rw [h1] at h; cases h
theorem ct.trans {a b c : List Tok} (h : ct a b) (k : ct b c) : ct a c := ⟨k.1, Nat.lt_trans k.2 h.2⟩
theorem EC {names : List Str} : ∀ (f : Nat) (acc : List (Int × Ex)) (ts : List Tok) (p : List (Int × Ex) × List Tok), Pa.Ends ts → cK names f acc ts = .ok p → ct ts p.2 := by
 intro f
 induction f with
 | zero => intro _ _ _ _ h; simp [cK] at h
 | succ f ih =>
  intro acc ts p he h
  obtain ⟨t, r, rfl⟩ := he.ne
  simp only [cK] at h
  cases h1 : (t.1 != 1)
  case true => rw [h1] at h; cases h
  rw [h1] at h
  simp only [cond_false] at h
  cases h2 : (decide (cC names t.2.1 < 0) || nU acc (cC names t.2.1))
  case true => rw [h2] at h; cases h
  rw [h2] at h
  simp only [cond_false] at h
  have ht : t.1 = 1 := by simpa using h1
  have he1 := he.tail (by omega)
  cases h3 : aV [61] r with
  | error e => rw [h3] at h; cases h
  | ok r1 =>
   rw [h3] at h
   simp only at h
   have s1 := gw he1 h3
   cases h4 : bZ 1 names r1 with
   | error e => rw [h4] at h; cases h
   | ok q =>
    obtain ⟨x, r2⟩ := q
    rw [h4] at h
    simp only at h
    have s2 : ct r1 r2 := (j8 s1.1 h4).1
    have s12 : ct (t :: r) r2 := ⟨s2.1, by have := s1.2; have := s2.2; simp only [List.length_cons]; omega⟩
    cases h5 : isH 3 [44] r2
    ·rw [h5] at h
     cases h
     exact s12
    ·rw [h5] at h
     simp only [cond_true] at h
     obtain ⟨e1, e2⟩ := iu s2.1 (by decide) h5
     have := ih _ _ _ e1 h
     exact ⟨this.1, by have := this.2; have := s12.2; omega⟩
theorem Gj {m : Mdl} {ts : List Tok} {p : Mdl × List Tok} (he : Pa.Ends ts) (h : jk m ts = .ok p) : ct ts p.2 ∧
  ∃ name lo hi first, p.1 = (m.1 ++ [name], m.2.1 ++ [(lo, hi)], m.2.2.1 ++ [first], m.2.2.2.1, m.2.2.2.2) ∧ kh lo hi = true ∧ lo ≤ first ∧ first ≤ hi ∧ m.1.length < 16 ∧ m.1.contains name = false := by
 unfold jk at h
 cases h1 : cU (decide (16 ≤ (m.1.length : Int))) m.1 m.2.2.2.1 ts with
 | error e => rw [h1] at h; cases h
 | ok q1 =>
  obtain ⟨name, ts1⟩ := q1
  rw [h1] at h
  simp only at h
  obtain ⟨s1, _, hnm, _, hfull⟩ := xH he h1
  cases h2 : dh ts1 with
  | error e => rw [h2] at h; cases h
  | ok q2 =>
   obtain ⟨lo, ts2⟩ := q2
   rw [h2] at h
   simp only at h
   have s2 := zE s1.1 h2
   cases h3 : dh ts2 with
   | error e => rw [h3] at h; cases h
   | ok q3 =>
    obtain ⟨hi, ts3⟩ := q3
    rw [h3] at h
    simp only at h
    have s3 := zE s2.1 h3
    cases h4 : dh ts3 with
    | error e => rw [h4] at h; cases h
    | ok q4 =>
     obtain ⟨first, ts4⟩ := q4
     rw [h4] at h
     simp only at h
     have s4 := zE s3.1 h4
     cases h5 : aV [59] ts4 with
     | error e => rw [h5] at h; cases h
     | ok ts5 =>
      rw [h5] at h
      simp only at h
      have s5 := gw s4.1 h5
      cases h6 : (!(kh lo hi) || decide (first < lo) || decide (hi < first))
      ·rw [h6] at h
       cases h
       simp only [Bool.or_eq_false_iff, decide_eq_false_iff_not, Bool.not_eq_false'] at h6
       simp only [decide_eq_false_iff_not] at hfull
       exact ⟨(((s1.trans s2).trans s3).trans s4).trans s5, name, lo, hi, first, rfl, h6.1.1, by omega, by omega, by omega, hnm⟩
      ·rw [h6] at h; cases h
theorem Ak {m : Mdl} {ts : List Tok} {p : Mdl × List Tok} (he : Pa.Ends ts) (h : gO m ts = .ok p) : ct ts p.2 ∧
  ∃ g r1 r2 sets r3, m.2.2.2.2.length < 256 ∧ bZ 2 m.1 ts = .ok (g, r1) ∧ Pa.Ends r2 ∧ cK m.1 (r2.length + 1) [] r2 = .ok (sets, r3) ∧
   p.1 = (m.1, m.2.1, m.2.2.1, m.2.2.2.1, m.2.2.2.2 ++ [(IntKind.i64.wrap ((m.2.2.2.1.length : Int) - 1), g, sets)]) ∧ aV [58] r1 = .ok r2 ∧ aV [59] r3 = .ok p.2 := by
 unfold gO at h
 cases h0 : decide (256 ≤ (m.2.2.2.2.length : Int))
 case true => rw [h0] at h; cases h
 rw [h0] at h
 simp only [cond_false] at h
 simp only [decide_eq_false_iff_not] at h0
 cases h1 : bZ 2 m.1 ts with
 | error e => rw [h1] at h; cases h
 | ok q1 =>
  obtain ⟨g, r1⟩ := q1
  rw [h1] at h
  simp only at h
  have s1 := (j8 he h1).1
  cases h2 : aV [58] r1 with
  | error e => rw [h2] at h; cases h
  | ok r2 =>
   rw [h2] at h
   simp only at h
   have s2 := gw s1.1 h2
   cases h3 : cK m.1 (r2.length + 1) [] r2 with
   | error e => rw [h3] at h; cases h
   | ok q3 =>
    obtain ⟨sets, r3⟩ := q3
    rw [h3] at h
    simp only at h
    have s3 := EC _ _ _ _ s2.1 h3
    cases h4 : aV [59] r3 with
    | error e => rw [h4] at h; cases h
    | ok r4 =>
     rw [h4] at h
     cases h
     have s4 := gw s3.1 h4
     exact ⟨((s1.trans s2).trans s3).trans s4, g, r1, r2, sets, r3, by omega, rfl, s2.1, h3, rfl, h2, h4⟩
end Sy
end Go.Proofs.YtpnogcmollnjeaaGreatDoor
namespace Go.Proofs.YtpnogcmollnjeaaGreatDoor
namespace Pa
open Job
noncomputable def szJ : Job → Nat
 | line _ => 0
 | loop _ a => a.sz
theorem Dn (k n a : Int) : (Ex.mk k n a []).sz = 1 := by simp [Ex.sz, szL]
theorem P2 (k n a : Int) (x : Ex) : (Ex.mk k n a [x]).sz = x.sz + 1 := by simp [Ex.sz, szL]
theorem IS (k n a : Int) (x y : Ex) : (Ex.mk k n a [x, y]).sz = x.sz + y.sz + 1 := by simp [Ex.sz, szL]
theorem P.size {names : List Str} {j : Job} {d : Int} {ts : List Tok} {r : Out} (h : P names j d ts r) : ∀ p, r = .ok p → p.1.sz + p.2.length ≤ ts.length + szJ j := by
 induction h with
 | big => intro p h; cases h
 | @pre s d t ts k r h0 h1 h2 h3 ih =>
  intro p h
  cases r with
  | error e => cases h
  | ok q => have := ih q rfl; cases h; simp only [szJ, P2, List.length_cons] at *; omega
 | other h0 h1 h2 h3 ih => intro p h; exact ih p h
 | rErr => intro p h; cases h
 | rOne h0 h1 h2 h3 ih => intro p h; exact ih p h
 | @rTwo s d ts a t ts' k r h0 h1 h2 h3 h4 ih ih2 =>
  intro p h
  cases r with
  | error e => cases h
  | ok q => have i1 := ih _ rfl; have i2 := ih2 q rfl; cases h; simp only [szJ, IS, List.length_cons] at *; omega
 | lErr => intro p h; cases h
 | lGo h0 h1 h2 ih ih2 => intro p h; have i1 := ih _ rfl; have i2 := ih2 p h; simp only [szJ] at *; omega
 | lpEnd h0 => intro p h; cases h; simp only [szJ]; omega
 | lpErr => intro p h; cases h
 | lpGo h0 h1 h2 ih ih2 => intro p h; have i1 := ih _ rfl; have i2 := ih2 p h; simp only [szJ, IS, List.length_cons] at *; omega
 | oWord h0 h1 => intro p h; cases h; simp only [szJ, Dn, List.length_cons]; omega
 | oNum h0 h1 h2 => intro p h; cases h; simp only [szJ, Dn, List.length_cons]; omega
 | oVar h0 h1 h2 h3 h4 => intro p h; cases h; simp only [szJ, Dn, List.length_cons]; omega
 | oName => intro p h; cases h
 | oOpen h0 h1 h2 h3 h4 h5 h6 ih => intro p h; cases h; have := ih _ rfl; simp only [szJ, List.length_cons] at *; omega
 | oErr => intro p h; cases h
 | oClose => intro p h; cases h
 | oForm => intro p h; cases h
theorem P.suf {names : List Str} {j : Job} {d : Int} {ts : List Tok} {r : Out} (h : P names j d ts r) : ∀ p, r = .ok p → p.2 <:+ ts := by
 induction h with
 | big => intro p h; cases h
 | @pre s d t ts k r h0 h1 h2 h3 ih =>
  intro p h
  cases r with
  | error e => cases h
  | ok q => have := ih q rfl; cases h; exact this.trans (List.suffix_cons _ _)
 | other h0 h1 h2 h3 ih => exact ih
 | rErr => intro p h; cases h
 | rOne h0 h1 h2 h3 ih => exact ih
 | @rTwo s d ts a t ts' k r h0 h1 h2 h3 h4 ih ih2 =>
  intro p h
  cases r with
  | error e => cases h
  | ok q => have i1 := ih _ rfl; have i2 := ih2 q rfl; cases h; exact (i2.trans (List.suffix_cons _ _)).trans i1
 | lErr => intro p h; cases h
 | lGo h0 h1 h2 ih ih2 => intro p h; exact (ih2 p h).trans (ih _ rfl)
 | lpEnd h0 => intro p h; cases h; exact List.suffix_refl _
 | lpErr => intro p h; cases h
 | lpGo h0 h1 h2 ih ih2 => intro p h; exact ((ih2 p h).trans (ih _ rfl)).trans (List.suffix_cons _ _)
 | oWord h0 h1 => intro p h; cases h; exact List.suffix_cons _ _
 | oNum h0 h1 h2 => intro p h; cases h; exact List.suffix_cons _ _
 | oVar h0 h1 h2 h3 h4 => intro p h; cases h; exact List.suffix_cons _ _
 | oName => intro p h; cases h
 | oOpen h0 h1 h2 h3 h4 h5 h6 ih => intro p h; cases h; exact ((List.suffix_cons _ _).trans (ih _ rfl)).trans (List.suffix_cons _ _)
 | oErr => intro p h; cases h
 | oClose => intro p h; cases h
 | oForm => intro p h; cases h
noncomputable def oV (t : Tok) : Prop := t.1 = 2 → 0 ≤ t.2.2.1 ∧ t.2.2.1 ≤ 1073741824
theorem uc {s : Nat} {t : Tok} {k : Int} (h : bI s t = some k) : k ∈ ops s := by
 unfold bI fnd at h
 cases hs : sgn t
 ·rw [hs] at h; cases h
 ·rw [hs] at h; exact List.mem_of_find?_eq_some h
theorem Ni {s : Nat} (hk : kd s = 0) {k : Int} (h : k ∈ ops s) (vars : Int) : kK k 0 1 (fO k) vars = true := by
 have : s = 6 ∨ s = 10 := by
  unfold kd at hk
  split at hk <;> first | (cases hk; done) | simp
 rcases this with rfl | rfl
 ·simp only [ops, List.mem_cons, List.not_mem_nil, or_false] at h
  rcases h with rfl | rfl | rfl | rfl <;> rfl
 ·simp only [ops, List.mem_cons, List.not_mem_nil, or_false] at h
  subst h; rfl
theorem Gd {s : Nat} (hk : kd s = 1 ∨ kd s = 2) {k : Int} (h : k ∈ ops s) (vars : Int) : kK k 0 2 (fO k) vars = true := by
 have : s = 1 ∨ s = 2 ∨ s = 3 ∨ s = 4 ∨ s = 5 ∨ s = 7 ∨ s = 8 ∨ s = 9 := by
  unfold kd at hk
  split at hk <;> first | (rcases hk with hk | hk <;> cases hk; done) | simp
 rcases this with rfl | rfl | rfl | rfl | rfl | rfl | rfl | rfl <;> simp only [ops, List.mem_cons, List.not_mem_nil, or_false] at h
 ·subst h; rfl
 ·subst h; rfl
 ·subst h; rfl
 ·subst h; rfl
 ·rcases h with rfl | rfl <;> rfl
 ·rcases h with rfl | rfl | rfl | rfl | rfl | rfl <;> rfl
 ·rcases h with rfl | rfl <;> rfl
 ·subst h; rfl
theorem Ko {s : Nat} (hk : kd s = 3) {k : Int} (h : k ∈ ops s) (vars : Int) : kK k 0 0 (fO k) vars = true := by
 have : s = 11 := by
  unfold kd at hk
  split at hk <;> first | (cases hk; done) | simp
 subst this
 simp only [ops, List.mem_cons, List.not_mem_nil, or_false] at h
 rcases h with rfl | rfl <;> rfl
theorem Ab {vars k n a : Int} (h : kK k n 0 (fO k) vars = true) : dR vars (.mk k n a []) = true := by
 simp only [dR, kL, List.length_nil]; rw [show ((0 : Nat) : Int) = 0 from rfl, h]; rfl
theorem NL {vars k a : Int} {x : Ex} (h : kK k 0 1 (fO k) vars = true) (hx : dR vars x = true) : dR vars (.mk k 0 a [x]) = true := by
 simp only [dR, kL, List.length_cons, List.length_nil]; rw [show ((0 + 1 : Nat) : Int) = 1 from rfl, h, hx]; rfl
theorem Gk {vars k a : Int} {x y : Ex} (h : kK k 0 2 (fO k) vars = true) (hx : dR vars x = true) (hy : dR vars y = true) : dR vars (.mk k 0 a [x, y]) = true := by
 simp only [dR, kL, List.length_cons, List.length_nil]; rw [show ((0 + 1 + 1 : Nat) : Int) = 2 from rfl, h, hx, hy]; rfl
noncomputable def QT (vars : Int) : Job → Bool
 | line _ => true
 | loop _ a => dR vars a
noncomputable def okJ : Job → Prop
 | line _ => True
 | loop s _ => kd s = 2
theorem M7 {names : List Str} {v : Str} {i : Nat} (h : at_ names v = some i) : i < names.length := by
 unfold at_ at h
 have := List.findIdx?_eq_some_iff_getElem.1 h
 exact this.1
theorem P.may {names : List Str} {j : Job} {d : Int} {ts : List Tok} {r : Out} (h : P names j d ts r) : okJ j → (∀ t ∈ ts, oV t) → QT names.length j = true → ∀ p, r = .ok p → dR names.length p.1 = true := by
 induction h with
 | big => intro _ _ _ p h; cases h
 | @pre s d t ts k r h0 h1 h2 h3 ih =>
  intro _ hq _ p h
  cases r with
  | error e => cases h
  | ok q => have := ih trivial (fun t ht => hq t (List.mem_cons_of_mem _ ht)) rfl q rfl; cases h; exact NL (Ni h0 (uc h2) _) this
 | other h0 h1 h2 h3 ih => intro _ hq hj p h; exact ih trivial hq rfl p h
 | rErr => intro _ _ _ p h; cases h
 | rOne h0 h1 h2 h3 ih => intro _ hq hj p h; exact ih trivial hq rfl _ h
 | @rTwo s d ts a t ts' k r h0 h1 h2 h3 h4 ih ih2 =>
  intro _ hq _ p h
  cases r with
  | error e => cases h
  | ok q =>
   have i1 := ih trivial hq rfl _ rfl
   have hs := h2.suf _ rfl
   have i2 := ih2 trivial (fun t ht => hq t (hs.mem (List.mem_cons_of_mem _ ht))) rfl q rfl
   cases h
   exact Gk (Gd (.inl h0) (uc h3) _) i1 i2
 | lErr => intro _ _ _ p h; cases h
 | lGo h0 h1 h2 ih ih2 =>
  intro _ hq _ p h
  have i1 := ih trivial hq rfl _ rfl
  have hs := h1.suf _ rfl
  exact ih2 h0 (fun t ht => hq t (hs.mem ht)) i1 p h
 | lpEnd h0 => intro _ hq hj p h; cases h; exact hj
 | lpErr => intro _ _ _ p h; cases h
 | @lpGo s a d t ts k b ts' r h0 h1 h2 ih ih2 =>
  intro ho hq hj p h
  have i1 := ih trivial (fun t ht => hq t (List.mem_cons_of_mem _ ht)) rfl _ rfl
  have hs := h1.suf _ rfl
  exact ih2 ho (fun t ht => hq t (List.mem_cons_of_mem _ (hs.mem ht))) (Gk (a := t.2.2.2) (Gd (.inr ho) (uc h0) _) hj i1) p h
 | oWord h0 h1 => intro _ hq _ p h; cases h; exact Ab (Ko h0 (uc h1) _)
 | @oNum s d t ts h0 h1 h2 =>
  intro _ hq _ p h
  cases h
  obtain ⟨n0, n1⟩ := hq t (List.mem_cons_self ..) (beq_iff_eq.1 h2)
  refine Ab ?_
  simp only [kK, fO]
  have e1 : decide (t.2.2.1 < 0) = false := decide_eq_false (by omega)
  have e2 : decide (1073741824 < t.2.2.1) = false := decide_eq_false (by omega)
  rw [e1, e2]; rfl
 | @oVar s d t ts i h0 h1 h2 h3 h4 =>
  intro _ hq _ p h
  cases h
  have hlt := M7 h4
  refine Ab ?_
  simp only [kK, fO]
  have e1 : decide ((i : Int) < 0) = false := decide_eq_false (by omega)
  have e2 : decide ((names.length : Int) ≤ (i : Int)) = false := decide_eq_false (by omega)
  rw [e1, e2]; rfl
 | oName => intro _ _ _ p h; cases h
 | @oOpen s d t ts a c ts' h0 h1 h2 h3 h4 h5 h6 ih => intro _ hq _ p h; cases h; exact ih trivial (fun t ht => hq t (List.mem_cons_of_mem _ ht)) rfl (a, c :: ts') rfl
 | oErr => intro _ _ _ p h; cases h
 | oClose => intro _ _ _ p h; cases h
 | oForm => intro _ _ _ p h; cases h
end Pa
end Go.Proofs.YtpnogcmollnjeaaGreatDoor
namespace Go.Proofs.YtpnogcmollnjeaaGreatDoor
namespace Pa
noncomputable def isLet (c : UInt8) : Bool := (decide (97 ≤ c) && decide (c ≤ 122)) || (decide (65 ≤ c) && decide (c ≤ 90)) || c == 95
noncomputable def dQ (t : Tok) : Prop := (t.1 = 1 ∧ ∃ c s, t.2.1 = c :: s ∧ isLet c = true) ∨ t.1 = 2 ∨ (t.1 = 3 ∧ ∀ c s, t.2.1 = c :: s → isLet c = false) ∨ t.1 = 4
theorem jE {l : List Tok} {a : Nat} {t : Tok} {ts : List Tok} (h : l.drop a = t :: ts) : idx l (a : Int) = some t ∧ l.drop (a + 1) = ts ∧ a < l.length ∧ t ∈ l := by
 have hlt : a < l.length := by
  rcases Nat.lt_or_ge a l.length with h1 | h1
  ·exact h1
  ·rw [List.drop_of_length_le h1] at h; cases h
 rw [List.drop_eq_getElem_cons hlt] at h
 simp only [List.cons.injEq] at h
 refine ⟨by simp [idx, List.getElem?_eq_getElem hlt, h.1], h.2, hlt, by rw [← h.1]; exact List.getElem_mem ..⟩
theorem bX {a : Nat} (h : a < 4611686018427387904) : IntKind.i64.wrap ((a : Int) + 1) = ((a + 1 : Nat) : Int) := by rw [w64 (by omega)]; omega
end Pa
namespace Sy
open Pa
theorem iL {α : Type} {l pre r : List α} {x : α} (h : l = pre ++ x :: r) : decide ((pre.length : Int) < (List.length l : Int)) = true := by subst h; simp; omega
theorem ku {α : Type} {l pre : List α} (h : l = pre ++ []) : decide ((pre.length : Int) < (List.length l : Int)) = false := by subst h; simp
theorem mid {α : Type} {l pre r : List α} {x : α} (h : l = pre ++ x :: r) : idx l (pre.length : Int) = some x := by subst h; simp [idx]
theorem eI {k b : Nat} (h : k * b ≤ 140737488355328) (h2 : k ≤ 9223372036854775807) : ay k b = true := by
 simp only [ay, Bool.and_eq_true]; exact ⟨Nat.ble_eq_true_of_le h, Nat.ble_eq_true_of_le h2⟩
theorem dE {ρ : Type} {c : Bool} (h : c = true) (k : Option ρ) : chk c k = k := by subst h; rfl
end Sy
end Go.Proofs.YtpnogcmollnjeaaGreatDoor
namespace Go.Proofs.YtpnogcmollnjeaaGreatDoor
namespace Sy
open Pa
theorem Hr (s : Str) (h : s.all Lx.isDigit = true) : 0 ≤ Lx.dp 0 s := Lx.qO s 0 (Int.le_refl _) h
theorem Jf {c : UInt8} {s : Str} {k : Int} {t : Str} {n : Int} (h : Lx.step (c :: s) = .tok k t n) (pl : Int) : dQ (k, t, n, pl) ∧ oV (k, t, n, pl) ∧ k ≠ 4 := by
 obtain ⟨hb, hc, _, _⟩ := Lx.uz h
 simp only [Lx.step, hb, hc, Bool.false_eq_true, if_false] at h
 cases hlet : Lx.cS c
 ·simp only [hlet, Bool.false_eq_true, if_false] at h
  cases hdig : Lx.isDigit c
  ·simp only [hdig, Bool.false_eq_true, if_false] at h
   cases hsg : (Lx.cF (c :: s) == [])
   ·simp only [hsg, Bool.false_eq_true, if_false, Lx.Step.tok.injEq] at h
    obtain ⟨rfl, rfl, rfl⟩ := h
    obtain ⟨h1, h2, _⟩ := Lx.o9 hsg
    obtain ⟨_, c', s', hg, _, _, hl, _⟩ := Lx.zp _ h1
    refine ⟨.inr (.inr (.inl ⟨rfl, fun c2 s2 h3 => ?_⟩)), (fun h => by cases h), by decide⟩
    simp only at h3
    rw [hg] at h3
    cases h3
    exact hl
   ·simp [hsg] at h
  ·simp only [hdig, if_true] at h
   split at h
   ·cases h
   ·rename_i hbig
    simp only [Lx.Step.tok.injEq] at h
    obtain ⟨rfl, rfl, rfl⟩ := h
    refine ⟨.inr (.inl rfl), fun _ => ⟨Hr _ (Lx.jy _ _), ?_⟩, by decide⟩
    simp only [Lx.big, decide_eq_true_eq] at hbig
    simp only; omega
 ·simp only [hlet, if_true] at h
  split at h
  ·cases h
  ·simp only [Lx.Step.tok.injEq] at h
   obtain ⟨rfl, rfl, rfl⟩ := h
   refine ⟨.inl ⟨rfl, c, s.takeWhile Lx.bV, ?_, hlet⟩, (fun h => by cases h), by decide⟩
   simp only [List.takeWhile_cons, Lx.lr hlet, if_true]
structure Good (n : Nat) (l : List Tok) : Prop where
 ok : ∀ t ∈ l, dQ t
 num : ∀ t ∈ l, oV t
 ends : Pa.Ends l
 len : l.length ≤ n
theorem Jo {t : Tok} {l : List Tok} (h : Pa.Ends l) : Pa.Ends (t :: l) := .inl h
theorem IE : ∀ (f a : Nat) (s : Str) (l : List Tok), s.length < f → Lx.gQ f a s = .ok l → Good (s.length + 1) l := by
 intro f
 induction f with
 | zero => intro a s l h; omega
 | succ f ih =>
  intro a s l hf h
  cases s with
  | nil =>
   simp only [Lx.gQ] at h; cases h
   exact ⟨(fun t ht => by rw [List.mem_singleton.1 ht]; exact .inr (.inr (.inr rfl))), (fun t ht => by rw [List.mem_singleton.1 ht]; intro h; cases h), .inr ⟨rfl, rfl⟩, by simp⟩
  | cons c s =>
   simp only [Lx.gQ] at h
   cases hs : Lx.step (c :: s) with
   | skip k =>
    rw [hs] at h
    obtain ⟨h1, h2⟩ := Lx.step_skip hs
    have := ih _ _ _ (by simp only [List.length_drop, List.length_cons] at *; omega) h
    exact ⟨this.ok, this.num, this.ends, by have := this.len; simp only [List.length_drop, List.length_cons] at *; omega⟩
   | err e => rw [hs] at h; cases h
   | tok k tx n =>
    rw [hs] at h
    simp only at h
    obtain ⟨_, _, h1, h2⟩ := Lx.uz hs
    have h3 := h2.length_le
    obtain ⟨g1, g2, _⟩ := Jf hs (a : Int)
    cases hr : Lx.gQ f (a + tx.length) ((c :: s).drop tx.length) with
    | error e => rw [hr] at h; cases h
    | ok l' =>
     rw [hr] at h
     cases h
     have := ih _ _ _ (by simp only [List.length_drop, List.length_cons] at *; omega) hr
     refine ⟨fun t ht => ?_, fun t ht => ?_, Jo this.ends, by have := this.len; simp only [List.length_drop, List.length_cons] at *; omega⟩
     ·rcases List.mem_cons.1 ht with rfl | ht
      ·exact g1
      ·exact this.ok t ht
     ·rcases List.mem_cons.1 ht with rfl | ht
      ·exact g2
      ·exact this.num t ht
theorem DP {s : Str} {l : List Tok} (h : Lx.lex s = .ok l) : Good (s.length + 1) l := IE _ _ _ _ (Nat.lt_succ_self _) h
theorem Ez : ∀ (f a : Nat) (s : Str) (e : Int × Int), Lx.gQ f a s = .error e → e.1 ≠ 0 := by
 intro f
 induction f with
 | zero => intro a s e h; simp [Lx.gQ] at h
 | succ f ih =>
  intro a s e h
  cases s with
  | nil => simp [Lx.gQ] at h
  | cons c s =>
   simp only [Lx.gQ] at h
   cases hs : Lx.step (c :: s) with
   | skip k => rw [hs] at h; exact ih _ _ _ h
   | err e' => rw [hs] at h; cases h; exact Lx.PO hs
   | tok k tx n =>
    rw [hs] at h
    simp only at h
    cases hr : Lx.gQ f (a + tx.length) ((c :: s).drop tx.length) with
    | error e' => rw [hr] at h; cases h; exact ih _ _ _ hr
    | ok l' => rw [hr] at h; cases h
noncomputable def yj (text : Str) : Except Err Mdl := if 65536 < text.length then .error (9, 0) else match Lx.lex text with
 | .ok l => sys l
 | .error e => .error e
/-! what systems of texts are -/
structure Cc (n : Nat) (s : Int × Ex) : Prop where
 var : 0 ≤ s.1 ∧ s.1 < n
 may : dR (n : Int) s.2 = true
 typ : (rt s.2).2.1 = 0 ∧ (rt s.2).1 = 1
 sz : s.2.sz ≤ 65537
structure Cs (n : Nat) (c : Cmd) : Prop where
 may : dR (n : Int) c.2.1 = true
 typ : (rt c.2.1).2.1 = 0 ∧ (rt c.2.1).1 = 2
 sz : c.2.1.sz ≤ 65537
 sets : ∀ s ∈ c.2.2, Cc n s
 one : 1 ≤ c.2.2.length
 len : c.2.2.length ≤ 65537
 once : c.2.2.Pairwise (fun a b => a.1 ≠ b.1)
structure wg (f : Int × Int) : Prop where
 le : f.1 ≤ f.2
 lo : -1073741824 ≤ f.1
 hi : f.2 ≤ 1073741824
 wide : f.2 - f.1 ≤ 65535
structure Part (m : Mdl) : Prop where
 names : m.1.length ≤ 16
 schema : m.2.1.length = m.1.length
 init : m.2.2.1.length = m.1.length
 fields : ∀ f ∈ m.2.1, wg f
 first : ∀ (i : Nat) (f : Int × Int) (v : Int), m.2.1[i]? = some f → m.2.2.1[i]? = some v → f.1 ≤ v ∧ v ≤ f.2
 cmds : m.2.2.2.2.length ≤ 256
 cmd : ∀ c ∈ m.2.2.2.2, Cs m.1.length c
structure Wf (m : Mdl) : Prop extends Part m where
 some_ : 1 ≤ m.1.length
theorem Ny {op n len want v w : Int} (h : kK op n len want v = true) (hv : v ≤ w) : kK op n len want w = true := by
 simp only [kK, Bool.and_eq_true, Bool.not_eq_true', Bool.or_eq_false_iff, decide_eq_false_iff_not, bne_eq_false_iff_eq, Bool.and_eq_false_imp, beq_iff_eq] at h ⊢
 obtain ⟨⟨⟨h1, h2⟩, h3⟩, ⟨h4, h5⟩, h6⟩ := h
 exact ⟨⟨⟨h1, h2⟩, h3⟩, ⟨h4, fun h => by have := h5 h; omega⟩, h6⟩
theorem Ge {v w : Int} (hv : v ≤ w) : ∀ (N : Nat) (e : Ex), e.sz ≤ N → dR v e = true → dR w e = true := by
 intro N
 induction N with
 | zero => intro e h; have := kP e; omega
 | succ N ih =>
  intro e h hm
  have h0 := (Be hm).2.2.2.2
  rw [AK] at hm ⊢
  simp only [Bool.and_eq_true] at hm ⊢
  refine ⟨Ny hm.1 hv, ?_⟩
  have : ∀ l : List Ex, (∀ x ∈ l, x ∈ e.l) → kL w l = true := fun l => by
   induction l with
   | nil => intro _; simp only [kL]
   | cons x r ih2 =>
    intro hx
    simp only [kL, Bool.and_eq_true]
    exact ⟨ih x (by have := iK (hx x (by simp)); omega) (h0 x (hx x (by simp))), ih2 (fun y hy => hx y (List.mem_cons_of_mem _ hy))⟩
  exact this e.l (fun x h => h)
theorem Cs.le {n k : Nat} {c : Cmd} (h : Cs n c) (hk : n ≤ k) : Cs k c :=
 ⟨Ge (by omega) _ _ (Nat.le_refl _) h.may, h.typ, h.sz, fun s hs => ⟨⟨(h.sets s hs).var.1, by have := (h.sets s hs).var.2; omega⟩, Ge (by omega) _ _ (Nat.le_refl _) (h.sets s hs).may, (h.sets s hs).typ, (h.sets s hs).sz⟩, h.one, h.len, h.once⟩
theorem JS {lo hi : Int} (h : kh lo hi = true) : wg (lo, hi) := by
 simp only [kh, Bool.and_eq_true, Bool.not_eq_true', decide_eq_false_iff_not] at h
 obtain ⟨⟨⟨h1, h2⟩, h3⟩, h4⟩ := h
 rw [w64 (by omega)] at h4
 exact ⟨by simp only; omega, by simp only; omega, by simp only; omega, by simp only; omega⟩
noncomputable def gb (ts : List Tok) : Prop := (∀ t ∈ ts, oV t) ∧ Pa.Ends ts ∧ ts.length ≤ 65537
theorem gb.of {ts ts' : List Tok} (h : gb ts) (hs : ct ts ts') (hf : ts' <:+ ts) : gb ts' := ⟨fun t ht => h.1 t (hf.mem ht), hs.1, by have := hs.2; have := h.2.2; omega⟩
theorem lI {x : Str} {ts r : List Tok} (h : aV x ts = .ok r) : r <:+ ts := by
 cases ts with
 | nil => simp [aV] at h
 | cons t ts' =>
  simp only [aV] at h
  cases hc : isT 3 x t
  ·rw [hc] at h; cases h
  ·rw [hc] at h; cases h; exact List.suffix_cons _ _
theorem A0 {full : Bool} {names procs : List Str} {ts : List Tok} {p : Str × List Tok} (h : cU full names procs ts = .ok p) : p.2 <:+ ts := by
 cases ts with
 | nil => simp [cU] at h
 | cons t ts' =>
  simp only [cU] at h
  cases h1 : (t.1 != 1)
  ·rw [h1] at h
   simp only [cond_false] at h
   cases h2 : (key t.2.1 || names.contains t.2.1 || procs.contains t.2.1)
   ·rw [h2] at h
    simp only [cond_false] at h
    cases full
    ·cases h; exact List.suffix_cons _ _
    ·cases h
   ·rw [h2] at h; cases h
  ·rw [h1] at h; cases h
theorem Bw {neg : Bool} {ts : List Tok} {p : Int × List Tok} (h : jQ neg ts = .ok p) : p.2 <:+ ts := by
 cases ts with
 | nil => simp [jQ] at h
 | cons t ts' =>
  simp only [jQ] at h
  cases h1 : (t.1 != 2)
  ·rw [h1] at h; cases h; exact List.suffix_cons _ _
  ·rw [h1] at h; cases h
theorem xz {ts : List Tok} {p : Int × List Tok} (h : dh ts = .ok p) : p.2 <:+ ts := by
 unfold dh at h
 cases hc : isH 3 [45] ts
 ·rw [hc] at h; exact Bw h
 ·rw [hc] at h; exact (Bw h).trans (List.tail_suffix _)
theorem vB {want : Int} {names : List Str} {ts : List Tok} {p : Ex × List Tok} (he : Pa.Ends ts) (h : bZ want names ts = .ok p) : p.2 <:+ ts := (j8 he h).2.1.suf _ rfl
theorem Jn {names : List Str} : ∀ (f : Nat) (acc : List (Int × Ex)) (ts : List Tok) (p : List (Int × Ex) × List Tok), Pa.Ends ts → cK names f acc ts = .ok p → p.2 <:+ ts := by
 intro f
 induction f with
 | zero => intro _ _ _ _ h; simp [cK] at h
 | succ f ih =>
  intro acc ts p he h
  obtain ⟨t, r, rfl⟩ := he.ne
  simp only [cK] at h
  cases h1 : (t.1 != 1)
  case true => rw [h1] at h; cases h
  rw [h1] at h
  simp only [cond_false] at h
  cases h2 : (decide (cC names t.2.1 < 0) || nU acc (cC names t.2.1))
  case true => rw [h2] at h; cases h
  rw [h2] at h
  simp only [cond_false] at h
  have ht : t.1 = 1 := by simpa using h1
  have he1 := he.tail (by omega)
  cases h3 : aV [61] r with
  | error e => rw [h3] at h; cases h
  | ok r1 =>
   rw [h3] at h
   simp only at h
   have s1 := gw he1 h3
   cases h4 : bZ 1 names r1 with
   | error e => rw [h4] at h; cases h
   | ok q =>
    obtain ⟨x, r2⟩ := q
    rw [h4] at h
    simp only at h
    have s2 : ct r1 r2 := (j8 s1.1 h4).1
    have f12 : r2 <:+ t :: r := ((vB s1.1 h4).trans (lI h3)).trans (List.suffix_cons _ _)
    cases h5 : isH 3 [44] r2
    ·rw [h5] at h; cases h; exact f12
    ·rw [h5] at h
     simp only [cond_true] at h
     exact ((ih _ _ _ (iu s2.1 (by decide) h5).1 h).trans (List.tail_suffix _)).trans f12
theorem A7 {want : Int} {names : List Str} {ts : List Tok} {x : Ex} {r : List Tok} (hT : gb ts) (h : bZ want names ts = .ok (x, r)) :
  dR (names.length : Int) x = true ∧ ((rt x).2.1 = 0 ∧ (rt x).1 = want) ∧ x.sz ≤ 65537 := by
 obtain ⟨sh, hp, h1, h2⟩ := j8 hT.2.1 h
 have hsz := hp.size _ rfl
 simp only [szJ, Nat.add_zero] at hsz
 exact ⟨hp.may trivial hT.1 rfl _ rfl, ⟨h1, h2⟩, by have := hT.2.2; omega⟩
theorem Nh {names : List Str} {v : Str} (h : ¬ cC names v < 0) : 0 ≤ cC names v ∧ cC names v < names.length := by
 unfold cC at h ⊢
 cases ha : at_ names v with
 | none => rw [ha] at h; simp at h
 | some i => have := M7 ha; simp only; omega
theorem Hl {names : List Str} : ∀ (f : Nat) (acc : List (Int × Ex)) (ts : List Tok) (p : List (Int × Ex) × List Tok), gb ts → cK names f acc ts = .ok p →
  (∀ s ∈ acc, Cc names.length s) → acc.Pairwise (fun a b => a.1 ≠ b.1) → acc.length + ts.length ≤ 65537 → (∀ s ∈ p.1, Cc names.length s) ∧ p.1.Pairwise (fun a b => a.1 ≠ b.1) ∧ p.1.length ≤ 65537 ∧ 1 ≤ p.1.length := by
 intro f
 induction f with
 | zero => intro _ _ _ _ h; simp [cK] at h
 | succ f ih =>
  intro acc ts p hT h hacc hpw hlen
  obtain ⟨t, r, rfl⟩ := hT.2.1.ne
  have he := hT.2.1
  simp only [cK] at h
  cases h1 : (t.1 != 1)
  case true => rw [h1] at h; cases h
  rw [h1] at h
  simp only [cond_false] at h
  cases h2 : (decide (cC names t.2.1 < 0) || nU acc (cC names t.2.1))
  case true => rw [h2] at h; cases h
  rw [h2] at h
  simp only [cond_false] at h
  have ht : t.1 = 1 := by simpa using h1
  have he1 := he.tail (by omega)
  simp only [Bool.or_eq_false_iff, decide_eq_false_iff_not] at h2
  cases h3 : aV [61] r with
  | error e => rw [h3] at h; cases h
  | ok r1 =>
   rw [h3] at h
   simp only at h
   have s1 := gw he1 h3
   have s1l := s1.2
   have hTr : gb r := ⟨fun t' h' => hT.1 t' (List.mem_cons_of_mem _ h'), he1, by have := hT.2.2; simp only [List.length_cons] at this; omega⟩
   have hT1 : gb r1 := hTr.of s1 (lI h3)
   cases h4 : bZ 1 names r1 with
   | error e => rw [h4] at h; cases h
   | ok q =>
    obtain ⟨x, r2⟩ := q
    rw [h4] at h
    simp only at h
    have s2 : ct r1 r2 := (j8 s1.1 h4).1
    have s2l := s2.2
    have hT2 : gb r2 := hT1.of s2 (vB s1.1 h4)
    obtain ⟨g1, g2, g3⟩ := A7 hT1 h4
    have hi := Nh h2.1
    have hnew : ∀ s ∈ acc ++ [(cC names t.2.1, x)], Cc names.length s := fun s hs => by
     rcases List.mem_append.1 hs with hs | hs
     ·exact hacc s hs
     ·rw [List.mem_singleton.1 hs]; exact ⟨hi, g1, g2, g3⟩
    have hpw' : (acc ++ [(cC names t.2.1, x)]).Pairwise (fun a b => a.1 ≠ b.1) := by
     rw [List.pairwise_append]
     refine ⟨hpw, List.pairwise_singleton _ _, fun a ha b hb => ?_⟩
     rw [List.mem_singleton.1 hb]
     intro e
     have : nU acc (cC names t.2.1) = true := by
      unfold nU
      rw [List.any_eq_true]
      exact ⟨a, ha, by simpa using e⟩
     rw [this] at h2; cases h2.2
    simp only [List.length_cons] at hlen
    cases h5 : isH 3 [44] r2
    ·rw [h5] at h
     cases h
     exact ⟨hnew, hpw', by simp; omega, by simp⟩
    ·rw [h5] at h
     simp only [cond_true] at h
     obtain ⟨e1, e2⟩ := iu s2.1 (by decide) h5
     have hT3 : gb r2.tail := ⟨fun t' h' => hT2.1 t' ((List.tail_suffix _).mem h'), e1, by have := hT2.2.2; omega⟩
     exact ih _ _ _ hT3 h hnew hpw' (by simp; omega)
theorem IX {m : Mdl} {ts : List Tok} {p : Mdl × List Tok} (hT : gb ts) (hm : Part m) (h : gO m ts = .ok p) : Part p.1 ∧ gb p.2 ∧ p.2.length < ts.length := by
 obtain ⟨sh, g, r1, r2, sets, r3, h256, h1, hE2, h3, hp, q2, q4⟩ := Ak hT.2.1 h
 have s1 : ct ts r1 := (j8 hT.2.1 h1).1
 have hT1 : gb r1 := hT.of s1 (vB hT.2.1 h1)
 have s2 := gw s1.1 q2
 have hT2 : gb r2 := hT1.of s2 (lI q2)
 have s3 : ct r2 r3 := EC _ _ _ _ s2.1 h3
 have hT3 : gb r3 := hT2.of s3 (Jn _ _ _ _ s2.1 h3)
 have s4 := gw s3.1 q4
 have hT4 : gb p.2 := hT3.of s4 (lI q4)
 obtain ⟨g1, g2, g3⟩ := A7 hT h1
 obtain ⟨t1, t2, t3, t4⟩ := Hl _ _ _ _ hT2 h3 (fun s hs => by cases hs) List.Pairwise.nil (by have := hT2.2.2; simpa using this)
 refine ⟨?_, hT4, by have := s1.2; have := s2.2; have := s3.2; have := s4.2; omega⟩
 rw [hp]
 refine ⟨hm.names, hm.schema, hm.init, hm.fields, hm.first, by simp; omega, fun c hc => ?_⟩
 rcases List.mem_append.1 hc with hc | hc
 ·exact hm.cmd c hc
 ·rw [List.mem_singleton.1 hc]
  exact ⟨g1, g2, g3, t1, t4, t3, t2⟩
theorem H4 : ∀ (f : Nat) (m : Mdl) (ts : List Tok) (p : Mdl × List Tok), gb ts → Part m → fY f m ts = .ok p → Part p.1 ∧ gb p.2 := by
 intro f
 induction f with
 | zero => intro _ _ _ _ _ h; simp [fY] at h
 | succ f ih =>
  intro m ts p hT hm h
  simp only [fY] at h
  cases hc : isH 3 [125] ts
  ·rw [hc] at h
   simp only [cond_false] at h
   cases h1 : gO m ts with
   | error e => rw [h1] at h; cases h
   | ok q =>
    obtain ⟨m', r⟩ := q
    rw [h1] at h
    simp only at h
    obtain ⟨g1, g2, _⟩ := IX hT hm h1
    exact ih m' r p g2 g1 h
  ·rw [hc] at h
   cases h
   obtain ⟨h1, h2⟩ := iu hT.2.1 (by decide) hc
   exact ⟨hm, fun t ht => hT.1 t ((List.tail_suffix _).mem ht), h1, by have := hT.2.2; show ts.tail.length ≤ _; omega⟩
theorem H5 {m : Mdl} {ts : List Tok} {p : Mdl × List Tok} (hT : gb ts) (hm : Part m) (h : kV m ts = .ok p) : Part p.1 ∧ gb p.2 := by
 unfold kV at h
 cases h1 : cU false m.1 m.2.2.2.1 ts with
 | error e => rw [h1] at h; cases h
 | ok q1 =>
  obtain ⟨name, r1⟩ := q1
  rw [h1] at h
  simp only at h
  have s1 : ct ts r1 := (xH hT.2.1 h1).1
  have hT1 : gb r1 := hT.of s1 (A0 h1)
  cases h2 : aV [123] r1 with
  | error e => rw [h2] at h; cases h
  | ok r2 =>
   rw [h2] at h
   simp only at h
   have s2 := gw s1.1 h2
   exact H4 _ (m.1, m.2.1, m.2.2.1, m.2.2.2.1 ++ [name], m.2.2.2.2) _ _ (hT1.of s2 (lI h2)) ⟨hm.names, hm.schema, hm.init, hm.fields, hm.first, hm.cmds, hm.cmd⟩ h
theorem MH {m : Mdl} {ts : List Tok} {p : Mdl × List Tok} (h : jk m ts = .ok p) : p.2 <:+ ts := by
 unfold jk at h
 cases h1 : cU (decide (16 ≤ (m.1.length : Int))) m.1 m.2.2.2.1 ts with
 | error e => rw [h1] at h; cases h
 | ok q1 =>
  obtain ⟨name, ts1⟩ := q1
  rw [h1] at h
  simp only at h
  have s1 : ts1 <:+ ts := A0 h1
  cases h2 : dh ts1 with
  | error e => rw [h2] at h; cases h
  | ok q2 =>
   obtain ⟨lo, ts2⟩ := q2
   rw [h2] at h
   simp only at h
   have s2 : ts2 <:+ ts1 := xz h2
   cases h3 : dh ts2 with
   | error e => rw [h3] at h; cases h
   | ok q3 =>
    obtain ⟨hi, ts3⟩ := q3
    rw [h3] at h
    simp only at h
    have s3 : ts3 <:+ ts2 := xz h3
    cases h4 : dh ts3 with
    | error e => rw [h4] at h; cases h
    | ok q4 =>
     obtain ⟨first, ts4⟩ := q4
     rw [h4] at h
     simp only at h
     have s4 : ts4 <:+ ts3 := xz h4
     cases h5 : aV [59] ts4 with
     | error e => rw [h5] at h; cases h
     | ok ts5 =>
      rw [h5] at h
      simp only at h
      have s5 := lI h5
      cases h6 : (!(kh lo hi) || decide (first < lo) || decide (hi < first))
      ·rw [h6] at h
       cases h
       exact (((s5.trans s4).trans s3).trans s2).trans s1
      ·rw [h6] at h; cases h
theorem Iw {m : Mdl} {ts : List Tok} {p : Mdl × List Tok} (hT : gb ts) (hm : Part m) (h : jk m ts = .ok p) : Part p.1 ∧ gb p.2 ∧ 1 ≤ p.1.1.length := by
 obtain ⟨sh, name, lo, hi, first, hp, hr, h1, h2, h16, _⟩ := Gj hT.2.1 h
 refine ⟨?_, hT.of sh (MH h), by rw [hp]; simp⟩
 rw [hp]
 have hs := hm.schema
 have hi' := hm.init
 refine ⟨by simp; omega, by simp [hs], by simp [hi'], fun f hf => ?_, fun i f v hf hv => ?_, hm.cmds, fun c hc => (hm.cmd c hc).le (by simp)⟩
 ·rcases List.mem_append.1 hf with hf | hf
  ·exact hm.fields f hf
  ·rw [List.mem_singleton.1 hf]; exact JS hr
 ·simp only at hf hv
  rcases Nat.lt_or_ge i m.2.1.length with hlt | hge
  ·rw [List.getElem?_append_left hlt] at hf
   rw [List.getElem?_append_left (by omega)] at hv
   exact hm.first i f v hf hv
  ·rw [List.getElem?_append_right hge] at hf
   rw [List.getElem?_append_right (by omega)] at hv
   rw [show i - m.2.2.1.length = i - m.2.1.length by omega] at hv
   cases hd : i - m.2.1.length with
   | zero =>
    rw [hd] at hf hv
    simp only [List.getElem?_cons_zero, Option.some.injEq] at hf hv
    subst hf; subst hv
    exact ⟨h1, h2⟩
   | succ k => rw [hd] at hf; simp at hf
theorem FB : ∀ (f : Nat) (m : Mdl) (ts : List Tok) (p : Mdl), gb ts → Part m → iZ f m ts = .ok p → Wf p := by
 intro f
 induction f with
 | zero => intro _ _ _ _ _ h; simp [iZ] at h
 | succ f ih =>
  intro m ts p hT hm h
  obtain ⟨t, r, rfl⟩ := hT.2.1.ne
  have he := hT.2.1
  simp only [iZ] at h
  cases c4 : (t.1 == 4)
  ·rw [c4] at h
   simp only [cond_false] at h
   have hTr : gb r := ⟨fun t' h' => hT.1 t' (List.mem_cons_of_mem _ h'), he.tail (by simpa using c4), by have := hT.2.2; simp only [List.length_cons] at this; omega⟩
   cases cv : isT 1 [118, 97, 114] t
   ·rw [cv] at h
    simp only [cond_false] at h
    cases cp : isT 1 [112, 114, 111, 99] t
    ·rw [cp] at h; cases h
    ·rw [cp] at h
     simp only [cond_true] at h
     cases h1 : kV m r with
     | error e => rw [h1] at h; cases h
     | ok q =>
      obtain ⟨m', r'⟩ := q
      rw [h1] at h
      simp only at h
      obtain ⟨g1, g2⟩ := H5 hTr hm h1
      exact ih m' r' p g2 g1 h
   ·rw [cv] at h
    simp only [cond_true] at h
    cases h1 : jk m r with
    | error e => rw [h1] at h; cases h
    | ok q =>
     obtain ⟨m', r'⟩ := q
     rw [h1] at h
     simp only at h
     obtain ⟨g1, g2, _⟩ := Iw hTr hm h1
     exact ih m' r' p g2 g1 h
  ·rw [c4] at h
   simp only [cond_true] at h
   cases hne : m.1.isEmpty
   ·rw [hne] at h
    cases h
    refine ⟨hm, ?_⟩
    cases hm1 : m.1 with
    | nil => rw [hm1] at hne; simp at hne
    | cons x r => simp
   ·rw [hne] at h; cases h
theorem Jm {text : Str} {m : Mdl} (h : yj text = .ok m) : Wf m := by
 unfold yj at h
 split at h
 ·cases h
 ·rename_i hl
  cases hx : Lx.lex text with
  | error e => rw [hx] at h; cases h
  | ok l =>
   rw [hx] at h
   have hg := DP hx
   exact FB _ _ _ _ ⟨hg.num, hg.ends, by have := hg.len; omega⟩ ⟨by simp, rfl, rfl, (fun f hf => by cases hf), (fun i f v hf => by simp at hf), by simp, (fun c hc => by cases hc)⟩ h
end Sy
end Go.Proofs.YtpnogcmollnjeaaGreatDoor
namespace Go.Proofs.YtpnogcmollnjeaaGreatDoor
namespace Ls
/-! formulas -/
noncomputable def tJ (e : Ex) : Bool := ((ty e).2.1 == 0) && ((ty e).1 == 2)
structure Fm (vars : Int) (e : Ex) : Prop where
 may : dR vars e = true
 ok : (ty e).2.1 = 0
 ne : (ty e).1 ≠ 1
 sz : e.sz < 4611686018427387904
theorem w8 {op a : Int} {i b t : Bool} (h : (mo op a i b t).1 = 3) : 15 ≤ op ∧ t = true := by
 unfold mo at h
 cases h1 : decide (op ≤ 6) && i <;> rw [h1] at h
 ·cases h2 : decide (6 < op) && decide (op ≤ 12) && i || op == 13 || op == 14 || decide (15 ≤ op) && decide (op ≤ 19) && b <;> rw [h2] at h
  ·cases h3 : decide (15 ≤ op) && t <;> rw [h3] at h
   ·cases h
   ·simpa using h3
  ·cases h
 ·cases h
theorem Bm {op a : Int} : ∀ {l : List Ex} {i b t : Bool}, (tyA op a l i b t).1 = 3 → 15 ≤ op ∧ t = true ∧ ∀ x ∈ l, (ty x).2.1 = 0 ∧ (ty x).1 ≠ 1
 | [], i, b, t, h => ⟨(w8 h).1, (w8 h).2, fun x hx => by cases hx⟩
 | y :: r, i, b, t, h => by
  simp only [tyA] at h
  cases h1 : (ty y).2.1 != 0
  ·rw [h1, cond_false] at h
   obtain ⟨h2, h3, h4⟩ := Bm h
   simp only [Bool.and_eq_true, bne_iff_ne, ne_eq] at h3
   refine ⟨h2, h3.1, fun x hx => ?_⟩
   rcases List.mem_cons.1 hx with rfl | hx
   ·exact ⟨by simpa using h1, h3.2⟩
   ·exact h4 x hx
  ·rw [h1, cond_true] at h; cases h
theorem Fm.three {vars : Int} {e : Ex} (h : Fm vars e) (hl : tJ e = false) : (ty e).1 = 3 := by
 rcases JP e h.ok with k | k | k
 ·exact absurd k h.ne
 ·unfold tJ at hl; rw [h.ok, k] at hl; cases hl
 ·exact k
structure Qo (vars : Int) (e : Ex) : Prop where
 lo : 15 ≤ e.op
 hi : e.op ≤ 24
 len : (e.l.length : Int) = fO e.op
 fm : ∀ x ∈ e.l, Fm vars x
theorem Fm.parts {vars : Int} {e : Ex} (h : Fm vars e) (hl : tJ e = false) : Qo vars e := by
 have h3 := h.three hl
 rw [Cr] at h3
 obtain ⟨a1, _, a2⟩ := Bm h3
 obtain ⟨b1, b2, _, _, b5⟩ := Be h.may
 exact ⟨a1, b1.2, b2, fun x hx => ⟨b5 x hx, (a2 x hx).1, (a2 x hx).2, by have := iK hx; have := h.sz; omega⟩⟩
theorem Pk {e : Ex} (h : e.sz < 4611686018427387904) : sR e = some (tJ e) := by
 unfold sR
 rw [N5 e h, ai]
 rfl
/-! rows -/
noncomputable def row (n : Nat) (g : Nat → Bool) : List Bool := (List.range n).map g
noncomputable def rd (r : List Bool) (i : Nat) : Bool := r.getD i false
theorem bQ {n : Nat} {g : Nat → Bool} : (row n g).length = n := by simp [row]
theorem oy {n i : Nat} {g : Nat → Bool} (h : i < n) : rd (row n g) i = g i := by
 simp [rd, row, List.getD, h]
theorem J1 {n : Nat} {g : Nat → Bool} : row (n + 1) g = row n g ++ [g n] := by simp [row, List.range_succ]
theorem Pj {n : Nat} {r : List Bool} (h : r.length = n) : row n (rd r) = r := by
 apply List.ext_getElem
 ·rw [bQ, h]
 ·intro i h1 h2
  simp [row, rd, List.getD, h2]
theorem eX {r : List Bool} {i : Nat} (h : i < r.length) : idx r (i : Int) = some (rd r i) := by
 unfold idx rd
 rw [if_pos (by omega), show ((i : Int)).toNat = i from rfl, List.getD, List.getElem?_eq_getElem h]
 rfl
noncomputable def ju (n : Int) (c : Int → Option Bool) (again : List Bool × Int → Option (List Bool)) (s : List Bool × Int) : Option (List Bool) :=
 bif decide (s.2 < (List.length (List.replicate (Int.toNat n) false) : Int)) then (c s.2).bind fun r => (idx s.1 s.2).bind fun _ => again (List.set s.1 (Int.toNat s.2) r, IntKind.i64.wrap (s.2 + 1)) else some s.1
theorem FL (n : Nat) (hn : n < 1000000) (c : Int → Option Bool) (g : Nat → Bool) (hc : ∀ i, i < n → c (i : Int) = some (g i)) :
  ∀ (k i : Nat) (l : List Bool) (M : Nat), i + k = n → l.length = n → l.take i = row i g → k < M → al (ju (n : Int) c) M (l, (i : Int)) = some (row n g)
 | 0, i, l, M, hi, hl, ht, hM => by
  obtain ⟨m, rfl⟩ : ∃ m, M = m + 1 := ⟨M - 1, by omega⟩
  obtain rfl : i = n := by omega
  rw [ao, ju]
  simp only [List.length_replicate, Int.toNat_natCast, Int.lt_irrefl, decide_false, cond_false]
  rw [← ht, List.take_of_length_le (by omega)]
 | k + 1, i, l, M, hi, hl, ht, hM => by
  obtain ⟨m, rfl⟩ : ∃ m, M = m + 1 := ⟨M - 1, by omega⟩
  rw [ao, ju]
  have h1 : i < l.length := by omega
  simp only [List.length_replicate, Int.toNat_natCast, hc i (by omega), ai, eX h1]
  rw [decide_eq_true (show ((i : Int) < (n : Int)) by omega), cond_true, Pa.bX (show i < 4611686018427387904 by omega)]
  refine FL n hn c g hc k (i + 1) (l.set i (g i)) m (by omega) (by simpa using hl) ?_ (by omega)
  rw [J1, ← ht, List.take_add_one, List.take_set_of_le (Nat.le_refl i)]
  simp [h1]
theorem iW {n : Nat} (hn : n < 1000000) {c : Int → Option Bool} {g : Nat → Bool} (hc : ∀ i, i < n → c (i : Int) = some (g i)) :
  (chk (decide (0 ≤ (n : Int))) <| chk (ay (Int.toNat (n : Int)) 1) <| al (ju (n : Int) c) au (List.replicate (Int.toNat (n : Int)) false, 0)) = some (row n g) := by
 rw [decide_eq_true (show (0 : Int) ≤ (n : Int) by omega), Sy.dE rfl, Sy.dE (Sy.eI (by simp; omega) (by simp; omega))]
 have := FL n hn c g hc n 0 (List.replicate n false) au (by omega) (by simp) (by simp [row]) (by show n < 2 ^ 64; omega)
 exact this
/-! the place behind a place -/
noncomputable def nx (n lp i : Nat) : Nat := if i + 1 = n then lp else i + 1
theorem wC {n lp i : Nat} (h : lp < n) (hi : i < n) : nx n lp i < n := by unfold nx; split <;> omega
theorem Au {V : List (List Int)} {lp i : Nat} (h : i < 1000000) : nz (V, (lp : Int)) (i : Int) = some ((nx V.length lp i : Nat) : Int) := by
 unfold nz nx
 rw [Pa.bX (show i < 4611686018427387904 by omega)]
 by_cases h1 : i + 1 = V.length
 ·rw [if_pos h1, show (((i + 1 : Nat) : Int) == (List.length V : Int)) = true by rw [h1]; simp, cond_true]
 ·rw [if_neg h1, show (((i + 1 : Nat) : Int) == (List.length V : Int)) = false by simp; omega, cond_false]
/-! until it stays -/
noncomputable def bA (f : List Bool → List Bool) : Nat → List Bool → List Bool
 | 0, on => on
 | K + 1, on => if on = f on then on else bA f K (f on)
theorem yQ {f : List Bool → List Bool} {n : Nat} (hf : ∀ on, (f on).length = n) : ∀ (K : Nat) (on : List Bool), on.length = n → (bA f K on).length = n
 | 0, on, h => h
 | K + 1, on, h => by
  unfold bA
  split
  ·exact h
  ·exact yQ hf K _ (hf on)
noncomputable def oN (r : List Bool) : Nat := r.countP id
theorem sL (r : List Bool) : oN r ≤ r.length := List.countP_le_length
noncomputable def Le (a b : List Bool) : Prop := ∀ i, rd a i = true → rd b i = true
theorem vV : ∀ {a b : List Bool}, a.length = b.length → Le a b → oN a ≤ oN b ∧ (a ≠ b → oN a < oN b)
 | [], [], _, _ => ⟨Nat.le_refl _, fun h => absurd rfl h⟩
 | [], _ :: _, h, _ => by simp at h
 | _ :: _, [], h, _ => by simp at h
 | x :: a, y :: b, h, hle => by
  obtain ⟨h1, h2⟩ := vV (a := a) (b := b) (by simpa using h) (fun i hi => by have := hle (i + 1) (by simpa [rd, List.getD] using hi); simpa [rd, List.getD] using this)
  have h0 := hle 0
  simp only [rd, List.getD, List.getElem?_cons_zero, Option.getD_some] at h0
  unfold oN at *
  rw [List.countP_cons, List.countP_cons]
  cases x <;> cases y
  ·simp only [id, Bool.false_eq_true, if_false]
   exact ⟨by omega, fun hne => by have := h2 (fun e => hne (by rw [e])); omega⟩
  ·simp only [id, Bool.false_eq_true, if_false, if_true]
   exact ⟨by omega, fun _ => by omega⟩
  ·exact absurd (h0 rfl) (by simp)
  ·simp only [id, if_true]
   exact ⟨by omega, fun hne => by have := h2 (fun e => hne (by rw [e])); omega⟩
theorem xZ {n : Nat} {f : List Bool → List Bool} {G : (List Bool → Option (List Bool)) → List Bool → Option (List Bool)} (hG : ∀ again on, on.length = n → G again on = bif !(on == f on) then again (f on) else some on)
  (hf : ∀ on, (f on).length = n) {inv : List Bool → Prop} {μ : List Bool → Nat} (hi : ∀ on, on.length = n → inv on → inv (f on) ∧ (on ≠ f on → μ (f on) < μ on)) :
  ∀ (K M : Nat) (on : List Bool), on.length = n → inv on → μ on < K → μ on < M → al G M on = some (bA f K on)
 | 0, M, on, h, hin, hK, hM => by omega
 | K + 1, M, on, h, hin, hK, hM => by
  obtain ⟨m, rfl⟩ : ∃ m, M = m + 1 := ⟨M - 1, by omega⟩
  rw [ao, hG _ on h, bA]
  by_cases e : on = f on
  ·rw [if_pos e, show (on == f on) = true by rw [← e]; simp]; rfl
  ·rw [if_neg e, show (on == f on) = false by simpa using e]
   obtain ⟨h1, h2⟩ := hi on h hin
   have := h2 e
   exact xZ hG hf hi K m (f on) (hf on) h1 (by omega) (by omega)
theorem BB (a b : List Bool) (hl : a.length = b.length) (ha : a.length < 1000000000) : ∀ (r pre s : List Bool), a = pre ++ r → b = pre ++ s → ∀ M, r.length < M → al (cJ a b) M (pre.length : Int) = some (r == s)
 | [], pre, s, h, h2, M, hM => by
  obtain ⟨m, rfl⟩ : ∃ m, M = m + 1 := ⟨M - 1, by simp at hM; omega⟩
  rw [ao]
  have : s = [] := List.eq_nil_of_length_eq_zero (by rw [h, h2] at hl; simp only [List.length_append, List.length_nil] at hl; omega)
  subst this
  simp only [cJ, Sy.ku h, cond_false]
  rfl
 | x :: r, pre, [], h, h2, M, hM => by rw [h, h2] at hl; simp at hl
 | x :: r, pre, y :: s, h, h2, M, hM => by
  obtain ⟨m, rfl⟩ : ∃ m, M = m + 1 := ⟨M - 1, by omega⟩
  rw [ao]
  have hlen : pre.length + r.length + 1 = a.length := by rw [h]; simp; omega
  simp only [cJ, Sy.iL h, cond_true, Sy.mid h, Sy.mid h2, ai]
  by_cases e : x = y
  ·subst e
   have ih := BB a b hl ha r (pre ++ [x]) s (by rw [h]; simp) (by rw [h2]; simp) m (by simp at hM; omega)
   rw [show ((pre ++ [x]).length : Int) = ((pre.length + 1 : Nat) : Int) by simp] at ih
   rw [show (x != x) = false by simp, cond_false, Pa.bX (show pre.length < 4611686018427387904 by omega), ih]
   simp
  ·rw [show (x != y) = true by simpa using e, cond_true, show ((x :: r) == (y :: s)) = false by simp [e]]
theorem GP {n : Nat} {a b : List Bool} (ha : a.length = n) (hb : b.length = n) (hn : n < 1000000) : cf a b = some (a == b) := by
 unfold cf
 rw [show ((List.length a : Int) != (List.length b : Int)) = false by rw [ha, hb]; simp, cond_false]
 exact BB a b (by omega) (by omega) a [] b rfl rfl au (by show _ < 2 ^ 64; omega)
noncomputable def fa (n lp : Nat) (a b on : List Bool) : List Bool := row n fun i => rd b i || (rd a i && rd on (nx n lp i))
noncomputable def lh (n lp : Nat) (a b on : List Bool) : List Bool := row n fun i => rd b i && (rd a i || rd on (nx n lp i))
noncomputable def qG (n lp : Nat) (a b : List Bool) : List Bool := bA (fa n lp a b) (n + 1) (row n fun _ => false)
noncomputable def xu (n lp : Nat) (a b : List Bool) : List Bool := bA (lh n lp a b) (n + 1) (row n fun _ => true)
theorem ta {n i : Nat} {g : Nat → Bool} (h : ¬ i < n) : rd (row n g) i = false := by simp [rd, row, List.getD, h]
theorem zc {n lp : Nat} {a b on on' : List Bool} (h : Le on on') : Le (fa n lp a b on) (fa n lp a b on') := fun i hi => by
 by_cases hn : i < n
 ·unfold fa at hi ⊢
  rw [oy hn] at hi ⊢
  simp only [Bool.or_eq_true, Bool.and_eq_true] at hi ⊢
  exact hi.imp_right (fun k => ⟨k.1, h _ k.2⟩)
 ·unfold fa at hi; rw [ta hn] at hi; cases hi
theorem EW {n lp : Nat} {a b on on' : List Bool} (h : Le on on') : Le (lh n lp a b on) (lh n lp a b on') := fun i hi => by
 by_cases hn : i < n
 ·unfold lh at hi ⊢
  rw [oy hn] at hi ⊢
  simp only [Bool.or_eq_true, Bool.and_eq_true] at hi ⊢
  exact ⟨hi.1, hi.2.imp_right (fun k => h _ k)⟩
 ·unfold lh at hi; rw [ta hn] at hi; cases hi
section
variable {V : List (List Int)} {lp : Nat} (hn : V.length < 1000000) (hp : lp < V.length)
include hn
theorem s9 {first : Bool} : kT (V.length : Int) first = some (row V.length fun _ => first) := by
 unfold kT
 rw [show tl (V.length : Int) first = ju (V.length : Int) (fun i => qp i first) from rfl]
 exact iW hn (fun i _ => rfl)
theorem s8 {is_ : Bool} : mH is_ (V.length : Int) = some (row V.length fun _ => is_) := by
 unfold mH rX
 rw [show sJ (V.length : Int) is_ = ju (V.length : Int) (fun i => oS i is_) from rfl, iW (g := fun _ => is_) hn (fun i _ => rfl), ai]
include hp
theorem CA {a b : List Bool} (ha : a.length = V.length) (hb : b.length = V.length) : n8 (V, (lp : Int)) a b = some (qG V.length lp a b) := by
 unfold n8 vR qG
 simp only
 rw [s9 hn, ai]
 have hG : ∀ again on, on.length = V.length → qx (V, (lp : Int)) b a V (lp : Int) again on = bif !(on == fa V.length lp a b on) then again (fa V.length lp a b on) else some on := fun again on ho => by
  unfold qx qL
  simp only
  rw [show rB (V.length : Int) on b a V (lp : Int) = ju (V.length : Int) (fun i => mY i on b a V (lp : Int)) from rfl, iW (g := fun i => rd b i || (rd a i && rd on (nx V.length lp i))) hn (fun i hi => ?_), ai]
  ·rw [GP (n := V.length) ho bQ hn, ai]
   rfl
  ·have hx := wC hp hi
   unfold mY mB
   simp only [eX (show i < b.length by omega), eX (show i < a.length by omega), Au (show i < 1000000 by omega), ai, aP, pO]
   cases h1 : rd b i <;> cases h2 : rd a i <;> simp [cd, gG, eX (show nx V.length lp i < on.length by omega)]
 have := xZ (f := fa V.length lp a b) (n := V.length) hG (fun on => bQ) (inv := fun on => Le on (fa V.length lp a b on)) (μ := fun on => V.length - oN on)
  (fun on ho hin => ⟨zc hin, fun hne => by
   have h1 := (vV (b := fa V.length lp a b on) (by rw [ho]; exact bQ.symm) hin).2 hne
   have h2 := sL (fa V.length lp a b on)
   have h3 : (fa V.length lp a b on).length = V.length := bQ
   omega⟩) (V.length + 1) au (row V.length fun _ => false) bQ (fun i hi => by
   by_cases h : i < V.length
   ·rw [oy h] at hi; cases hi
   ·rw [ta h] at hi; cases hi) (by omega) (by show _ < 2 ^ 64; omega)
 rw [this, ai]
theorem Is {a b : List Bool} (ha : a.length = V.length) (hb : b.length = V.length) : kU (V, (lp : Int)) a b = some (xu V.length lp a b) := by
 unfold kU qE xu
 simp only
 rw [s9 hn, ai]
 have hG : ∀ again on, on.length = V.length → my (V, (lp : Int)) b a V (lp : Int) again on = bif !(on == lh V.length lp a b on) then again (lh V.length lp a b on) else some on := fun again on ho => by
  unfold my qi
  simp only
  rw [show rD (V.length : Int) on b a V (lp : Int) = ju (V.length : Int) (fun i => jS i on b a V (lp : Int)) from rfl, iW (g := fun i => rd b i && (rd a i || rd on (nx V.length lp i))) hn (fun i hi => ?_), ai]
  ·rw [GP (n := V.length) ho bQ hn, ai]
   rfl
  ·have hx := wC hp hi
   unfold jS kI
   simp only [eX (show i < b.length by omega), eX (show i < a.length by omega), Au (show i < 1000000 by omega), ai, aP, pO]
   cases h1 : rd b i <;> cases h2 : rd a i <;> simp [cd, gG, eX (show nx V.length lp i < on.length by omega)]
 have := xZ (f := lh V.length lp a b) (n := V.length) hG (fun on => bQ) (inv := fun on => Le (lh V.length lp a b on) on) (μ := fun on => oN on)
  (fun on ho hin => ⟨EW hin, fun hne => (vV (a := lh V.length lp a b on) (by rw [ho]; exact bQ) hin).2 (fun e => hne e.symm)⟩) (V.length + 1) au (row V.length fun _ => true) bQ (fun i hi => by
   by_cases h : i < V.length
   ·rw [oy h]
   ·unfold lh at hi; rw [ta h] at hi; cases hi) (by
    have := sL (row V.length fun _ => true)
    rw [bQ] at this
    omega) (by
    have := sL (row V.length fun _ => true)
    rw [bQ] at this
    show _ < 2 ^ 64; omega)
 rw [this, ai]
end
/-! what a formula says of each place -/
noncomputable def comb (n lp : Nat) (op : Int) (a b : List Bool) : List Bool :=
 if op = 15 then row n fun i => !rd a i
 else if op = 16 then row n fun i => rd a i && rd b i
 else if op = 17 then row n fun i => rd a i || rd b i
 else if op = 18 then row n fun i => !rd a i || rd b i
 else if op = 19 then row n fun i => rd a i == rd b i
 else if op = 20 then row n fun i => rd a (nx n lp i)
 else if op = 21 then qG n lp (row n fun _ => true) a
 else if op = 22 then xu n lp (row n fun _ => false) a
 else if op = 23 then qG n lp a b
 else xu n lp a b
theorem J2 {n lp : Nat} {op : Int} {a b : List Bool} : (comb n lp op a b).length = n := by
 unfold comb
 repeat' split
 all_goals first | exact bQ | exact yQ (fun _ => bQ) _ _ bQ
mutual
noncomputable def sm (V : List (List Int)) (lp : Nat) : Ex → List Bool
 | .mk op n a l => bif tJ (.mk op n a l) then V.map (fun v => ev v (.mk op n a l) == 1) else comb V.length lp op (sm0 V lp l) (sm1 V lp l)
noncomputable def sm0 (V : List (List Int)) (lp : Nat) : List Ex → List Bool
 | [] => []
 | x :: _ => sm V lp x
noncomputable def sm1 (V : List (List Int)) (lp : Nat) : List Ex → List Bool
 | [] => []
 | _ :: r => sm0 V lp r
end
theorem Cg (V : List (List Int)) (lp : Nat) (e : Ex) : sm V lp e = bif tJ e then V.map (fun v => ev v e == 1) else comb V.length lp e.op (sm0 V lp e.l) (sm1 V lp e.l) := by
 cases e; simp only [sm, Ex.op, Ex.l]
theorem zj (V : List (List Int)) (lp : Nat) (e : Ex) : (sm V lp e).length = V.length := by
 rw [Cg]
 cases tJ e
 ·exact J2
 ·simp
theorem MW {V : List (List Int)} {lp : Nat} (hn : V.length < 1000000) (hp : lp < V.length) {e : Ex} {a b : List Bool} (ha : a.length = V.length) (hb : b.length = V.length ∨ e.op = 15 ∨ e.op = 20 ∨ e.op = 21 ∨ e.op = 22) :
  oX e (V, (lp : Int)) a b = some (comb V.length lp e.op a b) := by
 unfold oX comb
 simp only
 by_cases h15 : e.op = 15
 ·rw [if_pos h15, show (e.op == 15) = true by simpa using h15, cond_true]
  unfold sa
  rw [show sO (V.length : Int) a = ju (V.length : Int) (fun i => pI i a) from rfl, iW (g := fun i => !rd a i) hn (fun i hi => by unfold pI; rw [eX (by omega), ai]), ai]
 rw [if_neg h15, show (e.op == 15) = false by simpa using h15, cond_false]
 by_cases h16 : e.op = 16
 ·have hb : b.length = V.length := by omega
  rw [if_pos h16, show (e.op == 16) = true by simpa using h16, cond_true]
  unfold sk
  rw [show tf (V.length : Int) a b = ju (V.length : Int) (fun i => px i a b) from rfl, iW (g := fun i => rd a i && rd b i) hn (fun i hi => by
   unfold px
   simp only [eX (show i < a.length by omega), eX (show i < b.length by omega), ai, aP, pO]
   cases rd a i <;> rfl), ai]
 rw [if_neg h16, show (e.op == 16) = false by simpa using h16, cond_false]
 by_cases h17 : e.op = 17
 ·have hb : b.length = V.length := by omega
  rw [if_pos h17, show (e.op == 17) = true by simpa using h17, cond_true]
  unfold sq
  rw [show sW (V.length : Int) a b = ju (V.length : Int) (fun i => pb i a b) from rfl, iW (g := fun i => rd a i || rd b i) hn (fun i hi => by
   unfold pb
   simp only [eX (show i < a.length by omega), eX (show i < b.length by omega), ai, aP, pO]
   cases rd a i <;> rfl), ai]
 rw [if_neg h17, show (e.op == 17) = false by simpa using h17, cond_false]
 by_cases h18 : e.op = 18
 ·have hb : b.length = V.length := by omega
  rw [if_pos h18, show (e.op == 18) = true by simpa using h18, cond_true]
  unfold sb
  rw [show tE (V.length : Int) a b = ju (V.length : Int) (fun i => pD i a b) from rfl, iW (g := fun i => !rd a i || rd b i) hn (fun i hi => by
   unfold pD
   simp only [eX (show i < a.length by omega), eX (show i < b.length by omega), ai, aP, pO]
   cases rd a i <;> rfl), ai]
 rw [if_neg h18, show (e.op == 18) = false by simpa using h18, cond_false]
 by_cases h19 : e.op = 19
 ·have hb : b.length = V.length := by omega
  rw [if_pos h19, show (e.op == 19) = true by simpa using h19, cond_true]
  unfold su
  rw [show tB (V.length : Int) a b = ju (V.length : Int) (fun i => po i a b) from rfl, iW (g := fun i => rd a i == rd b i) hn (fun i hi => by
   unfold po
   simp only [eX (show i < a.length by omega), eX (show i < b.length by omega), ai]), ai]
 rw [if_neg h19, show (e.op == 19) = false by simpa using h19, cond_false]
 by_cases h20 : e.op = 20
 ·rw [if_pos h20, show (e.op == 20) = true by simpa using h20, cond_true]
  unfold sg
  rw [show sM (V.length : Int) a V (lp : Int) = ju (V.length : Int) (fun i => py i a V (lp : Int)) from rfl, iW (g := fun i => rd a (nx V.length lp i)) hn (fun i hi => by
   unfold py
   have := wC hp hi
   rw [Au (by omega), ai, eX (by omega), ai]), ai]
 rw [if_neg h20, show (e.op == 20) = false by simpa using h20, cond_false]
 by_cases h21 : e.op = 21
 ·rw [if_pos h21, show (e.op == 21) = true by simpa using h21, cond_true, s8 hn, ai, CA hn hp bQ ha, ai]
 rw [if_neg h21, show (e.op == 21) = false by simpa using h21, cond_false]
 by_cases h22 : e.op = 22
 ·rw [if_pos h22, show (e.op == 22) = true by simpa using h22, cond_true, s8 hn, ai, Is hn hp bQ ha, ai]
 rw [if_neg h22, show (e.op == 22) = false by simpa using h22, cond_false]
 have hb : b.length = V.length := by omega
 by_cases h23 : e.op = 23
 ·rw [if_pos h23, show (e.op == 23) = true by simpa using h23, cond_true, CA hn hp ha hb, ai]
 ·rw [if_neg h23, show (e.op == 23) = false by simpa using h23, cond_false, Is hn hp ha hb, ai]
theorem PA {α : Type} {x : α} {r : List α} : idx (x :: r) 0 = some x := rfl
theorem all_some {vars : Int} {V : List (List Int)} {lp : Nat} (hn : V.length < 1000000) (hp : lp < V.length) : ∀ (N : Nat) (e : Ex), e.sz ≤ N → Fm vars e → al (fun k (s : Ex × List (List Int) × Int) => j3 k s.1 s.2) N (e, (V, (lp : Int))) = some (sm V lp e) := by
 intro N
 induction N with
 | zero => intro e h; have := kP e; omega
 | succ N ih =>
  intro e h hf
  rw [ao]
  show j3 (al (fun k (s : Ex × List (List Int) × Int) => j3 k s.1 s.2) N) e (V, (lp : Int)) = _
  generalize al (fun k (s : Ex × List (List Int) × Int) => j3 k s.1 s.2) N = k at ih
  unfold j3
  rw [Pk hf.sz, ai, Cg]
  cases hl : tJ e
  ·rw [cond_false, cond_false]
   have P := hf.parts hl
   have hlo := P.lo
   have hhi := P.hi
   have hw := P.len
   have hsz := fun x (hx : x ∈ e.l) => iK hx
   have hfm := P.fm
   generalize e.l = L at hw hsz hfm ⊢
   match L, hw, hsz, hfm with
   | [], hw, _, _ =>
    exfalso
    unfold fO at hw
    rw [show ((e.op == 1) || (e.op == 2) || (e.op == 13) || (e.op == 14)) = false by simp; omega, cond_false] at hw
    cases h : (e.op == 6) || (e.op == 15) || (e.op == 20) || (e.op == 21) || (e.op == 22) <;> rw [h] at hw <;> simp at hw
   | [x], hw, hsz, hfm =>
    rw [PA, ai, ih x (by have := hsz x (by simp); omega) (hfm x (by simp)), ai]
    have hop : e.op = 15 ∨ e.op = 20 ∨ e.op = 21 ∨ e.op = 22 := by
     unfold fO at hw
     rw [show ((e.op == 1) || (e.op == 2) || (e.op == 13) || (e.op == 14)) = false by simp; omega, cond_false] at hw
     cases h : (e.op == 6) || (e.op == 15) || (e.op == 20) || (e.op == 21) || (e.op == 22)
     ·rw [h] at hw; simp at hw
     ·simp at h; omega
    simp only [aP]
    rw [show (decide ((1 : Int) < (List.length [x] : Int))) = false by simp, cond_false, MW hn hp (zj V lp x) (.inr hop)]
    rfl
   | x :: y :: r, hw, hsz, hfm =>
    rw [PA, ai, ih x (by have := hsz x (by simp); omega) (hfm x (by simp)), ai]
    simp only [aP]
    rw [show (decide ((1 : Int) < (List.length (x :: y :: r) : Int))) = true by simp; omega, cond_true, show idx (x :: y :: r) 1 = some y from rfl, ai, ih y (by have := hsz y (by simp); omega) (hfm y (by simp)), ai,
     MW hn hp (zj V lp x) (.inl (zj V lp y))]
    rfl
  ·rw [cond_true, cond_true]
   unfold uD
   have hsz := hf.sz
   have hg : ∀ i, i < V.length → mE (i : Int) e.op e.n e.at_ e.l V (lp : Int) = some (rd (V.map fun v => ev v e == 1) i) := fun i hi => by
    unfold mE
    have h1 : idx V (i : Int) = some V[i] := by
     unfold idx
     rw [if_pos (by omega), show ((i : Int)).toNat = i from rfl, List.getElem?_eq_getElem hi]
    rw [h1, ai, Ex.eta, Ao e hsz, ai]
    simp [rd, List.getD, hi]
   simp only
   rw [show xn (V.length : Int) e.op e.n e.at_ e.l V (lp : Int) = ju (V.length : Int) (fun i => mE i e.op e.n e.at_ e.l V (lp : Int)) from rfl, iW hn hg, ai, Pj (by simp)]
theorem Qc {vars : Int} {V : List (List Int)} {lp : Nat} (hn : V.length < 1000000) (hp : lp < V.length) {e : Ex} (h : Fm vars e) : wy e (V, (lp : Int)) = some (sm V lp e) := all_some hn hp au e (by have := h.sz; show _ ≤ 2 ^ 64; omega) h
theorem MD {vars : Int} {V : List (List Int)} {lp : Nat} (hn : V.length < 1000000) (hp : lp < V.length) {e : Ex} (h : Fm vars e) : ox e (V, (lp : Int)) = some (rd (sm V lp e) 0) := by
 unfold ox
 rw [Qc hn hp h, ai]
 have := eX (r := sm V lp e) (i := 0) (by rw [zj]; omega)
 rw [show ((0 : Nat) : Int) = 0 from rfl] at this
 rw [this, ai]
end Ls
end Go.Proofs.YtpnogcmollnjeaaGreatDoor
namespace Go.Proofs.YtpnogcmollnjeaaGreatDoor
theorem GS (name : Str) : eK name = some (kA.contains name) := by
 unfold eK l9 kA
 simp only [List.contains_cons, List.contains_nil, Bool.or_false]
 cases (name == [116, 114, 117, 101])
 case true => rfl
 cases (name == [102, 97, 108, 115, 101])
 case true => rfl
 cases (name == [88])
 case true => rfl
 cases (name == [70])
 case true => rfl
 cases (name == [71])
 case true => rfl
 cases (name == [85])
 case true => rfl
 cases (name == [82])
 case true => rfl
 cases (name == [118, 97, 114])
 case true => rfl
 cases (name == [112, 114, 111, 99]) <;> rfl
end Go.Proofs.YtpnogcmollnjeaaGreatDoor
namespace Go.Proofs.YtpnogcmollnjeaaGreatDoor
namespace Pa
open Job
noncomputable def uw (w : Bool) (x : Str) : Bool := match x with
 | [] => false
 | c :: _ => isLet c == w && kA.contains x == w
theorem CM {t : Tok} (h : dQ t) {x : Str} (hx : uw true x = true) : (sgn t && (x == t.2.1)) = ((t.1 == 1) && (t.2.1 == x)) := by
 obtain ⟨k, y, n, p⟩ := t
 simp only [dQ] at h
 simp only [sgn, key]
 by_cases he : y = x
 ·subst he
  rcases h with ⟨rfl, c, s, hy, hc⟩ | rfl | ⟨rfl, h3⟩ | rfl
  ·subst hy
   simp only [uw, Bool.and_eq_true, beq_iff_eq] at hx
   rw [hx.2]; simp
  ·simp
  ·cases y with
   | nil => cases hx
   | cons c s =>
    simp only [uw, Bool.and_eq_true, beq_iff_eq] at hx
    rw [h3 c s rfl] at hx; cases hx.1
  ·simp
 ·have e1 : (x == y) = false := beq_eq_false_iff_ne.2 (fun e => he e.symm)
  have e2 : (y == x) = false := beq_eq_false_iff_ne.2 he
  rw [e1, e2]; simp
theorem PQ {t : Tok} (h : dQ t) {x : Str} (hx : uw false x = true) : (sgn t && (x == t.2.1)) = ((t.1 == 3) && (t.2.1 == x)) := by
 obtain ⟨k, y, n, p⟩ := t
 simp only [dQ] at h
 simp only [sgn, key]
 by_cases he : y = x
 ·subst he
  rcases h with ⟨rfl, c, s, hy, hc⟩ | rfl | ⟨rfl, h3⟩ | rfl
  ·subst hy
   simp only [uw, Bool.and_eq_true, beq_iff_eq] at hx
   rw [hx.1] at hc; cases hc
  ·simp
  ·simp
  ·simp
 ·have e1 : (x == y) = false := beq_eq_false_iff_ne.2 (fun e => he e.symm)
  have e2 : (y == x) = false := beq_eq_false_iff_ne.2 he
  rw [e1, e2]; simp
noncomputable def eU (t : Tok) : Bool := (t.1 != 2) && (t.1 != 4)
theorem hit {t : Tok} (h : dQ t) {x : Str} {w : Bool} (hx : uw w x = true) : (sgn t && (x == t.2.1)) = (eU t && (t.2.1 == x)) := by
 by_cases he : t.2.1 = x
 ·rcases h with ⟨h1, c, s, hy, hc⟩ | h2 | ⟨h3, h4⟩ | h4
  ·rw [he] at hy
   have hk : kA.contains x = true := by
    subst hy
    simp only [uw, Bool.and_eq_true, beq_iff_eq] at hx
    rw [hx.2, ← hx.1]; exact hc
   have hm : x ∈ kA := by simpa using hk
   simp [sgn, key, eU, h1, he, hm]
  ·simp [sgn, eU, h2]
  ·simp [sgn, eU, h3, he]
  ·simp [sgn, eU, h4]
 ·have e1 : (x == t.2.1) = false := beq_eq_false_iff_ne.2 (fun e => he e.symm)
  have e2 : (t.2.1 == x) = false := beq_eq_false_iff_ne.2 he
  rw [e1, e2]; simp
theorem je (t : Tok) : fnd [] t = none := by unfold fnd; cases sgn t <;> rfl
theorem gC (o : Int) (l : List Int) (t : Tok) : fnd (o :: l) t = bif (sgn t && (aU o == t.2.1)) then some o else fnd l t := by
 unfold fnd
 cases sgn t
 ·rfl
 ·simp only [cond_true, List.find?_cons, Bool.true_and]
  cases aU o == t.2.1 <;> rfl
noncomputable def opt (o : Option Int) : Int := o.getD 0
theorem Rc {t : Tok} (h : dQ t) : bp t 1 = some (opt (bI 1 t)) := by
 have e := hit h (x := aU 19) (w := false) rfl
 simp only [bI, ops, gC, je, e]
 show (bif eU t then (bif (t.2.1 == aU 19) then some 19 else some 0) else some 0) = _
 cases eU t <;> cases (t.2.1 == aU 19) <;> rfl
theorem Rb {t : Tok} (h : dQ t) : bp t 2 = some (opt (bI 2 t)) := by
 have e := hit h (x := aU 18) (w := false) rfl
 simp only [bI, ops, gC, je, e]
 show (bif eU t then (bif (t.2.1 == aU 18) then some 18 else some 0) else some 0) = _
 cases eU t <;> cases (t.2.1 == aU 18) <;> rfl
theorem QI {t : Tok} (h : dQ t) : bp t 3 = some (opt (bI 3 t)) := by
 have e := hit h (x := aU 17) (w := false) rfl
 simp only [bI, ops, gC, je, e]
 show (bif eU t then (bif (t.2.1 == aU 17) then some 17 else some 0) else some 0) = _
 cases eU t <;> cases (t.2.1 == aU 17) <;> rfl
theorem QY {t : Tok} (h : dQ t) : bp t 4 = some (opt (bI 4 t)) := by
 have e := hit h (x := aU 16) (w := false) rfl
 simp only [bI, ops, gC, je, e]
 show (bif eU t then (bif (t.2.1 == aU 16) then some 16 else some 0) else some 0) = _
 cases eU t <;> cases (t.2.1 == aU 16) <;> rfl
theorem QO {t : Tok} (h : dQ t) : bp t 5 = some (opt (bI 5 t)) := by
 have e := hit h (x := aU 23) (w := true) rfl
 have e2 := hit h (x := aU 24) (w := true) rfl
 simp only [bI, ops, gC, je, e, e2]
 show (bif eU t then (bif (t.2.1 == aU 23) then some 23 else (bif (t.2.1 == aU 24) then some 24 else some 0)) else some 0) = _
 cases eU t <;> cases (t.2.1 == aU 23) <;> cases (t.2.1 == aU 24) <;> rfl
theorem Rd {t : Tok} (h : dQ t) : bp t 8 = some (opt (bI 8 t)) := by
 have e := hit h (x := aU 3) (w := false) rfl
 have e2 := hit h (x := aU 4) (w := false) rfl
 simp only [bI, ops, gC, je, e, e2]
 show (bif eU t then (bif (t.2.1 == aU 3) then some 3 else (bif (t.2.1 == aU 4) then some 4 else some 0)) else some 0) = _
 cases eU t <;> cases (t.2.1 == aU 3) <;> cases (t.2.1 == aU 4) <;> rfl
theorem QW {t : Tok} (h : dQ t) : bp t 9 = some (opt (bI 9 t)) := by
 have e := hit h (x := aU 5) (w := false) rfl
 simp only [bI, ops, gC, je, e]
 show (bif eU t then (bif (t.2.1 == aU 5) then some 5 else some 0) else some 0) = _
 cases eU t <;> cases (t.2.1 == aU 5) <;> rfl
theorem QR {t : Tok} (h : dQ t) : bp t 7 = some (opt (bI 7 t)) := by
 have e1 := hit h (x := aU 7) (w := false) rfl
 have e2 := hit h (x := aU 8) (w := false) rfl
 have e3 := hit h (x := aU 9) (w := false) rfl
 have e4 := hit h (x := aU 10) (w := false) rfl
 have e5 := hit h (x := aU 11) (w := false) rfl
 have e6 := hit h (x := aU 12) (w := false) rfl
 simp only [bI, ops, gC, je, e1, e2, e3, e4, e5, e6]
 obtain ⟨m, hm⟩ : ∃ m, au = m + 7 := ⟨18446744073709551609, rfl⟩
 unfold bp
 rw [hm]
 clear hm
 have hq : (ab (t.1 != 2) fun b5 => ab (t.1 != 4) fun b7 => ab (b5 && b7) fun b9 => bif b9 then al (aF t) (m + 7) 0 else some 0) = (bif eU t then al (aF t) (m + 7) 0 else some 0) := rfl
 refine Eq.trans (b := bif eU t then al (aF t) (m + 7) 0 else some 0) rfl ?_
 clear hq
 have s0 : al (aF t) (m + 7) 0 = bif (t.2.1 == aU 7) then some 7 else al (aF t) (m + 6) 1 := rfl
 have s1 : al (aF t) (m + 6) 1 = bif (t.2.1 == aU 8) then some 8 else al (aF t) (m + 5) 2 := rfl
 have s2 : al (aF t) (m + 5) 2 = bif (t.2.1 == aU 9) then some 9 else al (aF t) (m + 4) 3 := rfl
 have s3 : al (aF t) (m + 4) 3 = bif (t.2.1 == aU 10) then some 10 else al (aF t) (m + 3) 4 := rfl
 have s4 : al (aF t) (m + 3) 4 = bif (t.2.1 == aU 11) then some 11 else al (aF t) (m + 2) 5 := rfl
 have s5 : al (aF t) (m + 2) 5 = bif (t.2.1 == aU 12) then some 12 else al (aF t) (m + 1) 6 := rfl
 have s6 : al (aF t) (m + 1) 6 = some 0 := rfl
 rw [s0, s1, s2, s3, s4, s5, s6]
 cases eU t
 ·rfl
 cases (t.2.1 == aU 7)
 case true => rfl
 cases (t.2.1 == aU 8)
 case true => rfl
 cases (t.2.1 == aU 9)
 case true => rfl
 cases (t.2.1 == aU 10)
 case true => rfl
 cases (t.2.1 == aU 11)
 case true => rfl
 cases (t.2.1 == aU 12) <;> rfl
theorem MX {t : Tok} (h : dQ t) {s : Nat} (h1 : 1 ≤ s) (h9 : s ≤ 9) (h6 : s ≠ 6) : bp t (s : Int) = some (opt (bI s t)) := by
 have : s = 1 ∨ s = 2 ∨ s = 3 ∨ s = 4 ∨ s = 5 ∨ s = 7 ∨ s = 8 ∨ s = 9 := by omega
 rcases this with rfl | rfl | rfl | rfl | rfl | rfl | rfl | rfl
 ·exact Rc h
 ·exact Rb h
 ·exact QI h
 ·exact QY h
 ·exact QO h
 ·exact QR h
 ·exact Rd h
 ·exact QW h
theorem ye {s : Nat} {t : Tok} {k : Int} (h : bI s t = some k) : (k == 0) = false := by
 have key : ∀ l : List Int, (l.all fun o => o != 0) = true → fnd l t = some k → (k == 0) = false := fun l hl h => by
  unfold fnd at h
  cases hs : sgn t
  ·rw [hs] at h; cases h
  ·rw [hs] at h
   have := List.mem_of_find?_eq_some h
   have := List.all_eq_true.1 hl k this
   simpa using this
 refine key (ops s) ?_ h
 match s with
 | 0 => rfl
 | 1 => rfl
 | 2 => rfl
 | 3 => rfl
 | 4 => rfl
 | 5 => rfl
 | 6 => rfl
 | 7 => rfl
 | 8 => rfl
 | 9 => rfl
 | 10 => rfl
 | 11 => rfl
 | n + 12 => rfl
/-! what the parser hands back -/
abbrev R4 := Ex × Int × Int × Int
abbrev LF := (Int × Int × List Tok × Int × List Str × Int × Int) → Option R4
noncomputable def RR (l : List Tok) (r : Out) (m : Option R4) : Prop := match r with
 | .ok (x, ts) => ∃ a : Nat, l.drop a = ts ∧ m = some (x, (a : Int), 0, 0)
 | .error (b, p) => ∃ x a, m = some (x, a, b, p)
theorem sZ {names : List Str} {j : Job} {d : Int} {ts : List Tok} {b p : Int} (h : P names j d ts (.error (b, p))) : (b != 0) = true := by
 rcases h.err _ rfl with h | h | h <;> (simp only at h; subst h; rfl)
theorem we {l : List Tok} {a : Nat} {t : Tok} (h : idx l (a : Int) = some t) (b : Int) (names : List Str) (p : Int) : aM b l (a : Int) names 0 p = some (.mk 0 0 0 [], b, t.2.2.2) := by
 unfold aM
 rw [h]; rfl
noncomputable def eZ (names : List Str) (v : Str) (i : Nat) : Option Nat := ((names.drop i).findIdx? (fun x => v == x)).map (· + i)
theorem w9 (names : List Str) (v : Str) : eZ names v 0 = at_ names v := by
 unfold eZ at_
 simp
theorem JZ {l : List Tok} {a : Nat} {t : Tok} {names : List Str} (hn : names.length < 4611686018427387904) (ha : a < 4611686018427387904) (ht : idx l (a : Int) = some t) :
  ∀ (m i M : Nat), names.length - i ≤ m → i ≤ names.length → m < M →
   al (cj l (a : Int) names 0 0 t) M (i : Int) =
    match eZ names t.2.1 i with
    | some j => some (.mk 2 (j : Int) t.2.2.2 [], ((a + 1 : Nat) : Int), 0, 0)
    | none => some (.mk 0 0 0 [], (a : Int), 3, t.2.2.2) := by
 intro m
 induction m with
 | zero =>
  intro i M h1 h2 h3
  obtain ⟨M, rfl⟩ : ∃ k, M = k + 1 := ⟨M - 1, by omega⟩
  have hi : i = names.length := by omega
  subst hi
  rw [ao]
  have e : eZ names t.2.1 names.length = none := by unfold eZ; simp
  rw [e]
  simp only [cj, decide_eq_false (show ¬ ((names.length : Int) < (List.length names : Int)) by omega), cond_false, we ht, ai]
 | succ m ih =>
  intro i M h1 h2 h3
  obtain ⟨M, rfl⟩ : ∃ k, M = k + 1 := ⟨M - 1, by omega⟩
  rw [ao]
  by_cases hi : i < names.length
  ·have hd : names.drop i = names[i] :: names.drop (i + 1) := List.drop_eq_getElem_cons hi
   have hx : idx names (i : Int) = some names[i] := by simp [idx, List.getElem?_eq_getElem hi]
   simp only [cj, decide_eq_true (show ((i : Nat) : Int) < (List.length names : Int) by omega), cond_true, hx, ai, bX ha, bX (show i < 4611686018427387904 by omega)]
   have e : eZ names t.2.1 i = bif (names[i] == t.2.1) then some i else eZ names t.2.1 (i + 1) := by
    unfold eZ
    rw [hd, List.findIdx?_cons]
    have : (t.2.1 == names[i]) = (names[i] == t.2.1) := by
     by_cases h : t.2.1 = names[i]
     ·rw [h]
     ·rw [beq_eq_false_iff_ne.2 h, beq_eq_false_iff_ne.2 (fun e => h e.symm)]
    rw [this]
    cases (names[i] == t.2.1)
    ·simp only [cond_false, Bool.false_eq_true, if_false, Option.map_map]
     congr 1
     funext x
     simp only [Function.comp]; omega
    ·simp
   rw [e]
   cases (names[i] == t.2.1)
   ·simp only [cond_false]
    exact ih (i + 1) M (by omega) (by omega) (by omega)
   ·rfl
  ·have hi : i = names.length := by omega
   subst hi
   have e : eZ names t.2.1 names.length = none := by unfold eZ; simp
   rw [e]
   simp only [cj, decide_eq_false (show ¬ ((names.length : Int) < (List.length names : Int)) by omega), cond_false, we ht, ai]
noncomputable def SR (names : List Str) (l : List Tok) (k : LF) (s : Nat) (d : Int) (a : Nat) : Prop := ∃ r, P names (line s) d (l.drop a) r ∧ RR l r (k ((s : Int), d, l, (a : Int), names, 0, 0))
theorem OZ {names : List Str} (hn : names.length < 4611686018427387904) {l : List Tok} (hl : l.length < 4611686018427387904) (htok : ∀ t ∈ l, dQ t) {k : LF} {d : Int} {a : Nat} (he : Ends (l.drop a))
  (hk : Ends (l.drop (a + 1)) → SR names l k 1 d (a + 1)) : ∃ r, P names (line 11) d (l.drop a) r ∧ RR l r (ca k d l (a : Int) names 0 0) := by
 obtain ⟨t, ts, hts⟩ := he.ne
 obtain ⟨hx, hd1, hlt, hmem⟩ := jE hts
 have hok := htok t hmem
 have ha : a < 4611686018427387904 := by omega
 have eT := CM hok (x := aU 13) rfl
 have eF := CM hok (x := aU 14) rfl
 have h11 : bI 11 t = bif ((t.1 == 1) && (t.2.1 == aU 13)) then some 13 else bif ((t.1 == 1) && (t.2.1 == aU 14)) then some 14 else none := by
  simp only [bI, ops, gC, je, eT, eF]
 rw [hts]
 unfold ca
 simp only [hx, ai, aP, GS, bX ha]
 cases h2 : (t.1 == 2)
 case true =>
  have h1 : (t.1 == 1) = false := by have := beq_iff_eq.1 h2; rw [this]; rfl
  exact ⟨_, .oNum rfl (by rw [h11, h1]; rfl) h2, a + 1, hd1, rfl⟩
 simp only [cond_false]
 cases hT : ((t.1 == 1) && (t.2.1 == aU 13))
 case true =>
  rw [show ((t.1 == 1) && (t.2.1 == [116, 114, 117, 101])) = true from hT]
  exact ⟨_, .oWord rfl (by rw [h11, hT]; rfl), a + 1, hd1, rfl⟩
 rw [show ((t.1 == 1) && (t.2.1 == [116, 114, 117, 101])) = false from hT]
 simp only [cond_false]
 cases hF : ((t.1 == 1) && (t.2.1 == aU 14))
 case true =>
  rw [show ((t.1 == 1) && (t.2.1 == [102, 97, 108, 115, 101])) = true from hF]
  exact ⟨_, .oWord rfl (by rw [h11, hT, hF]; rfl), a + 1, hd1, rfl⟩
 rw [show ((t.1 == 1) && (t.2.1 == [102, 97, 108, 115, 101])) = false from hF]
 simp only [cond_false]
 have hno : bI 11 t = none := by rw [h11, hT, hF]; rfl
 cases hN : ((t.1 == 1) && !(kA.contains t.2.1))
 case true =>
  have hname : pJ t = true := hN
  simp only [cond_true]
  have := JZ hn ha hx names.length 0 au (by omega) (by omega) (by show names.length < 2 ^ 64; omega)
  rw [show ((0 : Nat) : Int) = 0 from rfl, w9] at this
  rw [this]
  cases hat : at_ names t.2.1 with
  | some j => exact ⟨_, .oVar rfl hno h2 hname hat, a + 1, hd1, rfl⟩
  | none => exact ⟨_, .oName rfl hno h2 hname hat, _, _, rfl⟩
 have hname : pJ t = false := hN
 simp only [cond_false]
 cases hO : (((t.1 != 3) || (t.2.1 != [40])) : Bool)
 case true =>
  have hop : open_ t = false := by
   unfold open_
   simp only [Bool.or_eq_true, bne_iff_ne] at hO
   rcases hO with h | h
   ·rw [beq_eq_false_iff_ne.2 h]; rfl
   ·rw [beq_eq_false_iff_ne.2 h, Bool.and_false]
  simp only [cond_true, we hx, ai]
  exact ⟨_, .oForm rfl hno h2 hname hop, _, _, rfl⟩
 have h3 : t.1 = 3 ∧ t.2.1 = [40] := by
  simp only [Bool.or_eq_false_iff, bne_eq_false_iff_eq] at hO
  exact hO
 have hop : open_ t = true := by unfold open_; rw [h3.1, h3.2]; rfl
 have he1 : Ends ts := by rw [hts] at he; exact he.tail (by rw [h3.1]; decide)
 obtain ⟨r, hr, hm⟩ := hk (by rw [hd1]; exact he1)
 rw [hd1] at hr
 simp only [cond_false]
 match r, hr, hm with
 | .error (b, p), hr, ⟨x, a', hm⟩ =>
  have hb := sZ hr
  rw [show ((1 : Nat) : Int) = 1 from rfl] at hm
  rw [hm, ai]
  simp only [hb, cond_true]
  exact ⟨_, .oErr rfl hno h2 hname hop hr, _, _, rfl⟩
 | .ok (x, ts'), hr, ⟨a', ha', hm⟩ =>
  rw [show ((1 : Nat) : Int) = 1 from rfl] at hm
  obtain ⟨he', hsh⟩ := hr.ends he1 _ rfl
  obtain ⟨c, ts2, hc⟩ := he'.ne
  simp only at hc
  subst hc
  obtain ⟨hxc, hdc, hltc, hmemc⟩ := jE ha'
  rw [hm, ai]
  simp only [bne_self_eq_false, cond_false, hxc, ai, bX (show a' < 4611686018427387904 by omega)]
  by_cases hc3 : c.1 = 3
  ·have e3 : (c.1 != 3) = false := by rw [hc3]; rfl
   simp only [e3, Bool.not_false, cd, ai, Bool.false_or]
   cases hcl : (c.2.1 != [41])
   ·have : close_ c = true := by
     unfold close_
     rw [hc3, bne_eq_false_iff_eq.1 hcl]; rfl
    exact ⟨_, .oOpen rfl hno h2 hname hop hr this, a' + 1, hdc, rfl⟩
   ·have : close_ c = false := by
     unfold close_
     rw [beq_eq_false_iff_ne.2 (bne_iff_ne.1 hcl), Bool.and_false]
    simp only [cond_true, we hxc, ai]
    exact ⟨_, .oClose rfl hno h2 hname hop hr this, _, _, rfl⟩
  ·have e3 : (c.1 != 3) = true := bne_iff_ne.2 hc3
   have : close_ c = false := by
    unfold close_
    rw [beq_eq_false_iff_ne.2 hc3]; rfl
   simp only [e3, Bool.not_true, gG, Bool.true_or, cond_true, we hxc, ai]
   exact ⟨_, .oClose rfl hno h2 hname hop hr this, _, _, rfl⟩
end Pa
end Go.Proofs.YtpnogcmollnjeaaGreatDoor
namespace Go.Proofs.YtpnogcmollnjeaaGreatDoor
namespace Pa
open Job
theorem yE (e : Ex) : Ex.mk e.op e.n e.at_ e.l = e := by cases e; rfl
theorem Ga (m : Option R4) : (m.bind fun r => some (r.1, r.2.1, r.2.2.1, r.2.2.2)) = m := by cases m <;> rfl
theorem RR.one {l : List Tok} {r : Out} {m : Option R4} (h : RR l r m) (ko pl : Int) : RR l (Pu ko pl r) (m.bind fun r => some (.mk ko 0 pl [r.1], r.2.1, r.2.2.1, r.2.2.2)) := by
 match r, h with
 | .ok (x, ts), ⟨a, h1, h2⟩ => subst h2; exact ⟨a, h1, rfl⟩
 | .error (b, p), ⟨x, a, h2⟩ => subst h2; exact ⟨_, _, rfl⟩
theorem RR.two {l : List Tok} {r : Out} {m : Option R4} (h : RR l r m) (ko pl : Int) (y : Ex) : RR l (O1 ko pl y r) (m.bind fun r => some (.mk ko 0 pl [y, r.1], r.2.1, r.2.2.1, r.2.2.2)) := by
 match r, h with
 | .ok (x, ts), ⟨a, h1, h2⟩ => subst h2; exact ⟨a, h1, rfl⟩
 | .error (b, p), ⟨x, a, h2⟩ => subst h2; exact ⟨_, _, rfl⟩
theorem IF {s : Nat} (h1 : 1 ≤ s) (h : s ≤ 10) : ga (s : Int) = some (kz s) := by
 have : s = 1 ∨ s = 2 ∨ s = 3 ∨ s = 4 ∨ s = 5 ∨ s = 6 ∨ s = 7 ∨ s = 8 ∨ s = 9 ∨ s = 10 := by omega
 rcases this with rfl | rfl | rfl | rfl | rfl | rfl | rfl | rfl | rfl | rfl <;> rfl
theorem QP {k : LF} {s : Nat} (h1 : 1 ≤ s) (h : s ≤ 10) {d : Int} (h0 : 0 ≤ d) (h3 : d ≤ 320) (l : List Tok) (a : Int) (names : List Str) :
  bH k (s : Int) d l a names 0 0 = eS k (s : Int) l a names 0 0 (kz s) (dn s d) := by
 unfold bH
 simp only [bne_self_eq_false, cond_false, IF h1 h, ai]
 have hw : IntKind.i64.wrap (d + 1) = d + 1 := w64 (by omega)
 unfold dn
 rw [hw]
 cases kz s <;> rfl
theorem NJ (s : Nat) (d : Int) : (kz s && decide (320 < dn s d)) = jw s d := by
 unfold jw dn
 cases kz s
 ·rfl
 ·simp only [cond_true, Bool.true_and]
  by_cases h : 320 ≤ d
  ·rw [decide_eq_true h, decide_eq_true (by omega)]
  ·rw [decide_eq_false h, decide_eq_false (by omega)]
theorem Ql {s : Nat} {d : Int} (h0 : 0 ≤ d) (h3 : d ≤ 320) (hd : jw s d = false) : 0 ≤ dn s d ∧ dn s d ≤ 320 := by
 unfold jw at hd
 unfold dn
 cases hc : kz s
 ·simpa using ⟨h0, h3⟩
 ·rw [hc] at hd
  simp only [Bool.true_and, decide_eq_false_iff_not] at hd
  simp only [cond_true]; omega
section
variable {names : List Str} {l : List Tok} {k : LF} {N : Nat}
variable (hn : names.length < 4611686018427387904) (hl : l.length < 4611686018427387904) (htok : ∀ t ∈ l, dQ t)
variable (hk : ∀ (s : Nat) (d : Int) (a : Nat), 1 ≤ s → s ≤ 10 → 0 ≤ d → d ≤ 320 → Ends (l.drop a) → 12 * (l.drop a).length + (11 - s) < N → SR names l k s d a)
include hn hl htok hk
theorem pre6 {d : Int} {a : Nat} {t : Tok} {ts : List Tok} (hts : l.drop a = t :: ts) (he : Ends (t :: ts)) (h0 : 0 ≤ dn 6 d) (h3 : dn 6 d ≤ 320) (hd : jw 6 d = false) (hN : 12 * (l.drop a).length + 5 < N + 1) :
  ∃ r, P names (line 6) d (t :: ts) r ∧ RR l r (bC k l (a : Int) names 0 0 (dn 6 d) t (bif ((t.1 == 3) && (t.2.1 == [33])) then 15 else 0)) := by
 have _ := hn
 obtain ⟨hx, hd1, hlt, hmem⟩ := jE hts
 have hok := htok t hmem
 have e15 := PQ hok (x := aU 15) rfl
 have e20 := CM hok (x := aU 20) rfl
 have e21 := CM hok (x := aU 21) rfl
 have e22 := CM hok (x := aU 22) rfl
 have hop : bI 6 t = bif ((t.1 == 3) && (t.2.1 == aU 15)) then some 15 else bif ((t.1 == 1) && (t.2.1 == aU 20)) then some 20 else bif ((t.1 == 1) && (t.2.1 == aU 21)) then some 21 else bif ((t.1 == 1) && (t.2.1 == aU 22)) then some 22 else none := by
  simp only [bI, ops, gC, je, e15, e20, e21, e22]
 have hK : bC k l (a : Int) names 0 0 (dn 6 d) t (bif ((t.1 == 3) && (t.2.1 == [33])) then 15 else 0) = eQ k l (a : Int) names 0 0 (dn 6 d) t (opt (bI 6 t)) := by
  rw [hop]
  unfold bC iI iH
  simp only [aP]
  rw [show aU 15 = [33] from rfl, show aU 20 = [88] from rfl, show aU 21 = [70] from rfl, show aU 22 = [71] from rfl]
  by_cases q1 : t.1 = 1
  ·rw [q1]
   by_cases q : t.2.1 = [88]
   ·rw [q]; rfl
   ·by_cases q2 : t.2.1 = [70]
    ·rw [q2]; rfl
    ·by_cases q3 : t.2.1 = [71]
     ·rw [q3]; rfl
     ·rw [beq_eq_false_iff_ne.2 q, beq_eq_false_iff_ne.2 q2, beq_eq_false_iff_ne.2 q3]; rfl
  ·rw [beq_eq_false_iff_ne.2 q1]
   cases ((t.1 == 3) && (t.2.1 == [33])) <;> rfl
 rw [hK]
 unfold eQ
 have hlen : (l.drop a).length = ts.length + 1 := by rw [hts]; rfl
 cases ho : bI 6 t with
 | none =>
  obtain ⟨r, hr, hm⟩ := hk 7 (dn 6 d) a (by omega) (by omega) h0 h3 (by rw [hts]; exact he) (by omega)
  rw [hts] at hr
  refine ⟨r, .other rfl hd ho hr, ?_⟩
  show RR l r ((k (7, dn 6 d, l, (a : Int), names, 0, 0)).bind fun r45 => some (r45.1, r45.2.1, r45.2.2.1, r45.2.2.2))
  rw [Ga]
  exact hm
 | some ko =>
  have hke := ye ho
  have he1 : Ends ts := he.tail (rG ho)
  obtain ⟨r, hr, hm⟩ := hk 6 (dn 6 d) (a + 1) (by omega) (by omega) h0 h3 (by rw [hd1]; exact he1) (by rw [hd1]; omega)
  rw [hd1] at hr
  refine ⟨_, .pre rfl hd ho hr, ?_⟩
  simp only [opt, Option.getD_some, hke, cond_false, bX (show a < 4611686018427387904 by omega)]
  exact hm.one ko t.2.2.2
theorem QA {d : Int} {a : Nat} {t : Tok} {ts : List Tok} (hts : l.drop a = t :: ts) (he : Ends (t :: ts)) (h0 : 0 ≤ dn 10 d) (h3 : dn 10 d ≤ 320) (hd : jw 10 d = false) (hN : 12 * (l.drop a).length + 1 < N + 1) :
  ∃ r, P names (line 10) d (t :: ts) r ∧ RR l r (bif ((t.1 != 3) || (t.2.1 != [45])) then ((ca k (dn 10 d) l (a : Int) names 0 0).bind fun r99 => some (r99.1, r99.2.1, r99.2.2.1, r99.2.2.2))
   else ((k (10, dn 10 d, l, (IntKind.i64.wrap ((a : Int) + 1)), names, 0, 0)).bind fun r106 => some ((Ex.mk 6 0 t.2.2.2 ([r106.1] : List Ex)), r106.2.1, r106.2.2.1, r106.2.2.2))) := by
 obtain ⟨hx, hd1, hlt, hmem⟩ := jE hts
 have hok := htok t hmem
 have e6 := PQ hok (x := aU 6) rfl
 have hop : bI 10 t = bif ((t.1 == 3) && (t.2.1 == aU 6)) then some 6 else none := by
  simp only [bI, ops, gC, je, e6]
 have hlen : (l.drop a).length = ts.length + 1 := by rw [hts]; rfl
 have hb : ((t.1 != 3) || (t.2.1 != [45])) = !((t.1 == 3) && (t.2.1 == aU 6)) := by
  show ((!(t.1 == 3)) || (!(t.2.1 == [45]))) = _
  rw [show aU 6 = [45] from rfl, Bool.not_and]
 rw [hb]
 cases ho : ((t.1 == 3) && (t.2.1 == aU 6))
 ·rw [ho] at hop
  simp only [Bool.not_false, cond_true, Ga]
  obtain ⟨r, hr, hm⟩ := OZ hn hl htok (k := k) (d := dn 10 d) (a := a) (by rw [hts]; exact he) (fun he1 => hk 1 (dn 10 d) (a + 1) (by omega) (by omega) h0 h3 he1 (by rw [hd1]; omega))
  rw [hts] at hr
  exact ⟨r, .other rfl hd hop hr, hm⟩
 ·rw [ho] at hop
  have hop : bI 10 t = some 6 := hop
  have he1 : Ends ts := he.tail (rG hop)
  simp only [Bool.not_true, cond_false, bX (show a < 4611686018427387904 by omega)]
  obtain ⟨r, hr, hm⟩ := hk 10 (dn 10 d) (a + 1) (by omega) (by omega) h0 h3 (by rw [hd1]; exact he1) (by rw [hd1]; omega)
  rw [hd1] at hr
  exact ⟨_, .pre rfl hd hop hr, hm.one 6 t.2.2.2⟩
theorem Iq {s : Nat} (h1 : 1 ≤ s) (h9 : s ≤ 9) (h6 : s ≠ 6) (_hkd : kd s = 2) {D : Int} (h0 : 0 ≤ D) (h3 : D ≤ 320) (hq : ((((s : Int) == 1) || ((s : Int) == 2)) || ((s : Int) == 5)) = false) (hq7 : ((s : Int) == 7) = false) :
  ∀ (n a M : Nat) (x : Ex), (l.drop a).length ≤ n → n < M → Ends (l.drop a) → 12 * (l.drop a).length ≤ N →
   ∃ r, P names (loop s x) D (l.drop a) r ∧ RR l r (al (bF k (s : Int) l names D) M ((a : Int), 0, 0, x.op, x.n, x.at_, x.l)) := by
 have _ := hn
 intro n
 induction n with
 | zero =>
  intro a M x h1 h2 he _
  obtain ⟨t, ts, hts⟩ := he.ne
  rw [hts] at h1; simp at h1
 | succ n ih =>
  intro a M x hln hM he hN
  obtain ⟨M, rfl⟩ : ∃ m, M = m + 1 := ⟨M - 1, by omega⟩
  obtain ⟨t, ts, hts⟩ := he.ne
  obtain ⟨hx, hd1, hlt, hmem⟩ := jE hts
  have hok := htok t hmem
  have hlen : (l.drop a).length = ts.length + 1 := by rw [hts]; rfl
  rw [ao]
  simp only [bF, beq_self_eq_true, cond_true, hx, ai, MX hok h1 h9 h6, aP, hq, cond_false, hq7]
  cases ho : bI s t with
  | none =>
   refine ⟨.ok (x, l.drop a), by rw [hts]; exact .lpEnd ho, a, rfl, ?_⟩
   simp only [opt, Option.getD_none, beq_self_eq_true, cond_true, yE]
  | some ko =>
   have hke := ye ho
   have he1 : Ends ts := by rw [hts] at he; exact he.tail (rG ho)
   have hs1 : IntKind.i64.wrap ((s : Int) + 1) = ((s + 1 : Nat) : Int) := by rw [w64 (by omega)]; omega
   simp only [opt, Option.getD_some, hke, cond_false, bX (show a < 4611686018427387904 by omega), hs1]
   obtain ⟨r, hr, hm⟩ := hk (s + 1) D (a + 1) (by omega) (by omega) h0 h3 (by rw [hd1]; exact he1) (by rw [hd1]; omega)
   rw [hd1] at hr
   match r, hr, hm with
   | .error (b, p), hr, ⟨y, a', hm⟩ =>
    have hb := sZ hr
    have hb0 : (b == 0) = false := by simpa using hb
    rw [hm, ai]
    have hpos : 0 < M := by
     have := hN
     have : 1 ≤ (l.drop a).length := by omega
     omega
    obtain ⟨M, rfl⟩ : ∃ m, M = m + 1 := ⟨M - 1, by omega⟩
    rw [ao]
    simp only [bF, hb0, cond_false]
    rw [hts]
    exact ⟨_, .lpErr ho hr, _, _, rfl⟩
   | .ok (y, ts'), hr, ⟨a', ha', hm⟩ =>
    obtain ⟨he', hsh⟩ := hr.ends he1 _ rfl
    simp only [shorter] at hsh he'
    rw [hm, ai]
    obtain ⟨r2, hr2, hm2⟩ := ih a' M (.mk ko 0 t.2.2.2 [x, y]) (by rw [ha']; omega) (by omega) (by rw [ha']; exact he') (by rw [ha']; omega)
    rw [ha'] at hr2
    refine ⟨r2, by rw [hts]; exact .lpGo ho hr hr2, ?_⟩
    simp only [yE]
    exact hm2
theorem I0 {s : Nat} (h1 : 1 ≤ s) (h10 : s ≤ 10) {d : Int} (h0 : 0 ≤ d) (h3 : d ≤ 320) {a : Nat} (he : Ends (l.drop a)) (hN : 12 * (l.drop a).length + (11 - s) < N + 1) :
  ∃ r, P names (line s) d (l.drop a) r ∧ RR l r (bH k (s : Int) d l (a : Int) names 0 0) := by
 obtain ⟨t, ts, hts⟩ := he.ne
 obtain ⟨hx, hd1, hlt, hmem⟩ := jE hts
 rw [QP h1 h10 h0 h3]
 unfold eS
 simp only [aP, NJ]
 cases hd : jw s d
 case true =>
  rw [hts]
  simp only [cond_true, we hx, ai]
  exact ⟨_, .big hd, _, _, rfl⟩
 obtain ⟨hD0, hD3⟩ := Ql h0 h3 hd
 simp only [cond_false, hx, ai]
 rw [hts] at he
 by_cases h6 : s = 6
 ·subst h6
  have := pre6 hn hl htok hk hts he hD0 hD3 hd (by omega)
  rw [hts]
  obtain ⟨r, hr, hm⟩ := this
  refine ⟨r, hr, ?_⟩
  show RR l r (bif ((t.1 == 3) && (t.2.1 == [33])) then bC k l (a : Int) names 0 0 (dn 6 d) t 15 else bC k l (a : Int) names 0 0 (dn 6 d) t 0)
  cases hb : ((t.1 == 3) && (t.2.1 == [33])) <;> rw [hb] at hm <;> exact hm
 by_cases hs10 : s = 10
 ·subst hs10
  obtain ⟨r, hr, hm⟩ := QA hn hl htok hk hts he hD0 hD3 hd (by omega)
  rw [hts]
  exact ⟨r, hr, hm⟩
 have b6 : ((s : Int) == 6) = false := beq_eq_false_iff_ne.2 (by omega)
 have b10 : ((s : Int) == 10) = false := beq_eq_false_iff_ne.2 (by omega)
 have hs1 : IntKind.i64.wrap ((s : Int) + 1) = ((s + 1 : Nat) : Int) := by rw [w64 (by omega)]; omega
 simp only [b6, b10, cond_false, hs1]
 obtain ⟨r, hr, hm⟩ := hk (s + 1) (dn s d) a (by omega) (by omega) hD0 hD3 (by rw [hts]; exact he) (by omega)
 have hlen : (l.drop a).length = ts.length + 1 := by rw [hts]; rfl
 have hkd : kd s = 1 ∨ kd s = 2 := by
  have : s = 1 ∨ s = 2 ∨ s = 3 ∨ s = 4 ∨ s = 5 ∨ s = 7 ∨ s = 8 ∨ s = 9 := by omega
  rcases this with rfl | rfl | rfl | rfl | rfl | rfl | rfl | rfl <;> simp [kd]
 match r, hr, hm with
 | .error (b, p), hr, ⟨y, a', hm⟩ =>
  have hb := sZ hr
  have hb0 : (b == 0) = false := by simpa using hb
  rw [hm, ai]
  obtain ⟨m, hF⟩ : ∃ m, au = m + 1 := ⟨18446744073709551615, rfl⟩
  rw [hF, ao]
  simp only [bF, hb0, cond_false]
  rcases hkd with h | h
  ·exact ⟨_, .rErr h hd hr, _, _, rfl⟩
  ·refine ⟨.error (b, p), .lErr h (d := d) ?_, _, _, rfl⟩
   have : dn s d = d := by
    have : s = 3 ∨ s = 4 ∨ s = 8 ∨ s = 9 := by
     have : s = 1 ∨ s = 2 ∨ s = 3 ∨ s = 4 ∨ s = 5 ∨ s = 7 ∨ s = 8 ∨ s = 9 := by omega
     rcases this with rfl | rfl | rfl | rfl | rfl | rfl | rfl | rfl <;> simp [kd] at h <;> simp
    rcases this with rfl | rfl | rfl | rfl <;> rfl
   rw [this] at hr; exact hr
 | .ok (x, ts'), hr, ⟨a', ha', hm⟩ =>
  rw [hts] at hr
  obtain ⟨he', hsh⟩ := hr.ends he _ rfl
  simp only [shorter, List.length_cons] at hsh he'
  rw [hm, ai]
  rcases hkd with h | h
  · -- once
   obtain ⟨t2, ts2, ht2⟩ := he'.ne
   subst ht2
   obtain ⟨hx2, hd2, hlt2, hmem2⟩ := jE ha'
   have hok2 := htok t2 hmem2
   obtain ⟨m, hF⟩ : ∃ m, au = m + 1 := ⟨18446744073709551615, rfl⟩
   rw [hF, ao, hts]
   simp only [bF, beq_self_eq_true, cond_true, hx2, ai, MX hok2 h1 (by omega) h6, aP]
   cases ho : bI s t2 with
   | none =>
    refine ⟨_, .rOne h hd hr ho, a', ha', ?_⟩
    simp only [opt, Option.getD_none, beq_self_eq_true, cond_true, yE]
   | some ko =>
    have hke := ye ho
    have he2 : Ends ts2 := he'.tail (rG ho)
    simp only [opt, Option.getD_some, hke, cond_false, bX (show a' < 4611686018427387904 by omega), hs1, yE]
    simp only [List.length_cons] at hsh
    have hc : s = 1 ∨ s = 2 ∨ s = 5 ∨ s = 7 := by
     have : s = 1 ∨ s = 2 ∨ s = 3 ∨ s = 4 ∨ s = 5 ∨ s = 7 ∨ s = 8 ∨ s = 9 := by omega
     rcases this with rfl | rfl | rfl | rfl | rfl | rfl | rfl | rfl <;> simp [kd] at h <;> simp
    by_cases h7 : s = 7
    ·subst h7
     obtain ⟨r2, hr2, hm2⟩ := hk 8 (dn 7 d) (a' + 1) (by omega) (by omega) hD0 hD3 (by rw [hd2]; exact he2) (by rw [hd2]; omega)
     rw [hd2] at hr2
     exact ⟨_, .rTwo h hd hr ho hr2, hm2.two ko t2.2.2.2 x⟩
    ·obtain ⟨r2, hr2, hm2⟩ := hk s (dn s d) (a' + 1) (by omega) (by omega) hD0 hD3 (by rw [hd2]; exact he2) (by rw [hd2]; omega)
     rw [hd2] at hr2
     have hnx : nx s = s := by unfold nx; rw [beq_eq_false_iff_ne.2 h7]; rfl
     refine ⟨_, .rTwo h hd hr ho (by rw [hnx]; exact hr2), ?_⟩
     have hb : ((((s : Int) == 1) || ((s : Int) == 2)) || ((s : Int) == 5)) = true := by
      rcases hc with rfl | rfl | rfl | rfl
      ·rfl
      ·rfl
      ·rfl
      ·exact absurd rfl h7
     rw [hb]
     exact hm2.two ko t2.2.2.2 x
  · -- from the left
   have hc : s = 3 ∨ s = 4 ∨ s = 8 ∨ s = 9 := by
    have : s = 1 ∨ s = 2 ∨ s = 3 ∨ s = 4 ∨ s = 5 ∨ s = 7 ∨ s = 8 ∨ s = 9 := by omega
    rcases this with rfl | rfl | rfl | rfl | rfl | rfl | rfl | rfl <;> simp [kd] at h <;> simp
   have hdn : dn s d = d := by rcases hc with rfl | rfl | rfl | rfl <;> rfl
   have hq : ((((s : Int) == 1) || ((s : Int) == 2)) || ((s : Int) == 5)) = false := by rcases hc with rfl | rfl | rfl | rfl <;> rfl
   have hq7 : ((s : Int) == 7) = false := by rcases hc with rfl | rfl | rfl | rfl <;> rfl
   have hle : (l.drop a').length ≤ l.length := by simp
   obtain ⟨r2, hr2, hm2⟩ := Iq hn hl htok hk h1 (by omega) h6 h (D := dn s d) hD0 hD3 hq hq7 l.length a' au x hle (by show l.length < 2 ^ 64; omega) (by rw [ha']; exact he') (by rw [ha']; omega)
   rw [ha'] at hr2
   rw [hts]
   rw [hdn] at hr hr2
   exact ⟨r2, .lGo h hr hr2, hm2⟩
end
theorem L6 {names : List Str} {l : List Tok} (hn : names.length < 4611686018427387904) (hl : l.length < 4611686018427387904) (htok : ∀ t ∈ l, dQ t) :
  ∀ (N : Nat) (s : Nat) (d : Int) (a : Nat), 1 ≤ s → s ≤ 10 → 0 ≤ d → d ≤ 320 → Ends (l.drop a) → 12 * (l.drop a).length + (11 - s) < N →
   SR names l (al (fun k (s : (Int × Int × (List (Int × Str × Int × Int)) × Int × (List Str) × Int × Int)) => bH k s.1 s.2.1 s.2.2.1 s.2.2.2.1 s.2.2.2.2.1 s.2.2.2.2.2.1 s.2.2.2.2.2.2) N) s d a := by
 intro N
 induction N with
 | zero => intro s d a _ _ _ _ _ h; omega
 | succ N ih =>
  intro s d a h1 h10 h0 h3 he hN
  unfold SR
  rw [ao]
  exact I0 hn hl htok ih h1 h10 h0 h3 he hN
theorem Jd {names : List Str} {l : List Tok} (hn : names.length < 4611686018427387904) (hl : l.length < 1152921504606846976) (htok : ∀ t ∈ l, dQ t) {a : Nat} (he : Ends (l.drop a)) :
  ∃ r, P names (line 1) 0 (l.drop a) r ∧ match r with
   | .ok (x, ts) => ∃ a' : Nat, l.drop a' = ts ∧ cO l (a : Int) names = some (x, (a' : Int), 0, 0)
   | .error (b, p) => cO l (a : Int) names = some (.mk 0 0 0 [], 0, b, p) := by
 have hle : (l.drop a).length ≤ l.length := by simp
 obtain ⟨r, hr, hm⟩ := L6 hn (by omega) htok au 1 0 a (by omega) (by omega) (by omega) (by omega) he (by show _ < 2 ^ 64; omega)
 refine ⟨r, hr, ?_⟩
 unfold cO dO
 match r, hr, hm with
 | .ok (x, ts), hr, ⟨a', ha', hm⟩ =>
  refine ⟨a', ha', ?_⟩
  rw [show ((1 : Nat) : Int) = 1 from rfl] at hm
  rw [hm]; rfl
 | .error (b, p), hr, ⟨x, a', hm⟩ =>
  have hb := sZ hr
  rw [show ((1 : Nat) : Int) = 1 from rfl] at hm
  rw [hm, ai]
  simp only [hb, cond_true]
end Pa
end Go.Proofs.YtpnogcmollnjeaaGreatDoor
namespace Go.Proofs.YtpnogcmollnjeaaGreatDoor
theorem tG (k : Ex → Option (Int × Int × Int)) (e : Ex) (hk : ∀ x ∈ e.l, k x = some (rt x)) (hl : e.l.length < 1152921504606846976) :
  ∀ (r pre : List Ex), e.l = pre ++ r → ∀ (M : Nat) (i b t : Int), 0 ≤ i ∧ i ≤ pre.length → 0 ≤ b ∧ b ≤ pre.length → 0 ≤ t ∧ t ≤ pre.length → r.length < M →
   al (cW k e) M (i, b, t, (pre.length : Int)) = some (rtA e.op e.at_ (e.l.length : Int) r i b t)
 | [], pre, h, M, i, b, t, hi, hb, ht, hM => by
  obtain ⟨m, rfl⟩ : ∃ m, M = m + 1 := ⟨M - 1, by simp at hM; omega⟩
  rw [ao]
  have hlen : pre.length < 1152921504606846976 := by rw [h] at hl; simp at hl; omega
  have hw : IntKind.i64.wrap (b + t) = b + t := w64 (by omega)
  simp only [cW, Dp h, cond_false, aP, rtA, Cd, hw]
  generalize (decide (e.op ≤ 6) && (i == (e.l.length : Int))) = c1
  generalize (decide (7 ≤ e.op) && decide (e.op ≤ 12) && (i == (e.l.length : Int)) || e.op == 13 || e.op == 14) = c2
  generalize (decide (15 ≤ e.op) && decide (e.op ≤ 19) && (b == (e.l.length : Int))) = c3
  generalize (decide (15 ≤ e.op) && (b + t == (e.l.length : Int))) = c4
  cases c1 <;> cases c2 <;> cases c3 <;> cases c4 <;> rfl
 | x :: r, pre, h, M, i, b, t, hi, hb, ht, hM => by
  obtain ⟨m, rfl⟩ : ∃ m, M = m + 1 := ⟨M - 1, by omega⟩
  rw [ao]
  have hx : k x = some (rt x) := hk x (by rw [h]; simp)
  have hlen : pre.length < 1152921504606846976 := by rw [h] at hl; simp at hl; omega
  have ih := fun i b t hi hb ht => tG k e hk hl r (pre ++ [x]) (by rw [h]; simp) m i b t hi hb ht (by simp at hM; omega)
  have hp : ((pre ++ [x]).length : Int) = ((pre.length + 1 : Nat) : Int) := by simp
  rw [hp] at ih
  have wi : IntKind.i64.wrap (i + 1) = i + 1 := w64 (by omega)
  have wb : IntKind.i64.wrap (b + 1) = b + 1 := w64 (by omega)
  have wt : IntKind.i64.wrap (t + 1) = t + 1 := w64 (by omega)
  simp only [cW, jb, lB, DW h, cond_true, sX h, ai, hx, aP, tz (show pre.length < 4611686018427387904 by omega), rtA, wi, wb, wt]
  cases (rt x).2.1 != 0
  ·simp only [cond_false]
   cases (rt x).1 == 1 <;> cases (rt x).1 == 2 <;> cases (rt x).1 == 3 <;> simp only [cond_false, cond_true] <;> exact ih _ _ _ (by omega) (by omega) (by omega)
  ·rfl
theorem Hh : ∀ (N : Nat) (e : Ex), e.sz ≤ N → e.sz < 1152921504606846976 → al (fun k s => eB k s) N e = some (rt e) := by
 intro N
 induction N with
 | zero => intro e h; have := kP e; omega
 | succ N ih =>
  intro e h hb
  rw [ao]
  show al (cW _ e) au (0, 0, 0, 0) = _
  have hl := sU e
  rw [rt_eq]
  exact tG (al (fun k s => eB k s) N) e (fun x hx => ih x (by have := iK hx; omega) (by have := iK hx; omega)) (by omega) e.l [] rfl au 0 0 0 (by simp) (by simp) (by simp) (by show e.l.length < 2 ^ 64; omega)
theorem DS (e : Ex) (h : e.sz < 1152921504606846976) : cq e = some (rt e) := Hh au e (by show e.sz ≤ 2 ^ 64; omega) h
end Go.Proofs.YtpnogcmollnjeaaGreatDoor
namespace Go.Proofs.YtpnogcmollnjeaaGreatDoor
namespace Sy
open Pa
/-! types -/
theorem Oj (e : Ex) : dU e = eB cq e := rfl
theorem Hw (e : Ex) (h : e.sz < 1152921504606846976) : dU e = some (rt e) := by
 rw [Oj]
 have hl := sU e
 show al (cW _ e) au (0, 0, 0, 0) = _
 rw [rt_eq]
 exact tG cq e (fun x hx => DS x (by have := iK hx; omega)) (by omega) e.l [] rfl au 0 0 0 (by simp) (by simp) (by simp) (by show e.l.length < 2 ^ 64; omega)
/-! names -/
theorem pj {names : List Str} {v : Str} (hn : names.length < 4611686018427387904) : ∀ (m i M : Nat), names.length - i ≤ m → i ≤ names.length → m < M →
  al (cV names v) M (i : Int) = some (match eZ names v i with | some j => (j : Int) | none => -1) := by
 intro m
 induction m with
 | zero =>
  intro i M h1 h2 h3
  obtain ⟨M, rfl⟩ : ∃ k, M = k + 1 := ⟨M - 1, by omega⟩
  have hi : i = names.length := by omega
  subst hi
  rw [ao]
  have e : eZ names v names.length = none := by unfold eZ; simp
  rw [e]
  simp only [cV, decide_eq_false (show ¬ ((names.length : Int) < (List.length names : Int)) by omega), cond_false]
 | succ m ih =>
  intro i M h1 h2 h3
  obtain ⟨M, rfl⟩ : ∃ k, M = k + 1 := ⟨M - 1, by omega⟩
  rw [ao]
  by_cases hi : i < names.length
  ·have hd : names.drop i = names[i] :: names.drop (i + 1) := List.drop_eq_getElem_cons hi
   have hx : idx names (i : Int) = some names[i] := by simp [idx, List.getElem?_eq_getElem hi]
   simp only [cV, decide_eq_true (show ((i : Nat) : Int) < (List.length names : Int) by omega), cond_true, hx, ai, bX (show i < 4611686018427387904 by omega)]
   have e : eZ names v i = bif (names[i] == v) then some i else eZ names v (i + 1) := by
    unfold eZ
    rw [hd, List.findIdx?_cons]
    have : (v == names[i]) = (names[i] == v) := by
     by_cases h : v = names[i]
     ·rw [h]
     ·rw [beq_eq_false_iff_ne.2 h, beq_eq_false_iff_ne.2 (fun e => h e.symm)]
    rw [this]
    cases (names[i] == v)
    ·simp only [cond_false, Bool.false_eq_true, if_false, Option.map_map]
     congr 1
     funext x
     simp only [Function.comp]; omega
    ·simp
   rw [e]
   cases (names[i] == v)
   ·simp only [cond_false]
    exact ih (i + 1) M (by omega) (by omega) (by omega)
   ·rfl
  ·have hi : i = names.length := by omega
   subst hi
   have e : eZ names v names.length = none := by unfold eZ; simp
   rw [e]
   simp only [cV, decide_eq_false (show ¬ ((names.length : Int) < (List.length names : Int)) by omega), cond_false]
theorem xO {names : List Str} (hn : names.length < 4611686018427387904) (v : Str) : bu names v = some (cC names v) := by
 have := pj (v := v) hn names.length 0 au (by omega) (by omega) (by show names.length < 2 ^ 64; omega)
 rw [show ((0 : Nat) : Int) = 0 from rfl, w9] at this
 unfold bu cC
 refine this.trans ?_
 cases at_ names v <;> rfl
theorem F8 {names : List Str} {v : Str} : at_ names v = none ↔ names.contains v = false := by
 unfold at_
 rw [List.findIdx?_eq_none_iff]
 constructor
 ·intro h
  cases hc : names.contains v
  ·rfl
  ·have := List.contains_iff_mem.1 hc
   have := h v this
   simp at this
 ·intro h x hx
  cases hv : (v == x)
  ·rfl
  ·have : v = x := by simpa using hv
   subst this
   have : names.contains v = true := List.contains_iff_mem.2 hx
   rw [this] at h; cases h
theorem uM (names : List Str) (v : Str) : decide (0 ≤ cC names v) = names.contains v := by
 unfold cC
 cases h : at_ names v with
 | some i =>
  simp only
  have : names.contains v = true := by
   cases hc : names.contains v
   ·rw [F8.2 hc] at h; cases h
   ·rfl
  rw [this]; simp
 | none => rw [F8.1 h]; rfl
/-! the state of the reader -/
noncomputable def aN (st : Except Err (List Tok)) (f : List Tok → Except Err (List Tok)) : Except Err (List Tok) := match st with
 | .ok ts => f ts
 | .error e => .error e
noncomputable def rest {α : Type} : Except Err (α × List Tok) → Except Err (List Tok)
 | .ok p => .ok p.2
 | .error e => .error e
noncomputable def aG {α : Type} (st : Except Err (List Tok)) (f : List Tok → Except Err (α × List Tok)) : Except Err (List Tok) := aN st fun ts => rest (f ts)
noncomputable def St (l : List Tok) (st : Except Err (List Tok)) (a b p : Int) : Prop := match st with
 | .ok ts => ∃ k : Nat, a = (k : Int) ∧ l.drop k = ts ∧ Pa.Ends ts ∧ b = 0 ∧ p = 0
 | .error e => (∃ t, idx l a = some t) ∧ (e.1 == 0) = false ∧ b = e.1 ∧ p = e.2
noncomputable def isS (k : Int) (x : Str) : Except Err (List Tok) → Bool
 | .ok ts => isH k x ts
 | .error _ => false
noncomputable def Val {α : Type} (st : Except Err (List Tok)) (f : List Tok → Except Err (α × List Tok)) (x : α) : Prop := ∀ ts y r, st = .ok ts → f ts = .ok (y, r) → x = y
section
variable {l : List Tok} (hl : l.length < 1099511627776) (htok : ∀ t ∈ l, dQ t) (hnum : ∀ t ∈ l, oV t)
variable {st : Except Err (List Tok)} {a b p : Int} (N : List Str) (S_ : List (Int × Int)) (I : List Int) (Q : List Str) (C : List Cmd)
theorem St.at {st : Except Err (List Tok)} {a b p : Int} (h : St l st a b p) : ∃ t, idx l a = some t := by
 cases st with
 | ok ts =>
  obtain ⟨k, rfl, hd, he, _⟩ := h
  obtain ⟨t, r, rfl⟩ := he.ne
  exact ⟨t, (jE hd).1⟩
 | error e => exact h.1
theorem St.ok {ts : List Tok} (h : St l (.ok ts) a b p) : ∃ (k : Nat) (t : Tok) (r : List Tok), a = (k : Int) ∧ ts = t :: r ∧ l.drop k = t :: r ∧ Pa.Ends (t :: r) ∧ b = 0 ∧ p = 0 ∧ idx l a = some t ∧ t ∈ l ∧ l.drop (k + 1) = r ∧ k < l.length := by
 obtain ⟨k, rfl, hd, he, hb, hp⟩ := h
 obtain ⟨t, r, rfl⟩ := he.ne
 obtain ⟨h1, h2, h3, h4⟩ := jE hd
 exact ⟨k, t, r, rfl, rfl, hd, he, hb, hp, h1, h4, h2, h3⟩
theorem kl (c q x : Int) : aq c q l x N S_ I Q C 0 0 = some (c, q) := rfl
theorem qK {b : Int} (hb : (b == 0) = false) (c q x p : Int) : aq c q l x N S_ I Q C b p = some (b, p) := by
 unfold aq; rw [hb]; rfl
theorem uC (h : St l st a b p) (k : Int) (x : Str) : aW k x l a N S_ I Q C b p = some (isS k x st) := by
 cases st with
 | ok ts =>
  obtain ⟨k', t, r, rfl, rfl, hd, he, rfl, rfl, hx, _⟩ := h.ok
  unfold aW
  simp only [aP, beq_self_eq_true, cd, hx, ai, Bool.true_and, isS, isH, isT]
  cases (t.1 == k)
  ·rfl
  ·simp only [cd, ai, Bool.true_and]
 | error e =>
  obtain ⟨_, he, rfl, rfl⟩ := h
  unfold aW
  simp only [aP, he, gG, Bool.false_and, isS]
theorem F5 (h : St l st a b p) : ∃ q, aE l a N S_ I Q C b p = some q ∧ ∀ ts, st = .ok ts → q = wA ts := by
 obtain ⟨t, ht⟩ := h.at
 refine ⟨t.2.2.2, by unfold aE; rw [ht]; rfl, fun ts hts => ?_⟩
 subst hts
 obtain ⟨k', t', r, rfl, rfl, hd, he, rfl, rfl, hx, _⟩ := h.ok
 rw [hx] at ht; cases ht; rfl
include hl in
theorem pP (h : St l st a b p) (x : Str) : ∃ a' b' p', aR x l a N S_ I Q C b p = some (a', b', p') ∧ St l (aN st (aV x)) a' b' p' := by
 have hi := uC N S_ I Q C h 3 x
 unfold aR
 rw [hi, ai]
 cases st with
 | ok ts =>
  obtain ⟨k, t, r, rfl, rfl, hd, he, rfl, rfl, hx, hm, hd1, hk⟩ := h.ok
  simp only [isS, isH, aN, aV]
  cases hc : isT 3 x t
  ·simp only [Bool.not_false, cond_true, aE, hx, ai, kl]
   exact ⟨_, _, _, rfl, ⟨t, hx⟩, rfl, rfl, rfl⟩
  ·simp only [Bool.not_true, cond_false, cond_true, bX (show k < 4611686018427387904 by omega)]
   exact ⟨_, _, _, rfl, k + 1, rfl, hd1, he.tail (EF hc (by decide)), rfl, rfl⟩
 | error e =>
  obtain ⟨⟨t, hx⟩, he, rfl, rfl⟩ := h
  simp only [isS, Bool.not_false, cond_true, aE, hx, ai, qK N S_ I Q C he, aN]
  exact ⟨_, _, _, rfl, ⟨t, hx⟩, he, rfl, rfl⟩
include hl in
theorem FX (h : St l st a b p) (hN : N.length < 1099511627776) (hQ : Q.length < 1099511627776) (full : Bool) : ∃ s a' b' p', dz full l a N S_ I Q C b p = some (s, a', b', p') ∧ St l (aG st (cU full N Q)) a' b' p' ∧ Val st (cU full N Q) s := by
 obtain ⟨t, ht⟩ := h.at
 have iN := xO (names := N) (by omega) t.2.1
 have iQ := xO (names := Q) (by omega) t.2.1
 unfold dz
 simp only [ht, ai, GS, aP]
 cases st with
 | ok ts =>
  obtain ⟨k, t', r, rfl, rfl, hd, he, rfl, rfl, hx, hm, hd1, hk⟩ := h.ok
  rw [hx] at ht; cases ht
  simp only [aG, aN]
  have hs : cU full N Q (t :: r) = (bif t.1 != 1 then .error (2, t.2.2.2) else bif key t.2.1 || N.contains t.2.1 || Q.contains t.2.1 then .error (3, t.2.2.2) else bif full then .error (9, t.2.2.2) else .ok (t.2.1, r)) := rfl
  cases h1 : (t.1 != 1)
  case true =>
   rw [h1] at hs
   simp only [cond_true] at hs
   simp only [cond_true, kl, ai, hs, rest]
   exact ⟨_, _, _, _, rfl, ⟨⟨t, hx⟩, rfl, rfl, rfl⟩, fun ts y r' h2 h3 => by cases h2; rw [hs] at h3; cases h3⟩
  rw [h1] at hs
  simp only [cond_false] at hs ⊢
  have hc : (key t.2.1 || N.contains t.2.1 || Q.contains t.2.1) = (kA.contains t.2.1 || decide (0 ≤ cC N t.2.1) || decide (0 ≤ cC Q t.2.1)) := by rw [uM, uM]; rfl
  rw [hc] at hs
  have fin : ∀ c : Bool, (kA.contains t.2.1 || decide (0 ≤ cC N t.2.1) || decide (0 ≤ cC Q t.2.1)) = c →
    ∃ s a' b' p', (bif c then ((aq 3 t.2.2.2 l (k : Int) N S_ I Q C 0 0).bind fun r43 => some (t.2.1, (k : Int), r43.1, r43.2)) else (bif full then ((aq 9 t.2.2.2 l (k : Int) N S_ I Q C 0 0).bind fun r47 => some (t.2.1, (k : Int), r47.1, r47.2)) else (bif ((0 : Int) == 0) then some (t.2.1, (IntKind.i64.wrap ((k : Int) + 1)), 0, 0) else some (t.2.1, (k : Int), 0, 0)))) = some (s, a', b', p') ∧
     St l (rest (cU full N Q (t :: r))) a' b' p' ∧ Val (.ok (t :: r)) (cU full N Q) s := by
   intro c hcc
   rw [hcc] at hs
   cases c
   ·cases full
    ·simp only [cond_false] at hs
     refine ⟨_, _, _, _, rfl, ?_, fun ts y r' h2 h3 => by cases h2; rw [hs] at h3; cases h3; rfl⟩
     rw [hs, bX (show k < 4611686018427387904 by omega)]
     have : t.1 = 1 := by simpa using h1
     exact ⟨k + 1, rfl, hd1, he.tail (by omega), rfl, rfl⟩
    ·simp only [cond_false, cond_true] at hs
     exact ⟨_, _, _, _, rfl, by rw [hs]; exact ⟨⟨t, hx⟩, rfl, rfl, rfl⟩, fun ts y r' h2 h3 => by cases h2; rw [hs] at h3; cases h3⟩
   ·simp only [cond_true] at hs
    exact ⟨_, _, _, _, rfl, by rw [hs]; exact ⟨⟨t, hx⟩, rfl, rfl, rfl⟩, fun ts y r' h2 h3 => by cases h2; rw [hs] at h3; cases h3⟩
  have := fin _ rfl
  cases hk1 : kA.contains t.2.1
  ·simp only [Bool.not_false, cd, iN, ai, Bool.false_or, hk1] at this ⊢
   cases hk2 : decide (0 ≤ cC N t.2.1)
   ·simp only [Bool.not_false, cd, iQ, ai, Bool.false_or, hk2] at this ⊢
    exact this
   ·simp only [Bool.not_true, gG, Bool.true_or, hk2] at this ⊢
    exact this
  ·simp only [Bool.not_true, gG, Bool.true_or, hk1] at this ⊢
   exact this
 | error e =>
  obtain ⟨_, he, rfl, rfl⟩ := h
  simp only [aG, aN]
  have V : ∀ s, Val (.error e) (cU full N Q) s := fun s ts y r h => by cases h
  have hS : St l (.error e) a e.1 e.2 := ⟨⟨t, ht⟩, he, rfl, rfl⟩
  have iN' : ∀ g : Bool, ∃ z, ∀ k : Int → Option (Str × Int × Int × Int), aJ g default (bu N t.2.1) k = k z := fun g => by
   cases g
   ·exact ⟨default, fun k => rfl⟩
   ·exact ⟨cC N t.2.1, fun k => by rw [cd, iN]; rfl⟩
  have iQ' : ∀ g : Bool, ∃ z, ∀ k : Int → Option (Str × Int × Int × Int), aJ g default (bu Q t.2.1) k = k z := fun g => by
   cases g
   ·exact ⟨default, fun k => rfl⟩
   ·exact ⟨cC Q t.2.1, fun k => by rw [cd, iQ]; rfl⟩
  cases h1 : (t.1 != 1)
  case true =>
   simp only [cond_true, qK N S_ I Q C he, ai]
   exact ⟨_, _, _, _, rfl, hS, V _⟩
  simp only [cond_false]
  obtain ⟨z1, e1⟩ := iN' (!(kA.contains t.2.1))
  rw [e1]
  obtain ⟨z2, e2⟩ := iQ' (!(kA.contains t.2.1 || decide (0 ≤ z1)))
  rw [e2]
  cases (kA.contains t.2.1 || decide (0 ≤ z1) || decide (0 ≤ z2))
  ·cases full
   ·simp only [cond_false, he]
    exact ⟨_, _, _, _, rfl, hS, V _⟩
   ·simp only [cond_true, cond_false, qK N S_ I Q C he, ai]
    exact ⟨_, _, _, _, rfl, hS, V _⟩
  ·simp only [cond_true, qK N S_ I Q C he, ai]
   exact ⟨_, _, _, _, rfl, hS, V _⟩
include hl in
theorem AL (neg : Bool) (h : St l st a b p) : ∃ n a' b' p', fe l N S_ I Q C b p neg a = some (n, a', b', p') ∧ St l (aG st (jQ neg)) a' b' p' ∧ Val st (jQ neg) n := by
 obtain ⟨t, ht⟩ := h.at
 unfold fe
 rw [ht, ai]
 cases st with
 | ok ts =>
  obtain ⟨k, t', r, rfl, rfl, hd, he, rfl, rfl, hx, hm, hd1, hk⟩ := h.ok
  rw [hx] at ht; cases ht
  simp only [aG, aN, jQ, rest, Val]
  cases h1 : (t.1 != 2)
  ·simp only [cond_false, dv, bX (show k < 4611686018427387904 by omega)]
   have ht2 : t.1 = 2 := by simpa using h1
   have hE : Pa.Ends r := he.tail (by omega)
   cases neg
   ·exact ⟨_, _, _, _, rfl, ⟨k + 1, rfl, hd1, hE, rfl, rfl⟩, fun ts y r' h2 h3 => by cases h2; simp only [h1, cond_false] at h3; cases h3; rfl⟩
   ·exact ⟨_, _, _, _, rfl, ⟨k + 1, rfl, hd1, hE, rfl, rfl⟩, fun ts y r' h2 h3 => by cases h2; simp only [h1, cond_false, cond_true] at h3; cases h3; rfl⟩
  ·simp only [cond_true, kl, ai, dv]
   exact ⟨_, _, _, _, rfl, ⟨⟨t, hx⟩, rfl, rfl, rfl⟩, fun ts y r' h2 h3 => by cases h2; simp only [h1, cond_true] at h3; cases h3⟩
 | error e =>
  obtain ⟨_, he, rfl, rfl⟩ := h
  have hb : (e.1 != 0) = true := by simp only [bne, he, Bool.not_false]
  simp only [aG, aN, qK N S_ I Q C he, ai, dv, aP, hb, cond_true]
  have hS : St l (.error e) a e.1 e.2 := ⟨⟨t, ht⟩, he, rfl, rfl⟩
  cases (t.1 != 2) <;> exact ⟨_, _, _, _, rfl, hS, fun ts y r h => by cases h⟩
include hl in
theorem D8 (h : St l st a b p) : ∃ n a' b' p', bY l a N S_ I Q C b p = some (n, a', b', p') ∧ St l (aG st dh) a' b' p' ∧ Val st dh n := by
 unfold bY
 rw [uC N S_ I Q C h 3 [45], ai]
 cases st with
 | ok ts =>
  simp only [isS]
  cases hc : isH 3 [45] ts
  ·simp only [cond_false]
   obtain ⟨n, a', b', p', h1, h2, h3⟩ := AL hl N S_ I Q C false h
   have e : dh ts = jQ false ts := by unfold dh; rw [hc]; rfl
   exact ⟨n, a', b', p', h1, by simpa only [aG, aN, e] using h2, fun ts' y r h4 h5 => h3 ts' y r h4 (by cases h4; rw [← e]; exact h5)⟩
  ·simp only [cond_true]
   obtain ⟨k, t, r, rfl, rfl, hd, he, rfl, rfl, hx, hm, hd1, hk⟩ := h.ok
   have hE : Pa.Ends r := (iu he (by decide) hc).1
   have hS : St l (.ok r) (IntKind.i64.wrap ((k : Int) + 1)) 0 0 := by rw [bX (show k < 4611686018427387904 by omega)]; exact ⟨k + 1, rfl, hd1, hE, rfl, rfl⟩
   obtain ⟨n, a', b', p', h1, h2, h3⟩ := AL hl N S_ I Q C true hS
   have e : dh (t :: r) = jQ true r := by unfold dh; rw [hc]; rfl
   exact ⟨n, a', b', p', h1, by simpa only [aG, aN, e] using h2, fun ts' y r' h4 h5 => h3 r y r' rfl (by cases h4; rw [← e]; exact h5)⟩
 | error e =>
  simp only [isS, cond_false]
  obtain ⟨n, a', b', p', h1, h2, h3⟩ := AL hl N S_ I Q C false h
  exact ⟨n, a', b', p', h1, h2, fun ts' y r h4 => by cases h4⟩
include hl htok hnum in
theorem F2 (h : St l st a b p) (hN : N.length < 1099511627776) (want : Int) : ∃ x a' b' p', bf want l a N S_ I Q C b p = some (x, a', b', p') ∧ St l (aG st (bZ want N)) a' b' p' ∧ Val st (bZ want N) x := by
 have _ := hnum
 unfold bf
 cases st with
 | ok ts =>
  obtain ⟨k, t, r0, rfl, rfl, hd, he, rfl, rfl, hx, hm, hd1, hk⟩ := h.ok
  simp only [bne_self_eq_false, cond_false]
  obtain ⟨r, hr, hP⟩ := Jd (names := N) (by omega) (by omega) htok (a := k) (by rw [hd]; exact he)
  rw [hd] at hr
  have hre := L3 hr
  match r, hr, hP, hre with
  | .error (b, p), hr, hP, hre =>
   have hb := sZ hr
   have hb0 : (b == 0) = false := by simpa using hb
   rw [hP, ai]
   simp only [hb, cond_true, kl, ai, aG, aN, bZ, hre, rest]
   exact ⟨_, _, _, _, rfl, ⟨⟨t, hx⟩, hb0, rfl, rfl⟩, fun ts y r' h2 h3 => by cases h2; simp only [bZ, hre] at h3; cases h3⟩
  | .ok (x, ts'), hr, ⟨k', hk', hP⟩, hre =>
   have hsz := hr.size _ rfl
   simp only [szJ, Nat.add_zero] at hsz
   have hlen : (t :: r0).length ≤ l.length := by rw [← hd]; simp
   have hends := (hr.ends he _ rfl).1
   rw [hP, ai]
   simp only [bne_self_eq_false, cond_false, Hw x (by omega), ai, aG, aN, bZ, hre, rest, Val, gu]
   have hat : ∃ t', idx l (k' : Int) = some t' := by
    obtain ⟨t', r', hh⟩ := hends.ne
    simp only at hh
    rw [hh] at hk'
    exact ⟨t', (jE hk').1⟩
   cases h1 : ((rt x).2.1 != 0)
   case true =>
    have h10 : ((rt x).2.1 == 0) = false := by simpa using h1
    simp only [cond_true, kl, ai]
    exact ⟨_, _, _, _, rfl, ⟨hat, h10, rfl, rfl⟩, fun ts y r' h2 h3 => by cases h2; simp only [hre, h1, cond_true] at h3; cases h3⟩
   simp only [cond_false]
   cases h2 : ((rt x).1 != want)
   case true =>
    simp only [cond_true, kl, ai]
    exact ⟨_, _, _, _, rfl, ⟨hat, rfl, rfl, rfl⟩, fun ts y r' h4 h3 => by cases h4; simp only [hre, h1, cond_false, h2, cond_true] at h3; cases h3⟩
   simp only [cond_false]
   exact ⟨_, _, _, _, rfl, ⟨k', rfl, hk', hends, rfl, rfl⟩, fun ts y r' h4 h3 => by cases h4; simp only [hre, h1, cond_false, h2] at h3; cases h3; rfl⟩
 | error e =>
  obtain ⟨ht, he, rfl, rfl⟩ := h
  have hb : (e.1 != 0) = true := by simp only [bne, he, Bool.not_false]
  simp only [hb, cond_true, aG, aN]
  exact ⟨_, _, _, _, rfl, ⟨ht, he, rfl, rfl⟩, fun ts y r h => by cases h⟩
end
end Sy
end Go.Proofs.YtpnogcmollnjeaaGreatDoor
namespace Go.Proofs.YtpnogcmollnjeaaGreatDoor
namespace Sy
open Pa
theorem K3 (lo hi : Int) : gH ([(lo, hi)] : List (Int × Int)) = some (kh lo hi) := by
 have e : gH ([(lo, hi)] : List (Int × Int)) = al (iB [(lo, hi)]) au 0 := rfl
 rw [e]
 obtain ⟨m, hm⟩ : ∃ m, au = m + 2 := ⟨18446744073709551614, rfl⟩
 rw [hm, show m + 2 = (m + 1) + 1 from rfl, ao]
 have i0 : idx ([(lo, hi)] : List (Int × Int)) 0 = some (lo, hi) := rfl
 have d0 : decide ((0 : Int) < (List.length ([(lo, hi)] : List (Int × Int)) : Int)) = true := rfl
 have w0 : IntKind.i64.wrap (0 + 1) = 1 := rfl
 simp only [iB, d0, cond_true, i0, ai, aP, w0]
 unfold kh
 cases decide (hi < lo)
 case true => rfl
 simp only [Bool.not_false, cd, ai, Bool.false_or, Bool.true_and]
 cases decide (lo < -1073741824)
 case true => rfl
 simp only [Bool.not_false, cd, ai, Bool.false_or, Bool.true_and]
 cases decide (1073741824 < hi)
 case true => rfl
 simp only [Bool.not_false, cd, ai, Bool.false_or, Bool.true_and]
 cases decide (65535 < IntKind.i64.wrap (hi - lo))
 ·rw [ao]; rfl
 ·rfl
section
variable {l : List Tok} (hl : l.length < 1099511627776) (htok : ∀ t ∈ l, dQ t) (hnum : ∀ t ∈ l, oV t)
variable {st : Except Err (List Tok)} {a b p : Int} (N : List Str) (S_ : List (Int × Int)) (I : List Int) (Q : List Str) (C : List Cmd)
variable (hN : N.length < 1099511627776) (hS : S_.length < 1099511627776) (hI : I.length < 1099511627776) (hQ : Q.length < 1099511627776) (hC : C.length < 1099511627776)
include hl hN hS hI hQ in
theorem P8 (h : St l st a b p) : ∃ a' N' S' I' b' p', dG l a N S_ I Q C b p = some (a', N', S', I', b', p') ∧ St l (aG st (jk (N, S_, I, Q, C))) a' b' p' ∧
  (∀ ts m r, st = .ok ts → jk (N, S_, I, Q, C) ts = .ok (m, r) → m = (N', S', I', Q, C)) := by
 obtain ⟨name, a1, b1, p1, e1, s1, v1⟩ := FX hl N S_ I Q C h hN hQ (decide (16 ≤ (List.length N : Int)))
 obtain ⟨q, e0, v0⟩ := F5 N S_ I Q C s1
 obtain ⟨lo, a2, b2, p2, e2, s2, v2⟩ := D8 hl N S_ I Q C s1
 obtain ⟨hi, a3, b3, p3, e3, s3, v3⟩ := D8 hl N S_ I Q C s2
 obtain ⟨fi, a4, b4, p4, e4, s4, v4⟩ := D8 hl N S_ I Q C s3
 obtain ⟨a5, b5, p5, e5, s5⟩ := pP hl N S_ I Q C s4 [59]
 have k1 : ay (List.length N + List.length ([name] : List Str)) 16 = true := eI (by simp; omega) (by simp; omega)
 have k2 : ay (List.length S_ + List.length ([(lo, hi)] : List (Int × Int))) 16 = true := eI (by simp; omega) (by simp; omega)
 have k3 : ay (List.length I + List.length ([fi] : List Int)) 8 = true := eI (by simp; omega) (by simp; omega)
 have hK : ∀ c42 c43, ey N S_ I (name, a1, b1, p1) (lo, a2, b2, p2) (hi, a3, b3, p3) (fi, a4, b4, p4) (a5, b5, p5) c42 c43 = some (a5, N ++ [name], S_ ++ [(lo, hi)], I ++ [fi], c42, c43) := fun c42 c43 => by
  unfold ey
  rw [dE k1, dE k2, dE k3]
 unfold dG
 simp only [e1, ai, e0, e2, e3, e4, e5, K3, aP, hK]
 -- where it is wrong
 have bad : ∀ e : Err, aN (aG (aG (aG (aG st (cU (decide (16 ≤ (List.length N : Int))) N Q)) dh) dh) dh) (aV [59]) = .error e →
   (aG st (jk (N, S_, I, Q, C))) = .error e := by
  intro e he
  cases st with
  | error e' => simp only [aG, aN] at he ⊢; exact he
  | ok ts =>
   simp only [aG, aN, jk] at he ⊢
   cases h1 : cU (decide (16 ≤ (List.length N : Int))) N Q ts with
   | error e1 => rw [h1] at he; simp only [rest] at he ⊢; exact he
   | ok q1 =>
    rw [h1] at he; simp only [rest] at he ⊢
    cases h2 : dh q1.2 with
    | error e1 => rw [h2] at he; simp only [] at he ⊢; exact he
    | ok q2 =>
     rw [h2] at he; simp only [] at he ⊢
     cases h3 : dh q2.2 with
     | error e1 => rw [h3] at he; simp only [] at he ⊢; exact he
     | ok q3 =>
      rw [h3] at he; simp only [] at he ⊢
      cases h4 : dh q3.2 with
      | error e1 => rw [h4] at he; simp only [] at he ⊢; exact he
      | ok q4 =>
       rw [h4] at he; simp only [] at he ⊢
       rw [he]
 cases hst : aN (aG (aG (aG (aG st (cU (decide (16 ≤ (List.length N : Int))) N Q)) dh) dh) dh) (aV [59]) with
 | error e =>
  have hb := bad e hst
  rw [hst] at s5
  have hfail := qK (l := l) N S_ I Q C (b := b5) (by rw [s5.2.2.1]; exact s5.2.1) 5 q a5 p5
  rw [hb]
  have V : ∀ N' S' I', ∀ ts m r, st = .ok ts → jk (N, S_, I, Q, C) ts = .ok (m, r) → m = (N', S', I', Q, C) := fun N' S' I' ts m r h1 h2 => by
   subst h1
   simp only [aG, aN, h2, rest] at hb
   cases hb
  cases (!(kh lo hi) || decide (fi < lo) || decide (hi < fi))
  ·simp only [cond_false]; exact ⟨_, _, _, _, _, _, rfl, s5, V _ _ _⟩
  ·simp only [cond_true, hfail, ai]; exact ⟨_, _, _, _, _, _, rfl, s5, V _ _ _⟩
 | ok ts5 =>
  rw [hst] at s5
  cases st with
  | error e' => simp only [aG, aN] at hst; cases hst
  | ok ts =>
   simp only [aG, aN] at hst
   cases h1 : cU (decide (16 ≤ (List.length N : Int))) N Q ts with
   | error e1 => rw [h1] at hst; cases hst
   | ok q1 =>
    obtain ⟨name', ts1⟩ := q1
    rw [h1] at hst; simp only [rest] at hst
    have en : name = name' := v1 _ _ _ rfl h1
    have t1 : aG (.ok ts) (cU (decide (16 ≤ (List.length N : Int))) N Q) = .ok ts1 := by simp only [aG, aN, h1, rest]
    have eq : q = wA ts1 := v0 _ t1
    cases h2 : dh ts1 with
    | error e1 => rw [h2] at hst; cases hst
    | ok q2 =>
     obtain ⟨lo', ts2⟩ := q2
     rw [h2] at hst; simp only at hst
     have e2' : lo = lo' := v2 _ _ _ t1 h2
     have t2 : aG (aG (.ok ts) (cU (decide (16 ≤ (List.length N : Int))) N Q)) dh = .ok ts2 := by rw [t1]; simp only [aG, aN, h2, rest]
     cases h3 : dh ts2 with
     | error e1 => rw [h3] at hst; cases hst
     | ok q3 =>
      obtain ⟨hi', ts3⟩ := q3
      rw [h3] at hst; simp only at hst
      have e3' : hi = hi' := v3 _ _ _ t2 h3
      have t3 : aG (aG (aG (.ok ts) (cU (decide (16 ≤ (List.length N : Int))) N Q)) dh) dh = .ok ts3 := by rw [t2]; simp only [aG, aN, h3, rest]
      cases h4 : dh ts3 with
      | error e1 => rw [h4] at hst; cases hst
      | ok q4 =>
       obtain ⟨fi', ts4⟩ := q4
       rw [h4] at hst; simp only at hst
       have e4' : fi = fi' := v4 _ _ _ t3 h4
       have hv : jk (N, S_, I, Q, C) ts = (bif !(kh lo hi) || decide (fi < lo) || decide (hi < fi) then .error (5, wA ts1) else .ok ((N ++ [name], S_ ++ [(lo, hi)], I ++ [fi], Q, C), ts5)) := by
        simp only [jk, h1, h2, h3, h4, hst, en, e2', e3', e4']
       simp only [aG, aN, hv]
       obtain ⟨k5, e5a, e5b, e5c, rfl, rfl⟩ := s5
       cases hq : (!(kh lo hi) || decide (fi < lo) || decide (hi < fi))
       ·simp only [cond_false, rest]
        exact ⟨_, _, _, _, _, _, rfl, ⟨k5, e5a, e5b, e5c, rfl, rfl⟩, fun ts' m r h5 h6 => by cases h5; rw [hv, hq] at h6; simp only [cond_false] at h6; cases h6; rfl⟩
       ·simp only [cond_true, kl, ai, rest]
        refine ⟨_, _, _, _, _, _, rfl, ?_, fun ts' m r h5 h6 => by cases h5; rw [hv, hq] at h6; simp only [cond_true] at h6; cases h6⟩
        have hat := St.at (l := l) (st := .ok ts5) (a := a5) (b := 0) (p := 0) ⟨k5, e5a, e5b, e5c, rfl, rfl⟩
        exact ⟨hat, rfl, rfl, eq⟩
end
end Sy
end Go.Proofs.YtpnogcmollnjeaaGreatDoor
