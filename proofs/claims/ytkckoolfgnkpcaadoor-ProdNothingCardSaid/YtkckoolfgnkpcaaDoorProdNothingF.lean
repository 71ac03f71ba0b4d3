/-
  Own texts for the statement ProdNothing, cut down to what it needs: DenR, TrA, TrPa, TrSys, TrPb, TrGen, TrRKey, TrRRead, TrRLine, TrRType, TrRSys, TrRSys2, TrRSys3, ExprLex, TrRSys4, SysT, TrToks. (cut and joined by a program)
-/
import Derived.Test.YtkckoolfgnkpcaaDoorProdNothingA
import Derived.Test.YtkckoolfgnkpcaaDoorProdNothingB
import Derived.Test.YtkckoolfgnkpcaaDoorProdNothingC
import Derived.Test.YtkckoolfgnkpcaaDoorProdNothingD
import Derived.Test.YtkckoolfgnkpcaaDoorProdNothingE
import Derived.KernelRfl
namespace Go.Proofs.YtkckoolfgnkpcaaDoor
open Go.Proofs
noncomputable section
set_option maxRecDepth 100000
def fD : Ent := ⟨4, [.str, (.int .u8)], .bool, [], fun s => ec s.1 s.2⟩
def ng (_fl : Nat) (n : Int) (r22 : Q18) (r144 : Q12) (i173 : Int) (again174 : Int → Option Bool) (again178 : Int → Option Bool) (q177 : Int) : Option Bool := bif (decide (q177 < (IntKind.i64.wrap (1 + (Int.tmod (IntKind.i64.wrap n) 4))))) then ( (idx r22.1 i173).bind fun e182 => chk (aw (List.length ([] : List Int) + List.length e182) 8) <| chk (aw (List.length (([] : List Int) ++ e182) + List.length ([q177] : List Int)) 8) <| (cP r144.1 ((([] : List Int) ++ e182) ++ ([q177] : List Int))).bind fun r198 => bif (decide (r198 < 0)) then ( some false) else ( again178 (IntKind.i64.wrap (q177 + 1)))) else ( again174 (IntKind.i64.wrap (i173 + 1)))
def mh (fl : Nat) (n : Int) (r3 : Bool) (r6 : (Q1 × Bool)) (r22 : Q18) (each42 : Q2) (l67 : Q20) (l70 : (List Q2)) (r139 : Q12) (r144 : Q12) (again174 : Int → Option Bool) (i173 : Int) : Option Bool := bif (decide (i173 < (List.length r22.1 : Int))) then ( ao (ng fl n r22 r144 i173 again174) fl 0) else ( bm r3 default (j8 r6.1 (l67, l70, each42, ([each42] : List Q2))) fun r202 => bm r3 default (cq r202 r139.1) fun r211 => ab (r3 && r211) fun b217 => some b217)
def mO (fl : Nat) (n : Int) (r3 : Bool) (r6 : (Q1 × Bool)) (r22 : Q18) (each42 : Q2) (again74 : Q29 → Option Bool) : Q20 × (List Q2) × Q20 × (List Q2) × Q20 × (List Q2) × Int → Option Bool := fun ⟨l55, l58, l61, l64, l67, l70, q73⟩ => bif (decide (q73 < (IntKind.i64.wrap (1 + (Int.tmod (IntKind.i64.wrap n) 4))))) then ( chk (aw (List.length l55 + List.length ([([(Ex.mk 14 0 0 [])] : List Ex)] : List (List Ex))) 24) <| chk (aw (List.length l58 + List.length ([each42] : List Q2)) 24) <| chk (aw (List.length l61 + List.length ([[]] : List (List Ex))) 24) <| chk (aw (List.length l64 + List.length ([[]] : List Q2)) 24) <| chk (aw (List.length l67 + List.length ([([(Ex.mk 13 0 0 [])] : List Ex)] : List (List Ex))) 24) <| chk (aw (List.length l70 + List.length ([each42] : List Q2)) 24) <| again74 ((l55 ++ ([([(Ex.mk 14 0 0 [])] : List Ex)] : List (List Ex))), (l58 ++ ([each42] : List Q2)), (l61 ++ ([[]] : List (List Ex))), (l64 ++ ([[]] : List Q2)), (l67 ++ ([([(Ex.mk 13 0 0 [])] : List Ex)] : List (List Ex))), (l70 ++ ([each42] : List Q2)), (IntKind.i64.wrap (q73 + 1)))) else ( (cV r6.1 (l55, l58, each42, ([each42] : List Q2)) 1000).bind fun r134 => (cV r6.1 (l61, l64, each42, ([[]] : List Q2)) 1000).bind fun r139 => (cV r6.1 (l67, l70, each42, ([each42] : List Q2)) 1000).bind fun r144 => ab (r134.2 != 0) fun b149 => ab (r139.2 != 0) fun b151 => ab (b149 || b151) fun b153 => ab (r144.2 != 0) fun b155 => ab (b153 || b155) fun b157 => ab ((List.length r134.1 : Int) != 0) fun b159 => ab (b157 || b159) fun b161 => ab ((List.length r139.1 : Int) != (IntKind.i64.wrap (1 + (Int.tmod (IntKind.i64.wrap n) 4)))) fun b163 => ab (b161 || b163) fun b165 => ab ((List.length r144.1 : Int) != (IntKind.i64.wrap ((IntKind.i64.wrap (1 + (Int.tmod (IntKind.i64.wrap n) 4))) * (List.length r22.1 : Int)))) fun b167 => ab (b165 || b167) fun b169 => bif b169 then ( some false) else ( ao (mh fl n r3 r6 r22 each42 l67 l70 r139 r144) fl 0))
def mE (fl : Nat) (n : Int) (r3 : Bool) (r6 : (Q1 × Bool)) (r22 : Q18) (again46 : Q19 → Option Bool) : Q2 × Int → Option Bool := fun ⟨each42, q45⟩ => bif (decide (q45 < (IntKind.i64.wrap (1 + (Int.tmod (IntKind.i64.wrap n) 4))))) then ( chk (aw (List.length each42 + List.length ([q45] : List Int)) 8) <| again46 ((each42 ++ ([q45] : List Int)), (IntKind.i64.wrap (q45 + 1)))) else ( ao (mO fl n r3 r6 r22 each42) fl ([], [], [], [], [], [], 0))
def ob (fl : Nat) (text : Str) (n : Int) : Option Bool := (gS).bind fun r3 => (fk text).bind fun r6 => (dK r6.1 60).bind fun r22 => ab (!r6.2) fun b28 => ab (r22.2.1 != 0) fun b30 => ab (b28 || b30) fun b32 => bif b32 then ( some r3) else ( ao (mE fl n r3 r6 r22) fl ([], 0))
theorem mc (fl : Nat) (s : Tup (ky fD.ps)) : JI { X0 with fl := fl } [lQ, ox, lR, tP, kh, vK, mU] [] [] (.c .o (.l ⟨[(false, 15, (.own (.i .i64) 3 true)), (false, 16, (.int .i64))], []⟩ (.c .o (.r [30000, 20015] (.l ⟨[(true, 12, (.bx 34 0 true [(.own (.l .ex) 42 true), (.own (.l (.i .i64)) 25 true), .same, .same])), (true, 13, (.bx 34 0 true [(.own (.l .ex) 42 true), (.own (.l (.i .i64)) 25 true), .same, .same])), (true, 14, (.bx 34 0 true [(.own (.l .ex) 42 true), (.own (.l (.i .i64)) 25 true), .same, .same])), (false, 17, (.int .i64))], []⟩ (.c .o (.c .o (.l ⟨[(false, 24, (.int .i64))], []⟩ (.c (.l ⟨[(false, 25, (.int .i64))], []⟩ .o) .o))))))))) Tryd.f4 fD s = ob fl s.1 s.2 := by kernel_rfl
theorem mS : (fD).Ok X0.P X0.Γ :=
 aS (.c .o (.l ⟨[(false, 15, (.own (.i .i64) 3 true)), (false, 16, (.int .i64))], []⟩ (.c .o (.r [30000, 20015] (.l ⟨[(true, 12, (.bx 34 0 true [(.own (.l .ex) 42 true), (.own (.l (.i .i64)) 25 true), .same, .same])), (true, 13, (.bx 34 0 true [(.own (.l .ex) 42 true), (.own (.l (.i .i64)) 25 true), .same, .same])), (true, 14, (.bx 34 0 true [(.own (.l .ex) 42 true), (.own (.l (.i .i64)) 25 true), .same, .same])), (false, 17, (.int .i64))], []⟩ (.c .o (.c .o (.l ⟨[(false, 24, (.int .i64))], []⟩ (.c (.l ⟨[(false, 25, (.int .i64))], []⟩ .o) .o))))))))) Tryd.call4 Tryd.func4 (ok1 qx (ok1 lL (ok1 pY (ok1 q6 (ok1 fE (ok1 nw (ok1 kG ok0))))))) ok0 ok0 fun s => (mc au s).trans (by kernel_rfl)
end
end Go.Proofs.YtkckoolfgnkpcaaDoor
namespace Go.Proofs.YtkckoolfgnkpcaaDoor
theorem rD (e : Ex) : 1 ≤ e.sz := by rw [Ex.FL]; omega
theorem G0 {x : Ex} : ∀ {l : List Ex}, x ∈ l → x.sz ≤ szL l
 | y :: l, h => by
  simp only [szL]
  rcases List.mem_cons.1 h with rfl | h
  ·omega
  ·have := G0 h; omega
theorem Eu : ∀ (l : List Ex), l.length ≤ szL l
 | [] => Nat.le_refl _
 | x :: l => by have := Eu l; have := rD x; simp only [szL, List.length_cons]; omega
theorem tg {e x : Ex} (h : x ∈ e.l) : x.sz < e.sz := by have := G0 h; rw [Ex.FL e]; omega
theorem Hc (e : Ex) : e.l.length < e.sz := by have := Eu e.l; rw [Ex.FL e]; omega
theorem ai {α ρ : Type} (x : α) (k : α → Option ρ) : (some x).bind k = k x := rfl
theorem bl {α ρ : Type} (x : α) (k : α → Option ρ) : ab x k = k x := rfl
theorem fP {α ρ : Type} (d : α) (m : Option α) (k : α → Option ρ) : bm true d m k = m.bind k := rfl
theorem pH {α ρ : Type} (d : α) (m : Option α) (k : α → Option ρ) : bm false d m k = k d := rfl
theorem Mm {l pre r : List Ex} {x : Ex} (h : l = pre ++ x :: r) : idx l (pre.length : Int) = some x := by subst h; simp [idx]
theorem MN {n : Nat} (h : n < 4611686018427387904) : IntKind.i64.wrap ((n : Int) + 1) = ((n + 1 : Nat) : Int) := by rw [w64 (by omega)]; omega
theorem OH {l pre r : List Ex} {x : Ex} (h : l = pre ++ x :: r) : decide ((pre.length : Int) < (List.length l : Int)) = true := by subst h; simp; omega
theorem OC {l pre : List Ex} (h : l = pre ++ []) : decide ((pre.length : Int) < (List.length l : Int)) = false := by subst h; simp
noncomputable def Ow (op a : Int) (i b t : Bool) : Int × Int × Int :=
 bif decide (op ≤ 6) && i then (1, 0, 0)
 else bif decide (6 < op) && decide (op ≤ 12) && i || op == 13 || op == 14 || decide (15 ≤ op) && decide (op ≤ 19) && b then (2, 0, 0)
 else bif decide (15 ≤ op) && t then (3, 0, 0) else (0, 4, a)
mutual
noncomputable def ty : Ex → Int × Int × Int
 | .mk op _ a l => tyA op a l true true true
noncomputable def tyA (op a : Int) : List Ex → Bool → Bool → Bool → Int × Int × Int
 | [], i, b, t => Ow op a i b t
 | x :: r, i, b, t => bif (ty x).2.1 != 0 then (0, (ty x).2.1, (ty x).2.2) else tyA op a r (i && (ty x).1 == 1) (b && (ty x).1 == 2) (t && (ty x).1 != 1)
end
noncomputable def jy (op : Int) : Int := bif op == 1 || op == 2 || op == 13 || op == 14 then 0 else bif op == 6 || op == 15 || op == 20 || op == 21 || op == 22 then 1 else 2
noncomputable def mo (op n len want vars : Int) : Bool :=
 !(decide (op < 1) || decide (24 < op) || len != want) && !((op == 1) && (decide (n < 0) || decide (1073741824 < n)) || (op == 2) && (decide (n < 0) || decide (vars ≤ n)) || decide (2 < op) && n != 0)
mutual
noncomputable def fg (vars : Int) : Ex → Bool
 | .mk op n _ l => mo op n (l.length : Int) (jy op) vars && qe vars l
noncomputable def qe (vars : Int) : List Ex → Bool
 | [] => true
 | x :: r => fg vars x && qe vars r
end
theorem Ew (vars : Int) (e : Ex) : fg vars e = (mo e.op e.n (e.l.length : Int) (jy e.op) vars && qe vars e.l) := by cases e; simp only [fg, Ex.op, Ex.n, Ex.l]
noncomputable def tr (b : Bool) : Int := bif b then 1 else 0
noncomputable def evF (op n : Int) (v : List Int) (a b : Int) : Int :=
 bif op == 1 then n else bif op == 2 then (bif decide (n < 0) || decide ((List.length v : Int) ≤ n) then 0 else v.getD n.toNat 0)
 else bif op == 3 then IntKind.i64.wrap (a + b) else bif op == 5 then IntKind.i64.wrap (a * b) else bif op == 6 then IntKind.i64.wrap (0 - a) else bif op == 4 then IntKind.i64.wrap (a - b)
 else bif op == 8 then tr ((a == b) != true) else bif op == 7 then tr ((a == b) != false) else bif op == 19 then tr ((a == b) != false)
 else bif op == 12 then tr (decide (a < b) != true) else bif op == 9 then tr (decide (a < b) != false) else bif op == 11 then tr (decide (a ≤ b) != true) else bif op == 10 then tr (decide (a ≤ b) != false)
 else bif op == 13 then 1 else bif op == 15 then IntKind.i64.wrap (1 - a) else bif op == 16 then IntKind.i64.wrap (a * b) else bif op == 17 then max a b else bif op == 18 then max (IntKind.i64.wrap (1 - a)) b else 0
mutual
noncomputable def ev (v : List Int) : Ex → Int
 | .mk op n _ l => evF op n v (ev0 v l) (ev1 v l)
noncomputable def ev0 (v : List Int) : List Ex → Int
 | [] => 0
 | x :: _ => ev v x
noncomputable def ev1 (v : List Int) : List Ex → Int
 | [] => 0
 | _ :: r => ev0 v r
end
theorem yg (v : List Int) (e : Ex) : ev v e = evF e.op e.n v (ev0 v e.l) (ev1 v e.l) := by cases e; simp only [ev, Ex.op, Ex.n, Ex.l]
noncomputable def u7 (op a len i b t : Int) : Int × Int × Int :=
 bif decide (op ≤ 6) && (i == len) then (1, 0, 0)
 else bif decide (7 ≤ op) && decide (op ≤ 12) && (i == len) || op == 13 || op == 14 then (2, 0, 0)
 else bif decide (15 ≤ op) && decide (op ≤ 19) && (b == len) then (2, 0, 0)
 else bif decide (15 ≤ op) && (b + t == len) then (3, 0, 0) else (0, 4, a)
mutual
noncomputable def rt : Ex → Int × Int × Int
 | .mk op _ a l => rtA op a (l.length : Int) l 0 0 0
noncomputable def rtA (op a len : Int) : List Ex → Int → Int → Int → Int × Int × Int
 | [], i, b, t => u7 op a len i b t
 | x :: r, i, b, t => bif (rt x).2.1 != 0 then (0, (rt x).2.1, (rt x).2.2) else rtA op a len r (bif (rt x).1 == 1 then i + 1 else i) (bif (rt x).1 == 2 then b + 1 else b) (bif (rt x).1 == 3 then t + 1 else t)
end
theorem rt_eq (e : Ex) : rt e = rtA e.op e.at_ (e.l.length : Int) e.l 0 0 0 := by cases e; simp only [rt, Ex.op, Ex.at_, Ex.l]
theorem MH {α ρ : Type} (g : Bool) (d v : α) (k : α → Option ρ) : bm g d (some v) k = k (bif g then v else d) := by cases g <;> rfl
theorem u5 (op a len : Int) : ∀ (l : List Ex) (i b t : Int), (rtA op a len l i b t).1 = 2 → 7 ≤ op ∧ op ≤ 19
 | [], i, b, t, h => by
  simp only [rtA, u7] at h
  cases c1 : (decide (op ≤ 6) && (i == len))
  ·rw [c1] at h
   simp only [cond_false] at h
   cases c2 : (decide (7 ≤ op) && decide (op ≤ 12) && (i == len) || op == 13 || op == 14)
   ·rw [c2] at h
    simp only [cond_false] at h
    cases c3 : (decide (15 ≤ op) && decide (op ≤ 19) && (b == len))
    ·rw [c3] at h
     simp only [cond_false] at h
     cases c4 : (decide (15 ≤ op) && (b + t == len))
     ·rw [c4] at h; simp at h
     ·rw [c4] at h; simp at h
    ·simp only [Bool.and_eq_true, decide_eq_true_eq] at c3; omega
   ·simp only [Bool.or_eq_true, Bool.and_eq_true, decide_eq_true_eq, beq_iff_eq] at c2; omega
  ·rw [c1] at h; simp at h
 | x :: r, i, b, t, h => by
  simp only [rtA] at h
  cases c : ((rt x).2.1 != 0)
  ·rw [c] at h; exact u5 op a len r _ _ _ h
  ·rw [c] at h; simp at h
theorem Bk (op a len : Int) (h15 : 15 ≤ op) (h19 : op ≤ 19) : ∀ (l : List Ex) (i b t : Int), b + l.length < len → (rtA op a len l i b t).1 ≠ 2
 | [], i, b, t, hb, h => by
  simp only [rtA, u7] at h
  have c1 : decide (op ≤ 6) = false := decide_eq_false (by omega)
  have c2 : decide (op ≤ 12) = false := decide_eq_false (by omega)
  have c3 : (op == 13) = false := beq_eq_false_iff_ne.2 (by omega)
  have c4 : (op == 14) = false := beq_eq_false_iff_ne.2 (by omega)
  have c5 : (b == len) = false := beq_eq_false_iff_ne.2 (by simp at hb; omega)
  rw [c1, c2, c3, c4, c5] at h
  simp only [Bool.false_and, Bool.and_false, Bool.or_false, cond_false] at h
  cases c6 : (decide (15 ≤ op) && (b + t == len))
  ·rw [c6] at h; simp at h
  ·rw [c6] at h; simp at h
 | x :: r, i, b, t, hb, h => by
  simp only [rtA] at h
  simp only [List.length_cons] at hb
  cases c : ((rt x).2.1 != 0)
  ·rw [c] at h
   refine Bk op a len h15 h19 r _ _ _ ?_ h
   cases (rt x).1 == 2
   ·simp only [cond_false]; omega
   ·simp only [cond_true]; omega
  ·rw [c] at h; simp at h
theorem vo (op a len : Int) (h15 : 15 ≤ op) (h19 : op ≤ 19) : ∀ (l : List Ex) (i b t : Int), b + l.length ≤ len → (rtA op a len l i b t).1 = 2 → ∀ x ∈ l, (rt x).1 = 2 ∧ (rt x).2.1 = 0
 | [], _, _, _, _, _, x, hx => by cases hx
 | y :: r, i, b, t, hb, h, x, hx => by
  simp only [rtA] at h
  simp only [List.length_cons] at hb
  cases c : ((rt y).2.1 != 0)
  ·rw [c] at h
   simp only [cond_false] at h
   cases c2 : ((rt y).1 == 2)
   ·rw [c2] at h
    exact absurd h (Bk op a len h15 h19 r _ _ _ (by simp only [cond_false]; omega))
   ·rw [c2] at h
    rcases List.mem_cons.1 hx with rfl | hx
    ·exact ⟨by simpa using c2, by simpa using c⟩
    ·exact vo op a len h15 h19 r _ _ _ (by simp only [cond_true]; omega) h x hx
  ·rw [c] at h; simp at h
theorem wT (b : Bool) : tr b = 0 ∨ tr b = 1 := by cases b; exact .inl rfl; exact .inr rfl
theorem M4 (v : List Int) {l : List Ex} (h : ∀ x ∈ l, ev v x = 0 ∨ ev v x = 1) : (ev0 v l = 0 ∨ ev0 v l = 1) ∧ (ev1 v l = 0 ∨ ev1 v l = 1) := by
 match l, h with
 | [], _ => exact ⟨.inl (by simp only [ev0]), .inl (by simp only [ev1])⟩
 | [x], h => exact ⟨by simp only [ev0]; exact h x (by simp), .inl (by simp only [ev1, ev0])⟩
 | x :: y :: r, h => exact ⟨by simp only [ev0]; exact h x (by simp), by simp only [ev1, ev0]; exact h y (by simp)⟩
theorem Oh (op n : Int) (v : List Int) (a b : Int) (h7 : 7 ≤ op) (h19 : op ≤ 19) (hab : 15 ≤ op → (a = 0 ∨ a = 1) ∧ (b = 0 ∨ b = 1)) : evF op n v a b = 0 ∨ evF op n v a b = 1 := by
 have : op = 7 ∨ op = 8 ∨ op = 9 ∨ op = 10 ∨ op = 11 ∨ op = 12 ∨ op = 13 ∨ op = 14 ∨ op = 15 ∨ op = 16 ∨ op = 17 ∨ op = 18 ∨ op = 19 := by omega
 rcases this with rfl | rfl | rfl | rfl | rfl | rfl | rfl | rfl | rfl | rfl | rfl | rfl | rfl
 ·exact wT _
 ·exact wT _
 ·exact wT _
 ·exact wT _
 ·exact wT _
 ·exact wT _
 ·exact .inr rfl
 ·exact .inl rfl
 ·obtain ⟨ha, _⟩ := hab (by omega)
  rcases ha with rfl | rfl
  ·exact .inr rfl
  ·exact .inl rfl
 ·obtain ⟨ha, hb⟩ := hab (by omega)
  rcases ha with rfl | rfl <;> rcases hb with rfl | rfl
  ·exact .inl rfl
  ·exact .inl rfl
  ·exact .inl rfl
  ·exact .inr rfl
 ·obtain ⟨ha, hb⟩ := hab (by omega)
  rcases ha with rfl | rfl <;> rcases hb with rfl | rfl
  ·exact .inl rfl
  ·exact .inr rfl
  ·exact .inr rfl
  ·exact .inr rfl
 ·obtain ⟨ha, hb⟩ := hab (by omega)
  rcases ha with rfl | rfl <;> rcases hb with rfl | rfl
  ·exact .inr rfl
  ·exact .inr rfl
  ·exact .inl rfl
  ·exact .inr rfl
 ·exact wT _
theorem Nl (v : List Int) : ∀ (N : Nat) (e : Ex), e.sz ≤ N → (rt e).1 = 2 → ev v e = 0 ∨ ev v e = 1 := by
 intro N
 induction N with
 | zero => intro e h; have := rD e; omega
 | succ N ih =>
  intro e h h2
  rw [rt_eq] at h2
  obtain ⟨h7, h19⟩ := u5 _ _ _ _ _ _ _ h2
  rw [yg]
  refine Oh _ _ _ _ _ h7 h19 (fun h15 => M4 v (fun x hx => ?_))
  have := vo _ _ _ h15 h19 _ _ _ _ (by omega) h2 x hx
  exact ih x (by have := tg hx; omega) this.1
theorem ue {vars : Int} {e : Ex} (h : fg vars e = true) : (1 ≤ e.op ∧ e.op ≤ 24) ∧ (e.l.length : Int) = jy e.op ∧ (e.op = 1 → 0 ≤ e.n ∧ e.n ≤ 1073741824) ∧ (e.op = 2 → 0 ≤ e.n ∧ e.n < vars) ∧ ∀ x ∈ e.l, fg vars x = true := by
 rw [Ew] at h
 simp only [mo, Bool.and_eq_true, Bool.not_eq_true', Bool.or_eq_false_iff, decide_eq_false_iff_not, bne_eq_false_iff_eq, Bool.and_eq_false_imp, beq_iff_eq] at h
 obtain ⟨⟨⟨⟨h1, h2⟩, h3⟩, ⟨h4, h5⟩, _⟩, h6⟩ := h
 refine ⟨by omega, h3, fun h => by have := h4 h; omega, fun h => by have := h5 h; omega, ?_⟩
 have : ∀ (l : List Ex), qe vars l = true → ∀ x ∈ l, fg vars x = true := fun l => by
  induction l with
  | nil => intro _ x hx; cases hx
  | cons y r ih =>
   intro h x hx
   simp only [qe, Bool.and_eq_true] at h
   rcases List.mem_cons.1 hx with rfl | hx
   ·exact h.1
   ·exact ih h.2 x hx
 exact this _ h6
theorem Ep (op a len : Int) (h12 : op ≤ 12) : ∀ (l : List Ex) (i b t : Int), i + l.length < len → (rtA op a len l i b t).1 = 0
 | [], i, b, t, hb => by
  simp only [rtA, u7]
  have c5 : (i == len) = false := beq_eq_false_iff_ne.2 (by simp at hb; omega)
  have c3 : (op == 13) = false := beq_eq_false_iff_ne.2 (by omega)
  have c4 : (op == 14) = false := beq_eq_false_iff_ne.2 (by omega)
  have c6 : decide (15 ≤ op) = false := decide_eq_false (by omega)
  rw [c3, c4, c5, c6]
  simp only [Bool.and_false, Bool.or_false, Bool.false_and, cond_false]
 | x :: r, i, b, t, hb => by
  simp only [rtA]
  simp only [List.length_cons] at hb
  cases ((rt x).2.1 != 0)
  ·refine Ep op a len h12 r _ _ _ ?_
   cases (rt x).1 == 1
   ·simp only [cond_false]; omega
   ·simp only [cond_true]; omega
  ·rfl
theorem AM (op a len : Int) (h12 : op ≤ 12) : ∀ (l : List Ex) (i b t : Int), i + l.length ≤ len → (rtA op a len l i b t).1 ≠ 0 → ∀ x ∈ l, (rt x).1 = 1
 | [], _, _, _, _, _, x, hx => by cases hx
 | y :: r, i, b, t, hb, h, x, hx => by
  simp only [rtA] at h
  simp only [List.length_cons] at hb
  cases c : ((rt y).2.1 != 0)
  ·rw [c] at h
   simp only [cond_false] at h
   cases c2 : ((rt y).1 == 1)
   ·rw [c2] at h
    exact absurd (Ep op a len h12 r _ _ _ (by simp only [cond_false]; omega)) h
   ·rw [c2] at h
    rcases List.mem_cons.1 hx with rfl | hx
    ·simpa using c2
    ·exact AM op a len h12 r _ _ _ (by simp only [cond_true]; omega) h x hx
  ·rw [c] at h; exact absurd rfl h
theorem yv (op a len : Int) : ∀ (l : List Ex) (i b t : Int), (rtA op a len l i b t).1 = 1 → op ≤ 6
 | [], i, b, t, h => by
  simp only [rtA, u7] at h
  cases c1 : (decide (op ≤ 6) && (i == len))
  ·rw [c1] at h
   simp only [cond_false] at h
   cases c2 : (decide (7 ≤ op) && decide (op ≤ 12) && (i == len) || op == 13 || op == 14)
   ·rw [c2] at h
    simp only [cond_false] at h
    cases c3 : (decide (15 ≤ op) && decide (op ≤ 19) && (b == len))
    ·rw [c3] at h
     simp only [cond_false] at h
     cases c4 : (decide (15 ≤ op) && (b + t == len))
     ·rw [c4] at h; simp at h
     ·rw [c4] at h; simp at h
    ·rw [c3] at h; simp at h
   ·rw [c2] at h; simp at h
  ·simp only [Bool.and_eq_true, decide_eq_true_eq] at c1; exact c1.1
 | x :: r, i, b, t, h => by
  simp only [rtA] at h
  cases c : ((rt x).2.1 != 0)
  ·rw [c] at h; exact yv op a len r _ _ _ h
  ·rw [c] at h; simp at h
theorem Dh {vars : Int} {e : Ex} (hm : fg vars e = true) (h : (rt e).1 = 1 ∨ (rt e).1 = 2) : ∀ x ∈ e.l, (rt x).1 = 1 ∨ (rt x).1 = 2 := by
 intro x hx
 obtain ⟨_, hw, _⟩ := ue hm
 rw [rt_eq] at h
 by_cases h12 : e.op ≤ 12
 ·exact .inl (AM e.op e.at_ (e.l.length : Int) h12 e.l 0 0 0 (by omega) (by rcases h with h | h <;> rw [h] <;> decide) x hx)
 ·have h2 : (rtA e.op e.at_ (e.l.length : Int) e.l 0 0 0).1 = 2 := by
   rcases h with h | h
   ·have := yv _ _ _ _ _ _ _ h; omega
   ·exact h
  have h719 := u5 _ _ _ _ _ _ _ h2
  by_cases h15 : 15 ≤ e.op
  ·exact .inr (vo _ _ _ h15 h719.2 _ _ _ _ (by omega) h2 x hx).1
  ·have hop : e.op = 13 ∨ e.op = 14 := by omega
   have hw0 : jy e.op = 0 := by rcases hop with h | h <;> rw [h] <;> rfl
   rw [hw0] at hw
   have : e.l = [] := List.eq_nil_of_length_eq_zero (by omega)
   rw [this] at hx; cases hx
end Go.Proofs.YtkckoolfgnkpcaaDoor
namespace Go.Proofs.YtkckoolfgnkpcaaDoor
noncomputable def kD : List Str := [[116, 114, 117, 101], [102, 97, 108, 115, 101], [88], [70], [71], [85], [82], [118, 97, 114], [112, 114, 111, 99]]
noncomputable def NL : List Str := [[], [], [], [43], [45], [42], [45], [61, 61], [33, 61], [60], [60, 61], [62], [62, 61], [116, 114, 117, 101], [102, 97, 108, 115, 101], [33], [38], [124], [45, 62], [60, 45, 62], [88], [70], [71], [85], [82]]
noncomputable def aT (op : Int) : Str := NL.getD op.toNat []
namespace Pa
abbrev Tok := Int × Str × Int × Int
abbrev Out := Except (Int × Int) (Ex × List Tok)
noncomputable def key (s : Str) : Bool := kD.contains s
noncomputable def sgn (t : Tok) : Bool := t.1 == 3 || (t.1 == 1 && key t.2.1)
noncomputable def ops : Nat → List Int
 | 1 => [19]
 | 2 => [18]
 | 3 => [17]
 | 4 => [16]
 | 5 => [23, 24]
 | 6 => [15, 20, 21, 22]
 | 7 => [7, 8, 9, 10, 11, 12]
 | 8 => [3, 4]
 | 9 => [5]
 | 10 => [6]
 | 11 => [13, 14]
 | _ => []
noncomputable def fnd (l : List Int) (t : Tok) : Option Int := bif sgn t then l.find? (fun o => aT o == t.2.1) else none
noncomputable def bM (s : Nat) (t : Tok) : Option Int := fnd (ops s) t
noncomputable def kd : Nat → Nat
 | 6 => 0
 | 10 => 0
 | 1 => 1
 | 2 => 1
 | 5 => 1
 | 7 => 1
 | 3 => 2
 | 4 => 2
 | 8 => 2
 | 9 => 2
 | 11 => 3
 | _ => 4
noncomputable def kB (s : Nat) : Bool := s == 1 || s == 2 || s == 5 || s == 6 || s == 10
noncomputable def dn (s : Nat) (d : Int) : Int := bif kB s then d + 1 else d
noncomputable def ju (s : Nat) (d : Int) : Bool := kB s && decide (320 ≤ d)
noncomputable def nx (s : Nat) : Nat := bif s == 7 then 8 else s
noncomputable def at_ (names : List Str) (v : Str) : Option Nat := names.findIdx? (fun x => v == x)
noncomputable def open_ (t : Tok) : Bool := t.1 == 3 && t.2.1 == [40]
noncomputable def close_ (t : Tok) : Bool := t.1 == 3 && t.2.1 == [41]
noncomputable def oS (t : Tok) : Bool := t.1 == 1 && !key t.2.1
noncomputable def NW (k : Int) (a : Int) (r : Out) : Out := r.map fun p => (.mk k 0 a [p.1], p.2)
noncomputable def M3 (k : Int) (a : Int) (x : Ex) (r : Out) : Out := r.map fun p => (.mk k 0 a [x, p.1], p.2)
inductive Job where
 | line (s : Nat)
 | loop (s : Nat) (a : Ex)
open Job
inductive P (names : List Str) : Job → Int → List Tok → Out → Prop
 | big {s d t ts} : ju s d = true → P names (line s) d (t :: ts) (.error (9, t.2.2.2))
 | pre {s d t ts k r} : kd s = 0 → ju s d = false → bM s t = some k → P names (line s) (dn s d) ts r → P names (line s) d (t :: ts) (NW k t.2.2.2 r)
 | other {s d t ts r} : kd s = 0 → ju s d = false → bM s t = none → P names (line (s + 1)) (dn s d) (t :: ts) r → P names (line s) d (t :: ts) r
 | rErr {s d ts e} : kd s = 1 → ju s d = false → P names (line (s + 1)) (dn s d) ts (.error e) → P names (line s) d ts (.error e)
 | rOne {s d ts a t ts'} : kd s = 1 → ju s d = false → P names (line (s + 1)) (dn s d) ts (.ok (a, t :: ts')) → bM s t = none → P names (line s) d ts (.ok (a, t :: ts'))
 | rTwo {s d ts a t ts' k r} : kd s = 1 → ju s d = false → P names (line (s + 1)) (dn s d) ts (.ok (a, t :: ts')) → bM s t = some k → P names (line (nx s)) (dn s d) ts' r → P names (line s) d ts (M3 k t.2.2.2 a r)
 | lErr {s d ts e} : kd s = 2 → P names (line (s + 1)) d ts (.error e) → P names (line s) d ts (.error e)
 | lGo {s d ts a ts' r} : kd s = 2 → P names (line (s + 1)) d ts (.ok (a, ts')) → P names (loop s a) d ts' r → P names (line s) d ts r
 | lpEnd {s a d t ts} : bM s t = none → P names (loop s a) d (t :: ts) (.ok (a, t :: ts))
 | lpErr {s a d t ts k e} : bM s t = some k → P names (line (s + 1)) d ts (.error e) → P names (loop s a) d (t :: ts) (.error e)
 | lpGo {s a d t ts k b ts' r} : bM s t = some k → P names (line (s + 1)) d ts (.ok (b, ts')) → P names (loop s (.mk k 0 t.2.2.2 [a, b])) d ts' r → P names (loop s a) d (t :: ts) r
 | oWord {s d t ts k} : kd s = 3 → bM s t = some k → P names (line s) d (t :: ts) (.ok (.mk k 0 t.2.2.2 [], ts))
 | oNum {s d t ts} : kd s = 3 → bM s t = none → (t.1 == 2) = true → P names (line s) d (t :: ts) (.ok (.mk 1 t.2.2.1 t.2.2.2 [], ts))
 | oVar {s d t ts i} : kd s = 3 → bM s t = none → (t.1 == 2) = false → oS t = true → at_ names t.2.1 = some i → P names (line s) d (t :: ts) (.ok (.mk 2 (i : Int) t.2.2.2 [], ts))
 | oName {s d t ts} : kd s = 3 → bM s t = none → (t.1 == 2) = false → oS t = true → at_ names t.2.1 = none → P names (line s) d (t :: ts) (.error (3, t.2.2.2))
 | oOpen {s d t ts a c ts'} : kd s = 3 → bM s t = none → (t.1 == 2) = false → oS t = false → open_ t = true → P names (line 1) d ts (.ok (a, c :: ts')) → close_ c = true → P names (line s) d (t :: ts) (.ok (a, ts'))
 | oErr {s d t ts e} : kd s = 3 → bM s t = none → (t.1 == 2) = false → oS t = false → open_ t = true → P names (line 1) d ts (.error e) → P names (line s) d (t :: ts) (.error e)
 | oClose {s d t ts a c ts'} : kd s = 3 → bM s t = none → (t.1 == 2) = false → oS t = false → open_ t = true → P names (line 1) d ts (.ok (a, c :: ts')) → close_ c = false → P names (line s) d (t :: ts) (.error (2, c.2.2.2))
 | oForm {s d t ts} : kd s = 3 → bM s t = none → (t.1 == 2) = false → oS t = false → open_ t = false → P names (line s) d (t :: ts) (.error (2, t.2.2.2))
theorem iY {s : Nat} {d : Int} (h : ju s d = true) : kd s = 0 ∨ kd s = 1 := by
 unfold ju kB at h
 simp only [Bool.and_eq_true, Bool.or_eq_true, beq_iff_eq] at h
 rcases h.1 with (((rfl | rfl) | rfl) | rfl) | rfl <;> simp [kd]
theorem P.det {names : List Str} {j : Job} {d : Int} {ts : List Tok} {r r' : Out} (h : P names j d ts r) (h' : P names j d ts r') : r = r' := by
 induction h generalizing r' with
 | big h0 => have := iY h0; cases h' <;> simp_all
 | pre h0 h1 h2 h3 ih => cases h' <;> simp_all <;> (rename_i h4; rw [ih h4])
 | other h0 h1 h2 h3 ih =>
  cases h' with
  | other _ _ _ h => exact ih h
  | _ => simp_all
 | rErr h0 h1 h2 ih =>
  cases h' with
  | rErr _ _ h => exact ih h
  | rOne _ _ h => cases ih h
  | rTwo _ _ h => cases ih h
  | _ => simp_all
 | rOne h0 h1 h2 h3 ih =>
  cases h' with
  | rErr _ _ h => cases ih h
  | rOne _ _ h => exact ih h
  | rTwo _ _ h h4 => cases ih h; simp_all
  | _ => simp_all
 | rTwo h0 h1 h2 h3 h4 ih ih2 =>
  cases h' with
  | rErr _ _ h => cases ih h
  | rOne _ _ h => cases ih h; simp_all
  | rTwo _ _ h h5 h6 => cases ih h; rw [h3] at h5; cases h5; rw [ih2 h6]
  | _ => simp_all
 | lErr h0 h1 ih =>
  cases h' with
  | lErr _ h => exact ih h
  | lGo _ h => cases ih h
  | big h => have := iY h; simp_all
  | _ => simp_all
 | lGo h0 h1 h2 ih ih2 =>
  cases h' with
  | lErr _ h => cases ih h
  | lGo _ h h3 => cases ih h; exact ih2 h3
  | big h => have := iY h; simp_all
  | _ => simp_all
 | lpEnd h0 => cases h' <;> simp_all
 | lpErr h0 h1 ih =>
  cases h' with
  | lpErr _ h => exact ih h
  | lpGo _ h => cases ih h
  | _ => simp_all
 | lpGo h0 h1 h2 ih ih2 =>
  cases h' with
  | lpErr _ h => cases ih h
  | lpGo h4 h h3 => cases ih h; rw [h0] at h4; cases h4; exact ih2 h3
  | _ => simp_all
 | oOpen h0 h1 h2 h3 h4 h5 h6 ih =>
  cases h' with
  | oOpen _ _ _ _ _ h _ => cases ih h; rfl
  | oErr _ _ _ _ _ h => cases ih h
  | oClose _ _ _ _ _ h h7 => cases ih h; simp_all
  | big h => have := iY h; simp_all
  | _ => simp_all
 | oErr h0 h1 h2 h3 h4 h5 ih =>
  cases h' with
  | oOpen _ _ _ _ _ h _ => cases ih h
  | oErr _ _ _ _ _ h => exact ih h
  | oClose _ _ _ _ _ h h7 => cases ih h
  | big h => have := iY h; simp_all
  | _ => simp_all
 | oClose h0 h1 h2 h3 h4 h5 h6 ih =>
  cases h' with
  | oOpen _ _ _ _ _ h _ => cases ih h; simp_all
  | oErr _ _ _ _ _ h => cases ih h
  | oClose _ _ _ _ _ h h7 => cases ih h; rfl
  | big h => have := iY h; simp_all
  | _ => simp_all
 | oWord h0 h1 => cases h' <;> first | (rename_i h; have := iY h; simp_all; done) | simp_all
 | oNum h0 h1 h2 => cases h' <;> first | (rename_i h; have := iY h; simp_all; done) | simp_all
 | oVar h0 h1 h2 h3 h4 => cases h' <;> first | (rename_i h; have := iY h; simp_all; done) | simp_all
 | oName h0 h1 h2 h3 h4 => cases h' <;> first | (rename_i h; have := iY h; simp_all; done) | simp_all
 | oForm h0 h1 h2 h3 h4 => cases h' <;> first | (rename_i h; have := iY h; simp_all; done) | simp_all
noncomputable def Ends : List Tok → Prop
 | [] => False
 | t :: ts => Ends ts ∨ (ts = [] ∧ t.1 = 4)
theorem Ends.tail {t : Tok} {ts : List Tok} (h : Ends (t :: ts)) (h4 : t.1 ≠ 4) : Ends ts := by
 rcases h with h | ⟨_, h⟩
 ·exact h
 ·exact absurd h h4
theorem Ends.ne {ts : List Tok} (h : Ends ts) : ∃ t r, ts = t :: r := by
 cases ts with
 | nil => exact h.elim
 | cons t r => exact ⟨t, r, rfl⟩
theorem Nb {t : Tok} (h : sgn t = true) : t.1 ≠ 4 := by
 unfold sgn at h
 intro h4
 rw [h4] at h; simp at h
theorem Ly {l : List Int} {t : Tok} {k : Int} (h : fnd l t = some k) : sgn t = true := by
 unfold fnd at h
 cases hs : sgn t
 ·rw [hs] at h; cases h
 ·rfl
theorem N0 {l : List Int} {t : Tok} {k : Int} (h : fnd l t = some k) : t.1 ≠ 4 := Nb (Ly h)
theorem qQ {s : Nat} {t : Tok} {k : Int} (h : bM s t = some k) : t.1 ≠ 4 := N0 h
noncomputable def shorter : Job → Nat → Nat → Prop
 | line _, a, b => a < b
 | loop _ _, a, b => a ≤ b
theorem P.ends {names : List Str} {j : Job} {d : Int} {ts : List Tok} {r : Out} (h : P names j d ts r) : Ends ts → ∀ p, r = .ok p → Ends p.2 ∧ shorter j p.2.length ts.length := by
 induction h with
 | big => intro _ p h; cases h
 | @pre s d t ts k r h0 h1 h2 h3 ih =>
  intro he p h
  cases r with
  | error e => cases h
  | ok q =>
   obtain ⟨i1, i2⟩ := ih (he.tail (qQ h2)) q rfl
   cases h
   refine ⟨i1, ?_⟩
   simp only [shorter, List.length_cons] at *; omega
 | other h0 h1 h2 h3 ih => intro he p h; exact ih he p h
 | rErr => intro _ p h; cases h
 | rOne h0 h1 h2 h3 ih => intro he p h; exact ih he p h
 | @rTwo s d ts a t ts' k r h0 h1 h2 h3 h4 ih ih2 =>
  intro he p h
  cases r with
  | error e => cases h
  | ok q =>
   obtain ⟨i1, i2⟩ := ih he _ rfl
   obtain ⟨i3, i4⟩ := ih2 (i1.tail (qQ h3)) q rfl
   cases h
   refine ⟨i3, ?_⟩
   simp only [shorter, List.length_cons] at *; omega
 | lErr => intro _ p h; cases h
 | lGo h0 h1 h2 ih ih2 =>
  intro he p h
  obtain ⟨i1, i2⟩ := ih he _ rfl
  obtain ⟨i3, i4⟩ := ih2 i1 p h
  refine ⟨i3, ?_⟩
  simp only [shorter] at *; omega
 | lpEnd h0 => intro he p h; cases h; exact ⟨he, Nat.le_refl _⟩
 | lpErr => intro _ p h; cases h
 | lpGo h0 h1 h2 ih ih2 =>
  intro he p h
  obtain ⟨i1, i2⟩ := ih (he.tail (qQ h0)) _ rfl
  obtain ⟨i3, i4⟩ := ih2 i1 p h
  refine ⟨i3, ?_⟩
  simp only [shorter, List.length_cons] at *; omega
 | oWord h0 h1 => intro he p h; cases h; exact ⟨he.tail (qQ h1), Nat.lt_succ_self _⟩
 | oNum h0 h1 h2 => intro he p h; cases h; exact ⟨he.tail (by have := beq_iff_eq.1 h2; omega), Nat.lt_succ_self _⟩
 | oVar h0 h1 h2 h3 h4 => intro he p h; cases h; exact ⟨he.tail (by unfold oS at h3; simp only [Bool.and_eq_true, beq_iff_eq] at h3; omega), Nat.lt_succ_self _⟩
 | oName => intro _ p h; cases h
 | oOpen h0 h1 h2 h3 h4 h5 h6 ih =>
  intro he p h
  cases h
  obtain ⟨i1, i2⟩ := ih (he.tail (by unfold open_ at h4; simp only [Bool.and_eq_true, beq_iff_eq] at h4; omega)) _ rfl
  refine ⟨i1.tail (by unfold close_ at h6; simp only [Bool.and_eq_true, beq_iff_eq] at h6; omega), ?_⟩
  simp only [shorter, List.length_cons] at *; omega
 | oErr => intro _ p h; cases h
 | oClose => intro _ p h; cases h
 | oForm => intro _ p h; cases h
theorem P.err {names : List Str} {j : Job} {d : Int} {ts : List Tok} {r : Out} (h : P names j d ts r) : ∀ e, r = .error e → e.1 = 9 ∨ e.1 = 2 ∨ e.1 = 3 := by
 induction h with
 | big => intro e h; cases h; exact .inl rfl
 | @pre s d t ts k r h0 h1 h2 h3 ih =>
  intro e h
  cases r with
  | error e' => cases h; exact ih _ rfl
  | ok q => cases h
 | other h0 h1 h2 h3 ih => exact ih
 | rErr _ _ _ ih => exact ih
 | rOne => intro e h; cases h
 | @rTwo s d ts a t ts' k r h0 h1 h2 h3 h4 ih ih2 =>
  intro e h
  cases r with
  | error e' => cases h; exact ih2 _ rfl
  | ok q => cases h
 | lErr _ _ ih => exact ih
 | lGo _ _ _ _ ih => exact ih
 | lpEnd => intro e h; cases h
 | lpErr _ _ ih => exact ih
 | lpGo _ _ _ _ ih => exact ih
 | oWord => intro e h; cases h
 | oNum => intro e h; cases h
 | oVar => intro e h; cases h
 | oName => intro e h; cases h; exact .inr (.inr rfl)
 | oOpen => intro e h; cases h
 | oErr _ _ _ _ _ _ ih => exact ih
 | oClose => intro e h; cases h; exact .inr (.inl rfl)
 | oForm => intro e h; cases h; exact .inr (.inl rfl)
end Pa
end Go.Proofs.YtkckoolfgnkpcaaDoor
namespace Go.Proofs.YtkckoolfgnkpcaaDoor
namespace Sy
open Pa
abbrev Cmd := Int × Ex × List (Int × Ex)
abbrev Mdl := List Str × List (Int × Int) × List Int × List Str × List Cmd
abbrev Err := Int × Int
noncomputable def qO (names : List Str) (ts : List Tok) : Out :=
 open Classical in if h : ∃ r, P names (.line 1) 0 ts r then Classical.choose h else .error (2, 0)
theorem IX {names : List Str} {ts : List Tok} {r : Out} (h : P names (.line 1) 0 ts r) : qO names ts = r := by
 unfold qO
 rw [dif_pos ⟨r, h⟩]
 exact (Classical.choose_spec (⟨r, h⟩ : ∃ r, P names (.line 1) 0 ts r)).det h
theorem Ky {names : List Str} {ts : List Tok} {p : Ex × List Tok} (h : qO names ts = .ok p) : P names (.line 1) 0 ts (.ok p) := by
 unfold qO at h
 split at h
 ·rename_i hx
  have := Classical.choose_spec hx
  rw [h] at this; exact this
 ·cases h
noncomputable def isT (k : Int) (x : Str) (t : Tok) : Bool := (t.1 == k) && (t.2.1 == x)
noncomputable def ve : List Tok → Int
 | [] => 0
 | t :: _ => t.2.2.2
noncomputable def isH (k : Int) (x : Str) : List Tok → Bool
 | [] => false
 | t :: _ => isT k x t
noncomputable def aU (x : Str) (ts : List Tok) : Except Err (List Tok) := match ts with
 | [] => .error (2, 0)
 | t :: r => bif isT 3 x t then .ok r else .error (2, t.2.2.2)
noncomputable def cT (full : Bool) (names procs : List Str) (ts : List Tok) : Except Err (Str × List Tok) := match ts with
 | [] => .error (2, 0)
 | t :: r => bif t.1 != 1 then .error (2, t.2.2.2) else bif key t.2.1 || names.contains t.2.1 || procs.contains t.2.1 then .error (3, t.2.2.2) else bif full then .error (9, t.2.2.2) else .ok (t.2.1, r)
noncomputable def jS (neg : Bool) (ts : List Tok) : Except Err (Int × List Tok) := match ts with
 | [] => .error (2, 0)
 | t :: r => bif t.1 != 2 then .error (2, t.2.2.2) else .ok (bif neg then IntKind.i64.wrap (0 - t.2.2.1) else t.2.2.1, r)
noncomputable def di (ts : List Tok) : Except Err (Int × List Tok) := bif isH 3 [45] ts then jS true ts.tail else jS false ts
noncomputable def ku (lo hi : Int) : Bool := !(decide (hi < lo)) && !(decide (lo < -1073741824)) && !(decide (1073741824 < hi)) && !(decide (65535 < IntKind.i64.wrap (hi - lo)))
noncomputable def jk (m : Mdl) (ts : List Tok) : Except Err (Mdl × List Tok) :=
 match cT (decide (16 ≤ (m.1.length : Int))) m.1 m.2.2.2.1 ts with
 | .error e => .error e
 | .ok (name, ts1) => match di ts1 with
  | .error e => .error e
  | .ok (lo, ts2) => match di ts2 with
   | .error e => .error e
   | .ok (hi, ts3) => match di ts3 with
    | .error e => .error e
    | .ok (first, ts4) => match aU [59] ts4 with
     | .error e => .error e
     | .ok ts5 => bif !(ku lo hi) || decide (first < lo) || decide (hi < first) then .error (5, ve ts1) else .ok ((m.1 ++ [name], m.2.1 ++ [(lo, hi)], m.2.2.1 ++ [first], m.2.2.2.1, m.2.2.2.2), ts5)
noncomputable def bZ (want : Int) (names : List Str) (ts : List Tok) : Except Err (Ex × List Tok) :=
 match qO names ts with
 | .error e => .error e
 | .ok (x, r) => bif (rt x).2.1 != 0 then .error ((rt x).2.1, (rt x).2.2) else bif (rt x).1 != want then .error (4, x.at_) else .ok (x, r)
noncomputable def cw (names : List Str) (v : Str) : Int := match at_ names v with
 | some i => (i : Int)
 | none => -1
noncomputable def nV (acc : List (Int × Ex)) (i : Int) : Bool := acc.any (fun s => s.1 == i)
noncomputable def cM (names : List Str) : Nat → List (Int × Ex) → List Tok → Except Err (List (Int × Ex) × List Tok)
 | 0, _, _ => .error (2, 0)
 | f + 1, acc, ts => match ts with
  | [] => .error (2, 0)
  | t :: r => bif t.1 != 1 then .error (2, t.2.2.2) else bif decide (cw names t.2.1 < 0) || nV acc (cw names t.2.1) then .error (3, t.2.2.2) else
   match aU [61] r with
   | .error e => .error e
   | .ok r1 => match bZ 1 names r1 with
    | .error e => .error e
    | .ok (x, r2) => bif isH 3 [44] r2 then cM names f (acc ++ [(cw names t.2.1, x)]) r2.tail else .ok (acc ++ [(cw names t.2.1, x)], r2)
noncomputable def gW (m : Mdl) (ts : List Tok) : Except Err (Mdl × List Tok) :=
 bif decide (256 ≤ (m.2.2.2.2.length : Int)) then .error (9, ve ts) else
 match bZ 2 m.1 ts with
 | .error e => .error e
 | .ok (g, r1) => match aU [58] r1 with
  | .error e => .error e
  | .ok r2 => match cM m.1 (r2.length + 1) [] r2 with
   | .error e => .error e
   | .ok (sets, r3) => match aU [59] r3 with
    | .error e => .error e
    | .ok r4 => .ok ((m.1, m.2.1, m.2.2.1, m.2.2.2.1, m.2.2.2.2 ++ [(IntKind.i64.wrap ((m.2.2.2.1.length : Int) - 1), g, sets)]), r4)
noncomputable def gu : Nat → Mdl → List Tok → Except Err (Mdl × List Tok)
 | 0, _, _ => .error (2, 0)
 | f + 1, m, ts => bif isH 3 [125] ts then .ok (m, ts.tail) else match gW m ts with
  | .error e => .error e
  | .ok (m', r) => gu f m' r
noncomputable def lj (m : Mdl) (ts : List Tok) : Except Err (Mdl × List Tok) :=
 match cT false m.1 m.2.2.2.1 ts with
 | .error e => .error e
 | .ok (name, r1) => match aU [123] r1 with
  | .error e => .error e
  | .ok r2 => gu (r2.length + 1) (m.1, m.2.1, m.2.2.1, m.2.2.2.1 ++ [name], m.2.2.2.2) r2
noncomputable def iT : Nat → Mdl → List Tok → Except Err Mdl
 | 0, _, _ => .error (2, 0)
 | f + 1, m, ts => match ts with
  | [] => .error (2, 0)
  | t :: r => bif t.1 == 4 then (bif m.1.isEmpty then .error (2, t.2.2.2) else .ok m)
   else bif isT 1 [118, 97, 114] t then (match jk m r with
    | .error e => .error e
    | .ok (m', r') => iT f m' r')
   else bif isT 1 [112, 114, 111, 99] t then (match lj m r with
    | .error e => .error e
    | .ok (m', r') => iT f m' r')
   else .error (2, t.2.2.2)
noncomputable def sys (l : List Tok) : Except Err Mdl := iT (l.length + 1) ([], [], [], [], []) l
noncomputable def wI : Except Err Mdl → Mdl × Int × Int
 | .ok m => (m, 0, 0)
 | .error e => (([], [], [], [], []), e.1, e.2)
/-! what is read is shorter, and ends as it ended -/
noncomputable def cu (ts ts' : List Tok) : Prop := Pa.Ends ts' ∧ ts'.length < ts.length
theorem B6 {k : Int} {x : Str} {t : Tok} (h : isT k x t = true) (hk : k ≠ 4) : t.1 ≠ 4 := by
 unfold isT at h
 simp only [Bool.and_eq_true, beq_iff_eq] at h
 omega
theorem gM {x : Str} {ts r : List Tok} (he : Pa.Ends ts) (h : aU x ts = .ok r) : cu ts r := by
 obtain ⟨t, ts', rfl⟩ := he.ne
 simp only [aU] at h
 cases hc : isT 3 x t
 ·rw [hc] at h; cases h
 ·rw [hc] at h; cases h
  exact ⟨he.tail (B6 hc (by decide)), Nat.lt_succ_self _⟩
theorem xg {full : Bool} {names procs : List Str} {ts : List Tok} {p : Str × List Tok} (he : Pa.Ends ts) (h : cT full names procs ts = .ok p) :
  cu ts p.2 ∧ key p.1 = false ∧ names.contains p.1 = false ∧ procs.contains p.1 = false ∧ full = false := by
 obtain ⟨t, ts', rfl⟩ := he.ne
 simp only [cT] at h
 cases h1 : (t.1 != 1)
 ·rw [h1] at h
  simp only [cond_false] at h
  cases h2 : (key t.2.1 || names.contains t.2.1 || procs.contains t.2.1)
  ·rw [h2] at h
   simp only [cond_false] at h
   cases full
   ·cases h
    simp only [Bool.or_eq_false_iff] at h2
    have : t.1 = 1 := by simpa using h1
    exact ⟨⟨he.tail (by omega), Nat.lt_succ_self _⟩, h2.1.1, h2.1.2, h2.2, rfl⟩
   ·cases h
  ·rw [h2] at h; cases h
 ·rw [h1] at h; cases h
theorem CL {neg : Bool} {ts : List Tok} {p : Int × List Tok} (he : Pa.Ends ts) (h : jS neg ts = .ok p) : cu ts p.2 := by
 obtain ⟨t, ts', rfl⟩ := he.ne
 simp only [jS] at h
 cases h1 : (t.1 != 2)
 ·rw [h1] at h
  cases h
  have : t.1 = 2 := by simpa using h1
  exact ⟨he.tail (by omega), Nat.lt_succ_self _⟩
 ·rw [h1] at h; cases h
theorem iI {k : Int} {x : Str} {ts : List Tok} (he : Pa.Ends ts) (hk : k ≠ 4) (h : isH k x ts = true) : Pa.Ends ts.tail ∧ ts.tail.length + 1 = ts.length := by
 obtain ⟨t, ts', rfl⟩ := he.ne
 exact ⟨he.tail (B6 h hk), rfl⟩
theorem y8 {ts : List Tok} {p : Int × List Tok} (he : Pa.Ends ts) (h : di ts = .ok p) : cu ts p.2 := by
 unfold di at h
 cases hc : isH 3 [45] ts
 ·rw [hc] at h; exact CL he h
 ·rw [hc] at h
  obtain ⟨h1, h2⟩ := iI he (by decide) hc
  obtain ⟨h3, h4⟩ := CL h1 h
  exact ⟨h3, by omega⟩
theorem km {want : Int} {names : List Str} {ts : List Tok} {p : Ex × List Tok} (he : Pa.Ends ts) (h : bZ want names ts = .ok p) :
  cu ts p.2 ∧ P names (.line 1) 0 ts (.ok p) ∧ (rt p.1).2.1 = 0 ∧ (rt p.1).1 = want := by
 unfold bZ at h
 cases hr : qO names ts with
 | error e => rw [hr] at h; cases h
 | ok q =>
  obtain ⟨x, r⟩ := q
  rw [hr] at h
  simp only at h
  cases h1 : ((rt x).2.1 != 0)
  ·rw [h1] at h
   simp only [cond_false] at h
   cases h2 : ((rt x).1 != want)
   ·rw [h2] at h
    cases h
    have hp := Ky hr
    exact ⟨hp.ends he _ rfl, hp, by simpa using h1, by simpa using h2⟩
   ·rw [h2] at h; cases h
  ·rw [h1] at h; cases h
theorem cu.trans {a b c : List Tok} (h : cu a b) (k : cu b c) : cu a c := ⟨k.1, Nat.lt_trans k.2 h.2⟩
theorem BT {names : List Str} : ∀ (f : Nat) (acc : List (Int × Ex)) (ts : List Tok) (p : List (Int × Ex) × List Tok), Pa.Ends ts → cM names f acc ts = .ok p → cu ts p.2 := by
 intro f
 induction f with
 | zero => intro _ _ _ _ h; simp [cM] at h
 | succ f ih =>
  intro acc ts p he h
  obtain ⟨t, r, rfl⟩ := he.ne
  simp only [cM] at h
  cases h1 : (t.1 != 1)
  case true => rw [h1] at h; cases h
  rw [h1] at h
  simp only [cond_false] at h
  cases h2 : (decide (cw names t.2.1 < 0) || nV acc (cw names t.2.1))
  case true => rw [h2] at h; cases h
  rw [h2] at h
  simp only [cond_false] at h
  have ht : t.1 = 1 := by simpa using h1
  have he1 := he.tail (by omega)
  cases h3 : aU [61] r with
  | error e => rw [h3] at h; cases h
  | ok r1 =>
   rw [h3] at h
   simp only at h
   have s1 := gM he1 h3
   cases h4 : bZ 1 names r1 with
   | error e => rw [h4] at h; cases h
   | ok q =>
    obtain ⟨x, r2⟩ := q
    rw [h4] at h
    simp only at h
    have s2 : cu r1 r2 := (km s1.1 h4).1
    have s12 : cu (t :: r) r2 := ⟨s2.1, by have := s1.2; have := s2.2; simp only [List.length_cons]; omega⟩
    cases h5 : isH 3 [44] r2
    ·rw [h5] at h
     cases h
     exact s12
    ·rw [h5] at h
     simp only [cond_true] at h
     obtain ⟨e1, e2⟩ := iI s2.1 (by decide) h5
     have := ih _ _ _ e1 h
     exact ⟨this.1, by have := this.2; have := s12.2; omega⟩
theorem EI {m : Mdl} {ts : List Tok} {p : Mdl × List Tok} (he : Pa.Ends ts) (h : jk m ts = .ok p) : cu ts p.2 ∧
  ∃ name lo hi first, p.1 = (m.1 ++ [name], m.2.1 ++ [(lo, hi)], m.2.2.1 ++ [first], m.2.2.2.1, m.2.2.2.2) ∧ ku lo hi = true ∧ lo ≤ first ∧ first ≤ hi ∧ m.1.length < 16 ∧ m.1.contains name = false := by
 unfold jk at h
 cases h1 : cT (decide (16 ≤ (m.1.length : Int))) m.1 m.2.2.2.1 ts with
 | error e => rw [h1] at h; cases h
 | ok q1 =>
  obtain ⟨name, ts1⟩ := q1
  rw [h1] at h
  simp only at h
  obtain ⟨s1, _, hnm, _, hfull⟩ := xg he h1
  cases h2 : di ts1 with
  | error e => rw [h2] at h; cases h
  | ok q2 =>
   obtain ⟨lo, ts2⟩ := q2
   rw [h2] at h
   simp only at h
   have s2 := y8 s1.1 h2
   cases h3 : di ts2 with
   | error e => rw [h3] at h; cases h
   | ok q3 =>
    obtain ⟨hi, ts3⟩ := q3
    rw [h3] at h
    simp only at h
    have s3 := y8 s2.1 h3
    cases h4 : di ts3 with
    | error e => rw [h4] at h; cases h
    | ok q4 =>
     obtain ⟨first, ts4⟩ := q4
     rw [h4] at h
     simp only at h
     have s4 := y8 s3.1 h4
     cases h5 : aU [59] ts4 with
     | error e => rw [h5] at h; cases h
     | ok ts5 =>
      rw [h5] at h
      simp only at h
      have s5 := gM s4.1 h5
      cases h6 : (!(ku lo hi) || decide (first < lo) || decide (hi < first))
      ·rw [h6] at h
       cases h
       simp only [Bool.or_eq_false_iff, decide_eq_false_iff_not, Bool.not_eq_false'] at h6
       simp only [decide_eq_false_iff_not] at hfull
       exact ⟨(((s1.trans s2).trans s3).trans s4).trans s5, name, lo, hi, first, rfl, h6.1.1, by omega, by omega, by omega, hnm⟩
      ·rw [h6] at h; cases h
theorem yH {m : Mdl} {ts : List Tok} {p : Mdl × List Tok} (he : Pa.Ends ts) (h : gW m ts = .ok p) : cu ts p.2 ∧
  ∃ g r1 r2 sets r3, m.2.2.2.2.length < 256 ∧ bZ 2 m.1 ts = .ok (g, r1) ∧ Pa.Ends r2 ∧ cM m.1 (r2.length + 1) [] r2 = .ok (sets, r3) ∧
   p.1 = (m.1, m.2.1, m.2.2.1, m.2.2.2.1, m.2.2.2.2 ++ [(IntKind.i64.wrap ((m.2.2.2.1.length : Int) - 1), g, sets)]) ∧ aU [58] r1 = .ok r2 ∧ aU [59] r3 = .ok p.2 := by
 unfold gW at h
 cases h0 : decide (256 ≤ (m.2.2.2.2.length : Int))
 case true => rw [h0] at h; cases h
 rw [h0] at h
 simp only [cond_false] at h
 simp only [decide_eq_false_iff_not] at h0
 cases h1 : bZ 2 m.1 ts with
 | error e => rw [h1] at h; cases h
 | ok q1 =>
  obtain ⟨g, r1⟩ := q1
  rw [h1] at h
  simp only at h
  have s1 := (km he h1).1
  cases h2 : aU [58] r1 with
  | error e => rw [h2] at h; cases h
  | ok r2 =>
   rw [h2] at h
   simp only at h
   have s2 := gM s1.1 h2
   cases h3 : cM m.1 (r2.length + 1) [] r2 with
   | error e => rw [h3] at h; cases h
   | ok q3 =>
    obtain ⟨sets, r3⟩ := q3
    rw [h3] at h
    simp only at h
    have s3 := BT _ _ _ _ s2.1 h3
    cases h4 : aU [59] r3 with
    | error e => rw [h4] at h; cases h
    | ok r4 =>
     rw [h4] at h
     cases h
     have s4 := gM s3.1 h4
     exact ⟨((s1.trans s2).trans s3).trans s4, g, r1, r2, sets, r3, by omega, rfl, s2.1, h3, rfl, h2, h4⟩
end Sy
end Go.Proofs.YtkckoolfgnkpcaaDoor
namespace Go.Proofs.YtkckoolfgnkpcaaDoor
namespace Pa
open Job
noncomputable def szJ : Job → Nat
 | line _ => 0
 | loop _ a => a.sz
theorem Ba (k n a : Int) : (Ex.mk k n a []).sz = 1 := by simp [Ex.sz, szL]
theorem Nz (k n a : Int) (x : Ex) : (Ex.mk k n a [x]).sz = x.sz + 1 := by simp [Ex.sz, szL]
theorem GS (k n a : Int) (x y : Ex) : (Ex.mk k n a [x, y]).sz = x.sz + y.sz + 1 := by simp [Ex.sz, szL]
theorem P.size {names : List Str} {j : Job} {d : Int} {ts : List Tok} {r : Out} (h : P names j d ts r) : ∀ p, r = .ok p → p.1.sz + p.2.length ≤ ts.length + szJ j := by
 induction h with
 | big => intro p h; cases h
 | @pre s d t ts k r h0 h1 h2 h3 ih =>
  intro p h
  cases r with
  | error e => cases h
  | ok q => have := ih q rfl; cases h; simp only [szJ, Nz, List.length_cons] at *; omega
 | other h0 h1 h2 h3 ih => intro p h; exact ih p h
 | rErr => intro p h; cases h
 | rOne h0 h1 h2 h3 ih => intro p h; exact ih p h
 | @rTwo s d ts a t ts' k r h0 h1 h2 h3 h4 ih ih2 =>
  intro p h
  cases r with
  | error e => cases h
  | ok q => have i1 := ih _ rfl; have i2 := ih2 q rfl; cases h; simp only [szJ, GS, List.length_cons] at *; omega
 | lErr => intro p h; cases h
 | lGo h0 h1 h2 ih ih2 => intro p h; have i1 := ih _ rfl; have i2 := ih2 p h; simp only [szJ] at *; omega
 | lpEnd h0 => intro p h; cases h; simp only [szJ]; omega
 | lpErr => intro p h; cases h
 | lpGo h0 h1 h2 ih ih2 => intro p h; have i1 := ih _ rfl; have i2 := ih2 p h; simp only [szJ, GS, List.length_cons] at *; omega
 | oWord h0 h1 => intro p h; cases h; simp only [szJ, Ba, List.length_cons]; omega
 | oNum h0 h1 h2 => intro p h; cases h; simp only [szJ, Ba, List.length_cons]; omega
 | oVar h0 h1 h2 h3 h4 => intro p h; cases h; simp only [szJ, Ba, List.length_cons]; omega
 | oName => intro p h; cases h
 | oOpen h0 h1 h2 h3 h4 h5 h6 ih => intro p h; cases h; have := ih _ rfl; simp only [szJ, List.length_cons] at *; omega
 | oErr => intro p h; cases h
 | oClose => intro p h; cases h
 | oForm => intro p h; cases h
theorem P.suf {names : List Str} {j : Job} {d : Int} {ts : List Tok} {r : Out} (h : P names j d ts r) : ∀ p, r = .ok p → p.2 <:+ ts := by
 induction h with
 | big => intro p h; cases h
 | @pre s d t ts k r h0 h1 h2 h3 ih =>
  intro p h
  cases r with
  | error e => cases h
  | ok q => have := ih q rfl; cases h; exact this.trans (List.suffix_cons _ _)
 | other h0 h1 h2 h3 ih => exact ih
 | rErr => intro p h; cases h
 | rOne h0 h1 h2 h3 ih => exact ih
 | @rTwo s d ts a t ts' k r h0 h1 h2 h3 h4 ih ih2 =>
  intro p h
  cases r with
  | error e => cases h
  | ok q => have i1 := ih _ rfl; have i2 := ih2 q rfl; cases h; exact (i2.trans (List.suffix_cons _ _)).trans i1
 | lErr => intro p h; cases h
 | lGo h0 h1 h2 ih ih2 => intro p h; exact (ih2 p h).trans (ih _ rfl)
 | lpEnd h0 => intro p h; cases h; exact List.suffix_refl _
 | lpErr => intro p h; cases h
 | lpGo h0 h1 h2 ih ih2 => intro p h; exact ((ih2 p h).trans (ih _ rfl)).trans (List.suffix_cons _ _)
 | oWord h0 h1 => intro p h; cases h; exact List.suffix_cons _ _
 | oNum h0 h1 h2 => intro p h; cases h; exact List.suffix_cons _ _
 | oVar h0 h1 h2 h3 h4 => intro p h; cases h; exact List.suffix_cons _ _
 | oName => intro p h; cases h
 | oOpen h0 h1 h2 h3 h4 h5 h6 ih => intro p h; cases h; exact ((List.suffix_cons _ _).trans (ih _ rfl)).trans (List.suffix_cons _ _)
 | oErr => intro p h; cases h
 | oClose => intro p h; cases h
 | oForm => intro p h; cases h
noncomputable def pj (t : Tok) : Prop := t.1 = 2 → 0 ≤ t.2.2.1 ∧ t.2.2.1 ≤ 1073741824
theorem sn {s : Nat} {t : Tok} {k : Int} (h : bM s t = some k) : k ∈ ops s := by
 unfold bM fnd at h
 cases hs : sgn t
 ·rw [hs] at h; cases h
 ·rw [hs] at h; exact List.mem_of_find?_eq_some h
theorem LQ {s : Nat} (hk : kd s = 0) {k : Int} (h : k ∈ ops s) (vars : Int) : mo k 0 1 (jy k) vars = true := by
 have : s = 6 ∨ s = 10 := by
  unfold kd at hk
  split at hk <;> first | (cases hk; done) | simp
 rcases this with rfl | rfl
 ·simp only [ops, List.mem_cons, List.not_mem_nil, or_false] at h
  rcases h with rfl | rfl | rfl | rfl <;> rfl
 ·simp only [ops, List.mem_cons, List.not_mem_nil, or_false] at h
  subst h; rfl
theorem D8 {s : Nat} (hk : kd s = 1 ∨ kd s = 2) {k : Int} (h : k ∈ ops s) (vars : Int) : mo k 0 2 (jy k) vars = true := by
 have : s = 1 ∨ s = 2 ∨ s = 3 ∨ s = 4 ∨ s = 5 ∨ s = 7 ∨ s = 8 ∨ s = 9 := by
  unfold kd at hk
  split at hk <;> first | (rcases hk with hk | hk <;> cases hk; done) | simp
 rcases this with rfl | rfl | rfl | rfl | rfl | rfl | rfl | rfl <;> simp only [ops, List.mem_cons, List.not_mem_nil, or_false] at h
 ·subst h; rfl
 ·subst h; rfl
 ·subst h; rfl
 ·subst h; rfl
 ·rcases h with rfl | rfl <;> rfl
 ·rcases h with rfl | rfl | rfl | rfl | rfl | rfl <;> rfl
 ·rcases h with rfl | rfl <;> rfl
 ·subst h; rfl
theorem HZ {s : Nat} (hk : kd s = 3) {k : Int} (h : k ∈ ops s) (vars : Int) : mo k 0 0 (jy k) vars = true := by
 have : s = 11 := by
  unfold kd at hk
  split at hk <;> first | (cases hk; done) | simp
 subst this
 simp only [ops, List.mem_cons, List.not_mem_nil, or_false] at h
 rcases h with rfl | rfl <;> rfl
theorem yY {vars k n a : Int} (h : mo k n 0 (jy k) vars = true) : fg vars (.mk k n a []) = true := by
 simp only [fg, qe, List.length_nil]; rw [show ((0 : Nat) : Int) = 0 from rfl, h]; rfl
theorem LU {vars k a : Int} {x : Ex} (h : mo k 0 1 (jy k) vars = true) (hx : fg vars x = true) : fg vars (.mk k 0 a [x]) = true := by
 simp only [fg, qe, List.length_cons, List.length_nil]; rw [show ((0 + 1 : Nat) : Int) = 1 from rfl, h, hx]; rfl
theorem D7 {vars k a : Int} {x y : Ex} (h : mo k 0 2 (jy k) vars = true) (hx : fg vars x = true) (hy : fg vars y = true) : fg vars (.mk k 0 a [x, y]) = true := by
 simp only [fg, qe, List.length_cons, List.length_nil]; rw [show ((0 + 1 + 1 : Nat) : Int) = 2 from rfl, h, hx, hy]; rfl
noncomputable def OQ (vars : Int) : Job → Bool
 | line _ => true
 | loop _ a => fg vars a
noncomputable def okJ : Job → Prop
 | line _ => True
 | loop s _ => kd s = 2
theorem KM {names : List Str} {v : Str} {i : Nat} (h : at_ names v = some i) : i < names.length := by
 unfold at_ at h
 have := List.findIdx?_eq_some_iff_getElem.1 h
 exact this.1
theorem P.may {names : List Str} {j : Job} {d : Int} {ts : List Tok} {r : Out} (h : P names j d ts r) : okJ j → (∀ t ∈ ts, pj t) → OQ names.length j = true → ∀ p, r = .ok p → fg names.length p.1 = true := by
 induction h with
 | big => intro _ _ _ p h; cases h
 | @pre s d t ts k r h0 h1 h2 h3 ih =>
  intro _ hq _ p h
  cases r with
  | error e => cases h
  | ok q => have := ih trivial (fun t ht => hq t (List.mem_cons_of_mem _ ht)) rfl q rfl; cases h; exact LU (LQ h0 (sn h2) _) this
 | other h0 h1 h2 h3 ih => intro _ hq hj p h; exact ih trivial hq rfl p h
 | rErr => intro _ _ _ p h; cases h
 | rOne h0 h1 h2 h3 ih => intro _ hq hj p h; exact ih trivial hq rfl _ h
 | @rTwo s d ts a t ts' k r h0 h1 h2 h3 h4 ih ih2 =>
  intro _ hq _ p h
  cases r with
  | error e => cases h
  | ok q =>
   have i1 := ih trivial hq rfl _ rfl
   have hs := h2.suf _ rfl
   have i2 := ih2 trivial (fun t ht => hq t (hs.mem (List.mem_cons_of_mem _ ht))) rfl q rfl
   cases h
   exact D7 (D8 (.inl h0) (sn h3) _) i1 i2
 | lErr => intro _ _ _ p h; cases h
 | lGo h0 h1 h2 ih ih2 =>
  intro _ hq _ p h
  have i1 := ih trivial hq rfl _ rfl
  have hs := h1.suf _ rfl
  exact ih2 h0 (fun t ht => hq t (hs.mem ht)) i1 p h
 | lpEnd h0 => intro _ hq hj p h; cases h; exact hj
 | lpErr => intro _ _ _ p h; cases h
 | @lpGo s a d t ts k b ts' r h0 h1 h2 ih ih2 =>
  intro ho hq hj p h
  have i1 := ih trivial (fun t ht => hq t (List.mem_cons_of_mem _ ht)) rfl _ rfl
  have hs := h1.suf _ rfl
  exact ih2 ho (fun t ht => hq t (List.mem_cons_of_mem _ (hs.mem ht))) (D7 (a := t.2.2.2) (D8 (.inr ho) (sn h0) _) hj i1) p h
 | oWord h0 h1 => intro _ hq _ p h; cases h; exact yY (HZ h0 (sn h1) _)
 | @oNum s d t ts h0 h1 h2 =>
  intro _ hq _ p h
  cases h
  obtain ⟨n0, n1⟩ := hq t (List.mem_cons_self ..) (beq_iff_eq.1 h2)
  refine yY ?_
  simp only [mo, jy]
  have e1 : decide (t.2.2.1 < 0) = false := decide_eq_false (by omega)
  have e2 : decide (1073741824 < t.2.2.1) = false := decide_eq_false (by omega)
  rw [e1, e2]; rfl
 | @oVar s d t ts i h0 h1 h2 h3 h4 =>
  intro _ hq _ p h
  cases h
  have hlt := KM h4
  refine yY ?_
  simp only [mo, jy]
  have e1 : decide ((i : Int) < 0) = false := decide_eq_false (by omega)
  have e2 : decide ((names.length : Int) ≤ (i : Int)) = false := decide_eq_false (by omega)
  rw [e1, e2]; rfl
 | oName => intro _ _ _ p h; cases h
 | @oOpen s d t ts a c ts' h0 h1 h2 h3 h4 h5 h6 ih => intro _ hq _ p h; cases h; exact ih trivial (fun t ht => hq t (List.mem_cons_of_mem _ ht)) rfl (a, c :: ts') rfl
 | oErr => intro _ _ _ p h; cases h
 | oClose => intro _ _ _ p h; cases h
 | oForm => intro _ _ _ p h; cases h
end Pa
end Go.Proofs.YtkckoolfgnkpcaaDoor
namespace Go.Proofs.YtkckoolfgnkpcaaDoor
namespace Pa
noncomputable def isLet (c : UInt8) : Bool := (decide (97 ≤ c) && decide (c ≤ 122)) || (decide (65 ≤ c) && decide (c ≤ 90)) || c == 95
noncomputable def dP (t : Tok) : Prop := (t.1 = 1 ∧ ∃ c s, t.2.1 = c :: s ∧ isLet c = true) ∨ t.1 = 2 ∨ (t.1 = 3 ∧ ∀ c s, t.2.1 = c :: s → isLet c = false) ∨ t.1 = 4
theorem jK {l : List Tok} {a : Nat} {t : Tok} {ts : List Tok} (h : l.drop a = t :: ts) : idx l (a : Int) = some t ∧ l.drop (a + 1) = ts ∧ a < l.length ∧ t ∈ l := by
 have hlt : a < l.length := by
  rcases Nat.lt_or_ge a l.length with h1 | h1
  ·exact h1
  ·rw [List.drop_of_length_le h1] at h; cases h
 rw [List.drop_eq_getElem_cons hlt] at h
 simp only [List.cons.injEq] at h
 refine ⟨by simp [idx, List.getElem?_eq_getElem hlt, h.1], h.2, hlt, by rw [← h.1]; exact List.getElem_mem ..⟩
theorem bu {a : Nat} (h : a < 4611686018427387904) : IntKind.i64.wrap ((a : Int) + 1) = ((a + 1 : Nat) : Int) := by rw [w64 (by omega)]; omega
end Pa
namespace Sy
open Pa
theorem eK {α : Type} {l pre r : List α} {x : α} (h : l = pre ++ x :: r) : decide ((pre.length : Int) < (List.length l : Int)) = true := by subst h; simp; omega
theorem fO {α : Type} {l pre : List α} (h : l = pre ++ []) : decide ((pre.length : Int) < (List.length l : Int)) = false := by subst h; simp
theorem mid {α : Type} {l pre r : List α} {x : α} (h : l = pre ++ x :: r) : idx l (pre.length : Int) = some x := by subst h; simp [idx]
theorem bO {k b : Nat} (h : k * b ≤ 140737488355328) (h2 : k ≤ 9223372036854775807) : aw k b = true := by
 simp only [aw, Bool.and_eq_true]; exact ⟨Nat.ble_eq_true_of_le h, Nat.ble_eq_true_of_le h2⟩
theorem cb {ρ : Type} {c : Bool} (h : c = true) (k : Option ρ) : chk c k = k := by subst h; rfl
end Sy
end Go.Proofs.YtkckoolfgnkpcaaDoor
namespace Go.Proofs.YtkckoolfgnkpcaaDoor
theorem Ek (name : Str) : eO name = some (kD.contains name) := by
 unfold eO mG kD
 simp only [List.contains_cons, List.contains_nil, Bool.or_false]
 cases (name == [116, 114, 117, 101])
 case true => rfl
 cases (name == [102, 97, 108, 115, 101])
 case true => rfl
 cases (name == [88])
 case true => rfl
 cases (name == [70])
 case true => rfl
 cases (name == [71])
 case true => rfl
 cases (name == [85])
 case true => rfl
 cases (name == [82])
 case true => rfl
 cases (name == [118, 97, 114])
 case true => rfl
 cases (name == [112, 114, 111, 99]) <;> rfl
end Go.Proofs.YtkckoolfgnkpcaaDoor
namespace Go.Proofs.YtkckoolfgnkpcaaDoor
namespace Pa
open Job
noncomputable def sP (w : Bool) (x : Str) : Bool := match x with
 | [] => false
 | c :: _ => isLet c == w && kD.contains x == w
theorem AR {t : Tok} (h : dP t) {x : Str} (hx : sP true x = true) : (sgn t && (x == t.2.1)) = ((t.1 == 1) && (t.2.1 == x)) := by
 obtain ⟨k, y, n, p⟩ := t
 simp only [dP] at h
 simp only [sgn, key]
 by_cases he : y = x
 ·subst he
  rcases h with ⟨rfl, c, s, hy, hc⟩ | rfl | ⟨rfl, h3⟩ | rfl
  ·subst hy
   simp only [sP, Bool.and_eq_true, beq_iff_eq] at hx
   rw [hx.2]; simp
  ·simp
  ·cases y with
   | nil => cases hx
   | cons c s =>
    simp only [sP, Bool.and_eq_true, beq_iff_eq] at hx
    rw [h3 c s rfl] at hx; cases hx.1
  ·simp
 ·have e1 : (x == y) = false := beq_eq_false_iff_ne.2 (fun e => he e.symm)
  have e2 : (y == x) = false := beq_eq_false_iff_ne.2 he
  rw [e1, e2]; simp
theorem Nd {t : Tok} (h : dP t) {x : Str} (hx : sP false x = true) : (sgn t && (x == t.2.1)) = ((t.1 == 3) && (t.2.1 == x)) := by
 obtain ⟨k, y, n, p⟩ := t
 simp only [dP] at h
 simp only [sgn, key]
 by_cases he : y = x
 ·subst he
  rcases h with ⟨rfl, c, s, hy, hc⟩ | rfl | ⟨rfl, h3⟩ | rfl
  ·subst hy
   simp only [sP, Bool.and_eq_true, beq_iff_eq] at hx
   rw [hx.1] at hc; cases hc
  ·simp
  ·simp
  ·simp
 ·have e1 : (x == y) = false := beq_eq_false_iff_ne.2 (fun e => he e.symm)
  have e2 : (y == x) = false := beq_eq_false_iff_ne.2 he
  rw [e1, e2]; simp
noncomputable def eW (t : Tok) : Bool := (t.1 != 2) && (t.1 != 4)
theorem hit {t : Tok} (h : dP t) {x : Str} {w : Bool} (hx : sP w x = true) : (sgn t && (x == t.2.1)) = (eW t && (t.2.1 == x)) := by
 by_cases he : t.2.1 = x
 ·rcases h with ⟨h1, c, s, hy, hc⟩ | h2 | ⟨h3, h4⟩ | h4
  ·rw [he] at hy
   have hk : kD.contains x = true := by
    subst hy
    simp only [sP, Bool.and_eq_true, beq_iff_eq] at hx
    rw [hx.2, ← hx.1]; exact hc
   have hm : x ∈ kD := by simpa using hk
   simp [sgn, key, eW, h1, he, hm]
  ·simp [sgn, eW, h2]
  ·simp [sgn, eW, h3, he]
  ·simp [sgn, eW, h4]
 ·have e1 : (x == t.2.1) = false := beq_eq_false_iff_ne.2 (fun e => he e.symm)
  have e2 : (t.2.1 == x) = false := beq_eq_false_iff_ne.2 he
  rw [e1, e2]; simp
theorem iV (t : Tok) : fnd [] t = none := by unfold fnd; cases sgn t <;> rfl
theorem gJ (o : Int) (l : List Int) (t : Tok) : fnd (o :: l) t = bif (sgn t && (aT o == t.2.1)) then some o else fnd l t := by
 unfold fnd
 cases sgn t
 ·rfl
 ·simp only [cond_true, List.find?_cons, Bool.true_and]
  cases aT o == t.2.1 <;> rfl
noncomputable def opt (o : Option Int) : Int := o.getD 0
theorem OO {t : Tok} (h : dP t) : br t 1 = some (opt (bM 1 t)) := by
 have e := hit h (x := aT 19) (w := false) rfl
 simp only [bM, ops, gJ, iV, e]
 show (bif eW t then (bif (t.2.1 == aT 19) then some 19 else some 0) else some 0) = _
 cases eW t <;> cases (t.2.1 == aT 19) <;> rfl
theorem OK {t : Tok} (h : dP t) : br t 2 = some (opt (bM 2 t)) := by
 have e := hit h (x := aT 18) (w := false) rfl
 simp only [bM, ops, gJ, iV, e]
 show (bif eW t then (bif (t.2.1 == aT 18) then some 18 else some 0) else some 0) = _
 cases eW t <;> cases (t.2.1 == aT 18) <;> rfl
theorem ON {t : Tok} (h : dP t) : br t 3 = some (opt (bM 3 t)) := by
 have e := hit h (x := aT 17) (w := false) rfl
 simp only [bM, ops, gJ, iV, e]
 show (bif eW t then (bif (t.2.1 == aT 17) then some 17 else some 0) else some 0) = _
 cases eW t <;> cases (t.2.1 == aT 17) <;> rfl
theorem OF {t : Tok} (h : dP t) : br t 4 = some (opt (bM 4 t)) := by
 have e := hit h (x := aT 16) (w := false) rfl
 simp only [bM, ops, gJ, iV, e]
 show (bif eW t then (bif (t.2.1 == aT 16) then some 16 else some 0) else some 0) = _
 cases eW t <;> cases (t.2.1 == aT 16) <;> rfl
theorem Oz {t : Tok} (h : dP t) : br t 5 = some (opt (bM 5 t)) := by
 have e := hit h (x := aT 23) (w := true) rfl
 have e2 := hit h (x := aT 24) (w := true) rfl
 simp only [bM, ops, gJ, iV, e, e2]
 show (bif eW t then (bif (t.2.1 == aT 23) then some 23 else (bif (t.2.1 == aT 24) then some 24 else some 0)) else some 0) = _
 cases eW t <;> cases (t.2.1 == aT 23) <;> cases (t.2.1 == aT 24) <;> rfl
theorem OJ {t : Tok} (h : dP t) : br t 8 = some (opt (bM 8 t)) := by
 have e := hit h (x := aT 3) (w := false) rfl
 have e2 := hit h (x := aT 4) (w := false) rfl
 simp only [bM, ops, gJ, iV, e, e2]
 show (bif eW t then (bif (t.2.1 == aT 3) then some 3 else (bif (t.2.1 == aT 4) then some 4 else some 0)) else some 0) = _
 cases eW t <;> cases (t.2.1 == aT 3) <;> cases (t.2.1 == aT 4) <;> rfl
theorem OG {t : Tok} (h : dP t) : br t 9 = some (opt (bM 9 t)) := by
 have e := hit h (x := aT 5) (w := false) rfl
 simp only [bM, ops, gJ, iV, e]
 show (bif eW t then (bif (t.2.1 == aT 5) then some 5 else some 0) else some 0) = _
 cases eW t <;> cases (t.2.1 == aT 5) <;> rfl
theorem OR {t : Tok} (h : dP t) : br t 7 = some (opt (bM 7 t)) := by
 have e1 := hit h (x := aT 7) (w := false) rfl
 have e2 := hit h (x := aT 8) (w := false) rfl
 have e3 := hit h (x := aT 9) (w := false) rfl
 have e4 := hit h (x := aT 10) (w := false) rfl
 have e5 := hit h (x := aT 11) (w := false) rfl
 have e6 := hit h (x := aT 12) (w := false) rfl
 simp only [bM, ops, gJ, iV, e1, e2, e3, e4, e5, e6]
 obtain ⟨m, hm⟩ : ∃ m, au = m + 7 := ⟨18446744073709551609, rfl⟩
 unfold br
 rw [hm]
 clear hm
 have hq : (ab (t.1 != 2) fun b5 => ab (t.1 != 4) fun b7 => ab (b5 && b7) fun b9 => bif b9 then ao (aC t) (m + 7) 0 else some 0) = (bif eW t then ao (aC t) (m + 7) 0 else some 0) := rfl
 refine Eq.trans (b := bif eW t then ao (aC t) (m + 7) 0 else some 0) rfl ?_
 clear hq
 have s0 : ao (aC t) (m + 7) 0 = bif (t.2.1 == aT 7) then some 7 else ao (aC t) (m + 6) 1 := rfl
 have s1 : ao (aC t) (m + 6) 1 = bif (t.2.1 == aT 8) then some 8 else ao (aC t) (m + 5) 2 := rfl
 have s2 : ao (aC t) (m + 5) 2 = bif (t.2.1 == aT 9) then some 9 else ao (aC t) (m + 4) 3 := rfl
 have s3 : ao (aC t) (m + 4) 3 = bif (t.2.1 == aT 10) then some 10 else ao (aC t) (m + 3) 4 := rfl
 have s4 : ao (aC t) (m + 3) 4 = bif (t.2.1 == aT 11) then some 11 else ao (aC t) (m + 2) 5 := rfl
 have s5 : ao (aC t) (m + 2) 5 = bif (t.2.1 == aT 12) then some 12 else ao (aC t) (m + 1) 6 := rfl
 have s6 : ao (aC t) (m + 1) 6 = some 0 := rfl
 rw [s0, s1, s2, s3, s4, s5, s6]
 cases eW t
 ·rfl
 cases (t.2.1 == aT 7)
 case true => rfl
 cases (t.2.1 == aT 8)
 case true => rfl
 cases (t.2.1 == aT 9)
 case true => rfl
 cases (t.2.1 == aT 10)
 case true => rfl
 cases (t.2.1 == aT 11)
 case true => rfl
 cases (t.2.1 == aT 12) <;> rfl
theorem KE {t : Tok} (h : dP t) {s : Nat} (h1 : 1 ≤ s) (h9 : s ≤ 9) (h6 : s ≠ 6) : br t (s : Int) = some (opt (bM s t)) := by
 have : s = 1 ∨ s = 2 ∨ s = 3 ∨ s = 4 ∨ s = 5 ∨ s = 7 ∨ s = 8 ∨ s = 9 := by omega
 rcases this with rfl | rfl | rfl | rfl | rfl | rfl | rfl | rfl
 ·exact OO h
 ·exact OK h
 ·exact ON h
 ·exact OF h
 ·exact Oz h
 ·exact OR h
 ·exact OJ h
 ·exact OG h
theorem wz {s : Nat} {t : Tok} {k : Int} (h : bM s t = some k) : (k == 0) = false := by
 have key : ∀ l : List Int, (l.all fun o => o != 0) = true → fnd l t = some k → (k == 0) = false := fun l hl h => by
  unfold fnd at h
  cases hs : sgn t
  ·rw [hs] at h; cases h
  ·rw [hs] at h
   have := List.mem_of_find?_eq_some h
   have := List.all_eq_true.1 hl k this
   simpa using this
 refine key (ops s) ?_ h
 match s with
 | 0 => rfl
 | 1 => rfl
 | 2 => rfl
 | 3 => rfl
 | 4 => rfl
 | 5 => rfl
 | 6 => rfl
 | 7 => rfl
 | 8 => rfl
 | 9 => rfl
 | 10 => rfl
 | 11 => rfl
 | n + 12 => rfl
/-! what the parser hands back -/
abbrev R4 := Ex × Int × Int × Int
abbrev LF := (Int × Int × List Tok × Int × List Str × Int × Int) → Option R4
noncomputable def RR (l : List Tok) (r : Out) (m : Option R4) : Prop := match r with
 | .ok (x, ts) => ∃ a : Nat, l.drop a = ts ∧ m = some (x, (a : Int), 0, 0)
 | .error (b, p) => ∃ x a, m = some (x, a, b, p)
theorem rG {names : List Str} {j : Job} {d : Int} {ts : List Tok} {b p : Int} (h : P names j d ts (.error (b, p))) : (b != 0) = true := by
 rcases h.err _ rfl with h | h | h <;> (simp only at h; subst h; rfl)
theorem vr {l : List Tok} {a : Nat} {t : Tok} (h : idx l (a : Int) = some t) (b : Int) (names : List Str) (p : Int) : aK b l (a : Int) names 0 p = some (.mk 0 0 0 [], b, t.2.2.2) := by
 unfold aK
 rw [h]; rfl
noncomputable def eZ (names : List Str) (v : Str) (i : Nat) : Option Nat := ((names.drop i).findIdx? (fun x => v == x)).map (· + i)
theorem vV (names : List Str) (v : Str) : eZ names v 0 = at_ names v := by
 unfold eZ at_
 simp
theorem IM {l : List Tok} {a : Nat} {t : Tok} {names : List Str} (hn : names.length < 4611686018427387904) (ha : a < 4611686018427387904) (ht : idx l (a : Int) = some t) :
  ∀ (m i M : Nat), names.length - i ≤ m → i ≤ names.length → m < M →
   ao (cg l (a : Int) names 0 0 t) M (i : Int) =
    match eZ names t.2.1 i with
    | some j => some (.mk 2 (j : Int) t.2.2.2 [], ((a + 1 : Nat) : Int), 0, 0)
    | none => some (.mk 0 0 0 [], (a : Int), 3, t.2.2.2) := by
 intro m
 induction m with
 | zero =>
  intro i M h1 h2 h3
  obtain ⟨M, rfl⟩ : ∃ k, M = k + 1 := ⟨M - 1, by omega⟩
  have hi : i = names.length := by omega
  subst hi
  rw [an]
  have e : eZ names t.2.1 names.length = none := by unfold eZ; simp
  rw [e]
  simp only [cg, decide_eq_false (show ¬ ((names.length : Int) < (List.length names : Int)) by omega), cond_false, vr ht, ai]
 | succ m ih =>
  intro i M h1 h2 h3
  obtain ⟨M, rfl⟩ : ∃ k, M = k + 1 := ⟨M - 1, by omega⟩
  rw [an]
  by_cases hi : i < names.length
  ·have hd : names.drop i = names[i] :: names.drop (i + 1) := List.drop_eq_getElem_cons hi
   have hx : idx names (i : Int) = some names[i] := by simp [idx, List.getElem?_eq_getElem hi]
   simp only [cg, decide_eq_true (show ((i : Nat) : Int) < (List.length names : Int) by omega), cond_true, hx, ai, bu ha, bu (show i < 4611686018427387904 by omega)]
   have e : eZ names t.2.1 i = bif (names[i] == t.2.1) then some i else eZ names t.2.1 (i + 1) := by
    unfold eZ
    rw [hd, List.findIdx?_cons]
    have : (t.2.1 == names[i]) = (names[i] == t.2.1) := by
     by_cases h : t.2.1 = names[i]
     ·rw [h]
     ·rw [beq_eq_false_iff_ne.2 h, beq_eq_false_iff_ne.2 (fun e => h e.symm)]
    rw [this]
    cases (names[i] == t.2.1)
    ·simp only [cond_false, Bool.false_eq_true, if_false, Option.map_map]
     congr 1
     funext x
     simp only [Function.comp]; omega
    ·simp
   rw [e]
   cases (names[i] == t.2.1)
   ·simp only [cond_false]
    exact ih (i + 1) M (by omega) (by omega) (by omega)
   ·rfl
  ·have hi : i = names.length := by omega
   subst hi
   have e : eZ names t.2.1 names.length = none := by unfold eZ; simp
   rw [e]
   simp only [cg, decide_eq_false (show ¬ ((names.length : Int) < (List.length names : Int)) by omega), cond_false, vr ht, ai]
noncomputable def SR (names : List Str) (l : List Tok) (k : LF) (s : Nat) (d : Int) (a : Nat) : Prop := ∃ r, P names (line s) d (l.drop a) r ∧ RR l r (k ((s : Int), d, l, (a : Int), names, 0, 0))
theorem M5 {names : List Str} (hn : names.length < 4611686018427387904) {l : List Tok} (hl : l.length < 4611686018427387904) (htok : ∀ t ∈ l, dP t) {k : LF} {d : Int} {a : Nat} (he : Ends (l.drop a))
  (hk : Ends (l.drop (a + 1)) → SR names l k 1 d (a + 1)) : ∃ r, P names (line 11) d (l.drop a) r ∧ RR l r (cd k d l (a : Int) names 0 0) := by
 obtain ⟨t, ts, hts⟩ := he.ne
 obtain ⟨hx, hd1, hlt, hmem⟩ := jK hts
 have hok := htok t hmem
 have ha : a < 4611686018427387904 := by omega
 have eT := AR hok (x := aT 13) rfl
 have eF := AR hok (x := aT 14) rfl
 have h11 : bM 11 t = bif ((t.1 == 1) && (t.2.1 == aT 13)) then some 13 else bif ((t.1 == 1) && (t.2.1 == aT 14)) then some 14 else none := by
  simp only [bM, ops, gJ, iV, eT, eF]
 rw [hts]
 unfold cd
 simp only [hx, ai, bl, Ek, bu ha]
 cases h2 : (t.1 == 2)
 case true =>
  have h1 : (t.1 == 1) = false := by have := beq_iff_eq.1 h2; rw [this]; rfl
  exact ⟨_, .oNum rfl (by rw [h11, h1]; rfl) h2, a + 1, hd1, rfl⟩
 simp only [cond_false]
 cases hT : ((t.1 == 1) && (t.2.1 == aT 13))
 case true =>
  rw [show ((t.1 == 1) && (t.2.1 == [116, 114, 117, 101])) = true from hT]
  exact ⟨_, .oWord rfl (by rw [h11, hT]; rfl), a + 1, hd1, rfl⟩
 rw [show ((t.1 == 1) && (t.2.1 == [116, 114, 117, 101])) = false from hT]
 simp only [cond_false]
 cases hF : ((t.1 == 1) && (t.2.1 == aT 14))
 case true =>
  rw [show ((t.1 == 1) && (t.2.1 == [102, 97, 108, 115, 101])) = true from hF]
  exact ⟨_, .oWord rfl (by rw [h11, hT, hF]; rfl), a + 1, hd1, rfl⟩
 rw [show ((t.1 == 1) && (t.2.1 == [102, 97, 108, 115, 101])) = false from hF]
 simp only [cond_false]
 have hno : bM 11 t = none := by rw [h11, hT, hF]; rfl
 cases hN : ((t.1 == 1) && !(kD.contains t.2.1))
 case true =>
  have hname : oS t = true := hN
  simp only [cond_true]
  have := IM hn ha hx names.length 0 au (by omega) (by omega) (by show names.length < 2 ^ 64; omega)
  rw [show ((0 : Nat) : Int) = 0 from rfl, vV] at this
  rw [this]
  cases hat : at_ names t.2.1 with
  | some j => exact ⟨_, .oVar rfl hno h2 hname hat, a + 1, hd1, rfl⟩
  | none => exact ⟨_, .oName rfl hno h2 hname hat, _, _, rfl⟩
 have hname : oS t = false := hN
 simp only [cond_false]
 cases hO : (((t.1 != 3) || (t.2.1 != [40])) : Bool)
 case true =>
  have hop : open_ t = false := by
   unfold open_
   simp only [Bool.or_eq_true, bne_iff_ne] at hO
   rcases hO with h | h
   ·rw [beq_eq_false_iff_ne.2 h]; rfl
   ·rw [beq_eq_false_iff_ne.2 h, Bool.and_false]
  simp only [cond_true, vr hx, ai]
  exact ⟨_, .oForm rfl hno h2 hname hop, _, _, rfl⟩
 have h3 : t.1 = 3 ∧ t.2.1 = [40] := by
  simp only [Bool.or_eq_false_iff, bne_eq_false_iff_eq] at hO
  exact hO
 have hop : open_ t = true := by unfold open_; rw [h3.1, h3.2]; rfl
 have he1 : Ends ts := by rw [hts] at he; exact he.tail (by rw [h3.1]; decide)
 obtain ⟨r, hr, hm⟩ := hk (by rw [hd1]; exact he1)
 rw [hd1] at hr
 simp only [cond_false]
 match r, hr, hm with
 | .error (b, p), hr, ⟨x, a', hm⟩ =>
  have hb := rG hr
  rw [show ((1 : Nat) : Int) = 1 from rfl] at hm
  rw [hm, ai]
  simp only [hb, cond_true]
  exact ⟨_, .oErr rfl hno h2 hname hop hr, _, _, rfl⟩
 | .ok (x, ts'), hr, ⟨a', ha', hm⟩ =>
  rw [show ((1 : Nat) : Int) = 1 from rfl] at hm
  obtain ⟨he', hsh⟩ := hr.ends he1 _ rfl
  obtain ⟨c, ts2, hc⟩ := he'.ne
  simp only at hc
  subst hc
  obtain ⟨hxc, hdc, hltc, hmemc⟩ := jK ha'
  rw [hm, ai]
  simp only [bne_self_eq_false, cond_false, hxc, ai, bu (show a' < 4611686018427387904 by omega)]
  by_cases hc3 : c.1 = 3
  ·have e3 : (c.1 != 3) = false := by rw [hc3]; rfl
   simp only [e3, Bool.not_false, fP, ai, Bool.false_or]
   cases hcl : (c.2.1 != [41])
   ·have : close_ c = true := by
     unfold close_
     rw [hc3, bne_eq_false_iff_eq.1 hcl]; rfl
    exact ⟨_, .oOpen rfl hno h2 hname hop hr this, a' + 1, hdc, rfl⟩
   ·have : close_ c = false := by
     unfold close_
     rw [beq_eq_false_iff_ne.2 (bne_iff_ne.1 hcl), Bool.and_false]
    simp only [cond_true, vr hxc, ai]
    exact ⟨_, .oClose rfl hno h2 hname hop hr this, _, _, rfl⟩
  ·have e3 : (c.1 != 3) = true := bne_iff_ne.2 hc3
   have : close_ c = false := by
    unfold close_
    rw [beq_eq_false_iff_ne.2 hc3]; rfl
   simp only [e3, Bool.not_true, pH, Bool.true_or, cond_true, vr hxc, ai]
   exact ⟨_, .oClose rfl hno h2 hname hop hr this, _, _, rfl⟩
end Pa
end Go.Proofs.YtkckoolfgnkpcaaDoor
namespace Go.Proofs.YtkckoolfgnkpcaaDoor
namespace Pa
open Job
theorem xx (e : Ex) : Ex.mk e.op e.n e.at_ e.l = e := by cases e; rfl
theorem DG (m : Option R4) : (m.bind fun r => some (r.1, r.2.1, r.2.2.1, r.2.2.2)) = m := by cases m <;> rfl
theorem RR.one {l : List Tok} {r : Out} {m : Option R4} (h : RR l r m) (ko pl : Int) : RR l (NW ko pl r) (m.bind fun r => some (.mk ko 0 pl [r.1], r.2.1, r.2.2.1, r.2.2.2)) := by
 match r, h with
 | .ok (x, ts), ⟨a, h1, h2⟩ => subst h2; exact ⟨a, h1, rfl⟩
 | .error (b, p), ⟨x, a, h2⟩ => subst h2; exact ⟨_, _, rfl⟩
theorem RR.two {l : List Tok} {r : Out} {m : Option R4} (h : RR l r m) (ko pl : Int) (y : Ex) : RR l (M3 ko pl y r) (m.bind fun r => some (.mk ko 0 pl [y, r.1], r.2.1, r.2.2.1, r.2.2.2)) := by
 match r, h with
 | .ok (x, ts), ⟨a, h1, h2⟩ => subst h2; exact ⟨a, h1, rfl⟩
 | .error (b, p), ⟨x, a, h2⟩ => subst h2; exact ⟨_, _, rfl⟩
theorem Hx {s : Nat} (h1 : 1 ≤ s) (h : s ≤ 10) : gz (s : Int) = some (kB s) := by
 have : s = 1 ∨ s = 2 ∨ s = 3 ∨ s = 4 ∨ s = 5 ∨ s = 6 ∨ s = 7 ∨ s = 8 ∨ s = 9 ∨ s = 10 := by omega
 rcases this with rfl | rfl | rfl | rfl | rfl | rfl | rfl | rfl | rfl | rfl <;> rfl
theorem OU {k : LF} {s : Nat} (h1 : 1 ≤ s) (h : s ≤ 10) {d : Int} (h0 : 0 ≤ d) (h3 : d ≤ 320) (l : List Tok) (a : Int) (names : List Str) :
  bL k (s : Int) d l a names 0 0 = eR k (s : Int) l a names 0 0 (kB s) (dn s d) := by
 unfold bL
 simp only [bne_self_eq_false, cond_false, Hx h1 h, ai]
 have hw : IntKind.i64.wrap (d + 1) = d + 1 := w64 (by omega)
 unfold dn
 rw [hw]
 cases kB s <;> rfl
theorem LD (s : Nat) (d : Int) : (kB s && decide (320 < dn s d)) = ju s d := by
 unfold ju dn
 cases kB s
 ·rfl
 ·simp only [cond_true, Bool.true_and]
  by_cases h : 320 ≤ d
  ·rw [decide_eq_true h, decide_eq_true (by omega)]
  ·rw [decide_eq_false h, decide_eq_false (by omega)]
theorem N5 {s : Nat} {d : Int} (h0 : 0 ≤ d) (h3 : d ≤ 320) (hd : ju s d = false) : 0 ≤ dn s d ∧ dn s d ≤ 320 := by
 unfold ju at hd
 unfold dn
 cases hc : kB s
 ·simpa using ⟨h0, h3⟩
 ·rw [hc] at hd
  simp only [Bool.true_and, decide_eq_false_iff_not] at hd
  simp only [cond_true]; omega
section
variable {names : List Str} {l : List Tok} {k : LF} {N : Nat}
variable (hn : names.length < 4611686018427387904) (hl : l.length < 4611686018427387904) (htok : ∀ t ∈ l, dP t)
variable (hk : ∀ (s : Nat) (d : Int) (a : Nat), 1 ≤ s → s ≤ 10 → 0 ≤ d → d ≤ 320 → Ends (l.drop a) → 12 * (l.drop a).length + (11 - s) < N → SR names l k s d a)
include hn hl htok hk
theorem pre6 {d : Int} {a : Nat} {t : Tok} {ts : List Tok} (hts : l.drop a = t :: ts) (he : Ends (t :: ts)) (h0 : 0 ≤ dn 6 d) (h3 : dn 6 d ≤ 320) (hd : ju 6 d = false) (hN : 12 * (l.drop a).length + 5 < N + 1) :
  ∃ r, P names (line 6) d (t :: ts) r ∧ RR l r (bG k l (a : Int) names 0 0 (dn 6 d) t (bif ((t.1 == 3) && (t.2.1 == [33])) then 15 else 0)) := by
 have _ := hn
 obtain ⟨hx, hd1, hlt, hmem⟩ := jK hts
 have hok := htok t hmem
 have e15 := Nd hok (x := aT 15) rfl
 have e20 := AR hok (x := aT 20) rfl
 have e21 := AR hok (x := aT 21) rfl
 have e22 := AR hok (x := aT 22) rfl
 have hop : bM 6 t = bif ((t.1 == 3) && (t.2.1 == aT 15)) then some 15 else bif ((t.1 == 1) && (t.2.1 == aT 20)) then some 20 else bif ((t.1 == 1) && (t.2.1 == aT 21)) then some 21 else bif ((t.1 == 1) && (t.2.1 == aT 22)) then some 22 else none := by
  simp only [bM, ops, gJ, iV, e15, e20, e21, e22]
 have hK : bG k l (a : Int) names 0 0 (dn 6 d) t (bif ((t.1 == 3) && (t.2.1 == [33])) then 15 else 0) = eS k l (a : Int) names 0 0 (dn 6 d) t (opt (bM 6 t)) := by
  rw [hop]
  unfold bG iL iK
  simp only [bl]
  rw [show aT 15 = [33] from rfl, show aT 20 = [88] from rfl, show aT 21 = [70] from rfl, show aT 22 = [71] from rfl]
  by_cases q1 : t.1 = 1
  ·rw [q1]
   by_cases q : t.2.1 = [88]
   ·rw [q]; rfl
   ·by_cases q2 : t.2.1 = [70]
    ·rw [q2]; rfl
    ·by_cases q3 : t.2.1 = [71]
     ·rw [q3]; rfl
     ·rw [beq_eq_false_iff_ne.2 q, beq_eq_false_iff_ne.2 q2, beq_eq_false_iff_ne.2 q3]; rfl
  ·rw [beq_eq_false_iff_ne.2 q1]
   cases ((t.1 == 3) && (t.2.1 == [33])) <;> rfl
 rw [hK]
 unfold eS
 have hlen : (l.drop a).length = ts.length + 1 := by rw [hts]; rfl
 cases ho : bM 6 t with
 | none =>
  obtain ⟨r, hr, hm⟩ := hk 7 (dn 6 d) a (by omega) (by omega) h0 h3 (by rw [hts]; exact he) (by omega)
  rw [hts] at hr
  refine ⟨r, .other rfl hd ho hr, ?_⟩
  show RR l r ((k (7, dn 6 d, l, (a : Int), names, 0, 0)).bind fun r45 => some (r45.1, r45.2.1, r45.2.2.1, r45.2.2.2))
  rw [DG]
  exact hm
 | some ko =>
  have hke := wz ho
  have he1 : Ends ts := he.tail (qQ ho)
  obtain ⟨r, hr, hm⟩ := hk 6 (dn 6 d) (a + 1) (by omega) (by omega) h0 h3 (by rw [hd1]; exact he1) (by rw [hd1]; omega)
  rw [hd1] at hr
  refine ⟨_, .pre rfl hd ho hr, ?_⟩
  simp only [opt, Option.getD_some, hke, cond_false, bu (show a < 4611686018427387904 by omega)]
  exact hm.one ko t.2.2.2
theorem Om {d : Int} {a : Nat} {t : Tok} {ts : List Tok} (hts : l.drop a = t :: ts) (he : Ends (t :: ts)) (h0 : 0 ≤ dn 10 d) (h3 : dn 10 d ≤ 320) (hd : ju 10 d = false) (hN : 12 * (l.drop a).length + 1 < N + 1) :
  ∃ r, P names (line 10) d (t :: ts) r ∧ RR l r (bif ((t.1 != 3) || (t.2.1 != [45])) then ((cd k (dn 10 d) l (a : Int) names 0 0).bind fun r99 => some (r99.1, r99.2.1, r99.2.2.1, r99.2.2.2))
   else ((k (10, dn 10 d, l, (IntKind.i64.wrap ((a : Int) + 1)), names, 0, 0)).bind fun r106 => some ((Ex.mk 6 0 t.2.2.2 ([r106.1] : List Ex)), r106.2.1, r106.2.2.1, r106.2.2.2))) := by
 obtain ⟨hx, hd1, hlt, hmem⟩ := jK hts
 have hok := htok t hmem
 have e6 := Nd hok (x := aT 6) rfl
 have hop : bM 10 t = bif ((t.1 == 3) && (t.2.1 == aT 6)) then some 6 else none := by
  simp only [bM, ops, gJ, iV, e6]
 have hlen : (l.drop a).length = ts.length + 1 := by rw [hts]; rfl
 have hb : ((t.1 != 3) || (t.2.1 != [45])) = !((t.1 == 3) && (t.2.1 == aT 6)) := by
  show ((!(t.1 == 3)) || (!(t.2.1 == [45]))) = _
  rw [show aT 6 = [45] from rfl, Bool.not_and]
 rw [hb]
 cases ho : ((t.1 == 3) && (t.2.1 == aT 6))
 ·rw [ho] at hop
  simp only [Bool.not_false, cond_true, DG]
  obtain ⟨r, hr, hm⟩ := M5 hn hl htok (k := k) (d := dn 10 d) (a := a) (by rw [hts]; exact he) (fun he1 => hk 1 (dn 10 d) (a + 1) (by omega) (by omega) h0 h3 he1 (by rw [hd1]; omega))
  rw [hts] at hr
  exact ⟨r, .other rfl hd hop hr, hm⟩
 ·rw [ho] at hop
  have hop : bM 10 t = some 6 := hop
  have he1 : Ends ts := he.tail (qQ hop)
  simp only [Bool.not_true, cond_false, bu (show a < 4611686018427387904 by omega)]
  obtain ⟨r, hr, hm⟩ := hk 10 (dn 10 d) (a + 1) (by omega) (by omega) h0 h3 (by rw [hd1]; exact he1) (by rw [hd1]; omega)
  rw [hd1] at hr
  exact ⟨_, .pre rfl hd hop hr, hm.one 6 t.2.2.2⟩
theorem Gx {s : Nat} (h1 : 1 ≤ s) (h9 : s ≤ 9) (h6 : s ≠ 6) (_hkd : kd s = 2) {D : Int} (h0 : 0 ≤ D) (h3 : D ≤ 320) (hq : ((((s : Int) == 1) || ((s : Int) == 2)) || ((s : Int) == 5)) = false) (hq7 : ((s : Int) == 7) = false) :
  ∀ (n a M : Nat) (x : Ex), (l.drop a).length ≤ n → n < M → Ends (l.drop a) → 12 * (l.drop a).length ≤ N →
   ∃ r, P names (loop s x) D (l.drop a) r ∧ RR l r (ao (bH k (s : Int) l names D) M ((a : Int), 0, 0, x.op, x.n, x.at_, x.l)) := by
 have _ := hn
 intro n
 induction n with
 | zero =>
  intro a M x h1 h2 he _
  obtain ⟨t, ts, hts⟩ := he.ne
  rw [hts] at h1; simp at h1
 | succ n ih =>
  intro a M x hln hM he hN
  obtain ⟨M, rfl⟩ : ∃ m, M = m + 1 := ⟨M - 1, by omega⟩
  obtain ⟨t, ts, hts⟩ := he.ne
  obtain ⟨hx, hd1, hlt, hmem⟩ := jK hts
  have hok := htok t hmem
  have hlen : (l.drop a).length = ts.length + 1 := by rw [hts]; rfl
  rw [an]
  simp only [bH, beq_self_eq_true, cond_true, hx, ai, KE hok h1 h9 h6, bl, hq, cond_false, hq7]
  cases ho : bM s t with
  | none =>
   refine ⟨.ok (x, l.drop a), by rw [hts]; exact .lpEnd ho, a, rfl, ?_⟩
   simp only [opt, Option.getD_none, beq_self_eq_true, cond_true, xx]
  | some ko =>
   have hke := wz ho
   have he1 : Ends ts := by rw [hts] at he; exact he.tail (qQ ho)
   have hs1 : IntKind.i64.wrap ((s : Int) + 1) = ((s + 1 : Nat) : Int) := by rw [w64 (by omega)]; omega
   simp only [opt, Option.getD_some, hke, cond_false, bu (show a < 4611686018427387904 by omega), hs1]
   obtain ⟨r, hr, hm⟩ := hk (s + 1) D (a + 1) (by omega) (by omega) h0 h3 (by rw [hd1]; exact he1) (by rw [hd1]; omega)
   rw [hd1] at hr
   match r, hr, hm with
   | .error (b, p), hr, ⟨y, a', hm⟩ =>
    have hb := rG hr
    have hb0 : (b == 0) = false := by simpa using hb
    rw [hm, ai]
    have hpos : 0 < M := by
     have := hN
     have : 1 ≤ (l.drop a).length := by omega
     omega
    obtain ⟨M, rfl⟩ : ∃ m, M = m + 1 := ⟨M - 1, by omega⟩
    rw [an]
    simp only [bH, hb0, cond_false]
    rw [hts]
    exact ⟨_, .lpErr ho hr, _, _, rfl⟩
   | .ok (y, ts'), hr, ⟨a', ha', hm⟩ =>
    obtain ⟨he', hsh⟩ := hr.ends he1 _ rfl
    simp only [shorter] at hsh he'
    rw [hm, ai]
    obtain ⟨r2, hr2, hm2⟩ := ih a' M (.mk ko 0 t.2.2.2 [x, y]) (by rw [ha']; omega) (by omega) (by rw [ha']; exact he') (by rw [ha']; omega)
    rw [ha'] at hr2
    refine ⟨r2, by rw [hts]; exact .lpGo ho hr hr2, ?_⟩
    simp only [xx]
    exact hm2
theorem HU {s : Nat} (h1 : 1 ≤ s) (h10 : s ≤ 10) {d : Int} (h0 : 0 ≤ d) (h3 : d ≤ 320) {a : Nat} (he : Ends (l.drop a)) (hN : 12 * (l.drop a).length + (11 - s) < N + 1) :
  ∃ r, P names (line s) d (l.drop a) r ∧ RR l r (bL k (s : Int) d l (a : Int) names 0 0) := by
 obtain ⟨t, ts, hts⟩ := he.ne
 obtain ⟨hx, hd1, hlt, hmem⟩ := jK hts
 rw [OU h1 h10 h0 h3]
 unfold eR
 simp only [bl, LD]
 cases hd : ju s d
 case true =>
  rw [hts]
  simp only [cond_true, vr hx, ai]
  exact ⟨_, .big hd, _, _, rfl⟩
 obtain ⟨hD0, hD3⟩ := N5 h0 h3 hd
 simp only [cond_false, hx, ai]
 rw [hts] at he
 by_cases h6 : s = 6
 ·subst h6
  have := pre6 hn hl htok hk hts he hD0 hD3 hd (by omega)
  rw [hts]
  obtain ⟨r, hr, hm⟩ := this
  refine ⟨r, hr, ?_⟩
  show RR l r (bif ((t.1 == 3) && (t.2.1 == [33])) then bG k l (a : Int) names 0 0 (dn 6 d) t 15 else bG k l (a : Int) names 0 0 (dn 6 d) t 0)
  cases hb : ((t.1 == 3) && (t.2.1 == [33])) <;> rw [hb] at hm <;> exact hm
 by_cases hs10 : s = 10
 ·subst hs10
  obtain ⟨r, hr, hm⟩ := Om hn hl htok hk hts he hD0 hD3 hd (by omega)
  rw [hts]
  exact ⟨r, hr, hm⟩
 have b6 : ((s : Int) == 6) = false := beq_eq_false_iff_ne.2 (by omega)
 have b10 : ((s : Int) == 10) = false := beq_eq_false_iff_ne.2 (by omega)
 have hs1 : IntKind.i64.wrap ((s : Int) + 1) = ((s + 1 : Nat) : Int) := by rw [w64 (by omega)]; omega
 simp only [b6, b10, cond_false, hs1]
 obtain ⟨r, hr, hm⟩ := hk (s + 1) (dn s d) a (by omega) (by omega) hD0 hD3 (by rw [hts]; exact he) (by omega)
 have hlen : (l.drop a).length = ts.length + 1 := by rw [hts]; rfl
 have hkd : kd s = 1 ∨ kd s = 2 := by
  have : s = 1 ∨ s = 2 ∨ s = 3 ∨ s = 4 ∨ s = 5 ∨ s = 7 ∨ s = 8 ∨ s = 9 := by omega
  rcases this with rfl | rfl | rfl | rfl | rfl | rfl | rfl | rfl <;> simp [kd]
 match r, hr, hm with
 | .error (b, p), hr, ⟨y, a', hm⟩ =>
  have hb := rG hr
  have hb0 : (b == 0) = false := by simpa using hb
  rw [hm, ai]
  obtain ⟨m, hF⟩ : ∃ m, au = m + 1 := ⟨18446744073709551615, rfl⟩
  rw [hF, an]
  simp only [bH, hb0, cond_false]
  rcases hkd with h | h
  ·exact ⟨_, .rErr h hd hr, _, _, rfl⟩
  ·refine ⟨.error (b, p), .lErr h (d := d) ?_, _, _, rfl⟩
   have : dn s d = d := by
    have : s = 3 ∨ s = 4 ∨ s = 8 ∨ s = 9 := by
     have : s = 1 ∨ s = 2 ∨ s = 3 ∨ s = 4 ∨ s = 5 ∨ s = 7 ∨ s = 8 ∨ s = 9 := by omega
     rcases this with rfl | rfl | rfl | rfl | rfl | rfl | rfl | rfl <;> simp [kd] at h <;> simp
    rcases this with rfl | rfl | rfl | rfl <;> rfl
   rw [this] at hr; exact hr
 | .ok (x, ts'), hr, ⟨a', ha', hm⟩ =>
  rw [hts] at hr
  obtain ⟨he', hsh⟩ := hr.ends he _ rfl
  simp only [shorter, List.length_cons] at hsh he'
  rw [hm, ai]
  rcases hkd with h | h
  · -- once
   obtain ⟨t2, ts2, ht2⟩ := he'.ne
   subst ht2
   obtain ⟨hx2, hd2, hlt2, hmem2⟩ := jK ha'
   have hok2 := htok t2 hmem2
   obtain ⟨m, hF⟩ : ∃ m, au = m + 1 := ⟨18446744073709551615, rfl⟩
   rw [hF, an, hts]
   simp only [bH, beq_self_eq_true, cond_true, hx2, ai, KE hok2 h1 (by omega) h6, bl]
   cases ho : bM s t2 with
   | none =>
    refine ⟨_, .rOne h hd hr ho, a', ha', ?_⟩
    simp only [opt, Option.getD_none, beq_self_eq_true, cond_true, xx]
   | some ko =>
    have hke := wz ho
    have he2 : Ends ts2 := he'.tail (qQ ho)
    simp only [opt, Option.getD_some, hke, cond_false, bu (show a' < 4611686018427387904 by omega), hs1, xx]
    simp only [List.length_cons] at hsh
    have hc : s = 1 ∨ s = 2 ∨ s = 5 ∨ s = 7 := by
     have : s = 1 ∨ s = 2 ∨ s = 3 ∨ s = 4 ∨ s = 5 ∨ s = 7 ∨ s = 8 ∨ s = 9 := by omega
     rcases this with rfl | rfl | rfl | rfl | rfl | rfl | rfl | rfl <;> simp [kd] at h <;> simp
    by_cases h7 : s = 7
    ·subst h7
     obtain ⟨r2, hr2, hm2⟩ := hk 8 (dn 7 d) (a' + 1) (by omega) (by omega) hD0 hD3 (by rw [hd2]; exact he2) (by rw [hd2]; omega)
     rw [hd2] at hr2
     exact ⟨_, .rTwo h hd hr ho hr2, hm2.two ko t2.2.2.2 x⟩
    ·obtain ⟨r2, hr2, hm2⟩ := hk s (dn s d) (a' + 1) (by omega) (by omega) hD0 hD3 (by rw [hd2]; exact he2) (by rw [hd2]; omega)
     rw [hd2] at hr2
     have hnx : nx s = s := by unfold nx; rw [beq_eq_false_iff_ne.2 h7]; rfl
     refine ⟨_, .rTwo h hd hr ho (by rw [hnx]; exact hr2), ?_⟩
     have hb : ((((s : Int) == 1) || ((s : Int) == 2)) || ((s : Int) == 5)) = true := by
      rcases hc with rfl | rfl | rfl | rfl
      ·rfl
      ·rfl
      ·rfl
      ·exact absurd rfl h7
     rw [hb]
     exact hm2.two ko t2.2.2.2 x
  · -- from the left
   have hc : s = 3 ∨ s = 4 ∨ s = 8 ∨ s = 9 := by
    have : s = 1 ∨ s = 2 ∨ s = 3 ∨ s = 4 ∨ s = 5 ∨ s = 7 ∨ s = 8 ∨ s = 9 := by omega
    rcases this with rfl | rfl | rfl | rfl | rfl | rfl | rfl | rfl <;> simp [kd] at h <;> simp
   have hdn : dn s d = d := by rcases hc with rfl | rfl | rfl | rfl <;> rfl
   have hq : ((((s : Int) == 1) || ((s : Int) == 2)) || ((s : Int) == 5)) = false := by rcases hc with rfl | rfl | rfl | rfl <;> rfl
   have hq7 : ((s : Int) == 7) = false := by rcases hc with rfl | rfl | rfl | rfl <;> rfl
   have hle : (l.drop a').length ≤ l.length := by simp
   obtain ⟨r2, hr2, hm2⟩ := Gx hn hl htok hk h1 (by omega) h6 h (D := dn s d) hD0 hD3 hq hq7 l.length a' au x hle (by show l.length < 2 ^ 64; omega) (by rw [ha']; exact he') (by rw [ha']; omega)
   rw [ha'] at hr2
   rw [hts]
   rw [hdn] at hr hr2
   exact ⟨r2, .lGo h hr hr2, hm2⟩
end
theorem Je {names : List Str} {l : List Tok} (hn : names.length < 4611686018427387904) (hl : l.length < 4611686018427387904) (htok : ∀ t ∈ l, dP t) :
  ∀ (N : Nat) (s : Nat) (d : Int) (a : Nat), 1 ≤ s → s ≤ 10 → 0 ≤ d → d ≤ 320 → Ends (l.drop a) → 12 * (l.drop a).length + (11 - s) < N →
   SR names l (ao (fun k (s : (Int × Int × (List (Int × Str × Int × Int)) × Int × (List Str) × Int × Int)) => bL k s.1 s.2.1 s.2.2.1 s.2.2.2.1 s.2.2.2.2.1 s.2.2.2.2.2.1 s.2.2.2.2.2.2) N) s d a := by
 intro N
 induction N with
 | zero => intro s d a _ _ _ _ _ h; omega
 | succ N ih =>
  intro s d a h1 h10 h0 h3 he hN
  unfold SR
  rw [an]
  exact HU hn hl htok ih h1 h10 h0 h3 he hN
theorem HH {names : List Str} {l : List Tok} (hn : names.length < 4611686018427387904) (hl : l.length < 1152921504606846976) (htok : ∀ t ∈ l, dP t) {a : Nat} (he : Ends (l.drop a)) :
  ∃ r, P names (line 1) 0 (l.drop a) r ∧ match r with
   | .ok (x, ts) => ∃ a' : Nat, l.drop a' = ts ∧ cN l (a : Int) names = some (x, (a' : Int), 0, 0)
   | .error (b, p) => cN l (a : Int) names = some (.mk 0 0 0 [], 0, b, p) := by
 have hle : (l.drop a).length ≤ l.length := by simp
 obtain ⟨r, hr, hm⟩ := Je hn (by omega) htok au 1 0 a (by omega) (by omega) (by omega) (by omega) he (by show _ < 2 ^ 64; omega)
 refine ⟨r, hr, ?_⟩
 unfold cN dO
 match r, hr, hm with
 | .ok (x, ts), hr, ⟨a', ha', hm⟩ =>
  refine ⟨a', ha', ?_⟩
  rw [show ((1 : Nat) : Int) = 1 from rfl] at hm
  rw [hm]; rfl
 | .error (b, p), hr, ⟨x, a', hm⟩ =>
  have hb := rG hr
  rw [show ((1 : Nat) : Int) = 1 from rfl] at hm
  rw [hm, ai]
  simp only [hb, cond_true]
end Pa
end Go.Proofs.YtkckoolfgnkpcaaDoor
namespace Go.Proofs.YtkckoolfgnkpcaaDoor
theorem ta (k : Ex → Option (Int × Int × Int)) (e : Ex) (hk : ∀ x ∈ e.l, k x = some (rt x)) (hl : e.l.length < 1152921504606846976) :
  ∀ (r pre : List Ex), e.l = pre ++ r → ∀ (M : Nat) (i b t : Int), 0 ≤ i ∧ i ≤ pre.length → 0 ≤ b ∧ b ≤ pre.length → 0 ≤ t ∧ t ≤ pre.length → r.length < M →
   ao (cZ k e) M (i, b, t, (pre.length : Int)) = some (rtA e.op e.at_ (e.l.length : Int) r i b t)
 | [], pre, h, M, i, b, t, hi, hb, ht, hM => by
  obtain ⟨m, rfl⟩ : ∃ m, M = m + 1 := ⟨M - 1, by simp at hM; omega⟩
  rw [an]
  have hlen : pre.length < 1152921504606846976 := by rw [h] at hl; simp at hl; omega
  have hw : IntKind.i64.wrap (b + t) = b + t := w64 (by omega)
  simp only [cZ, OC h, cond_false, bl, rtA, u7, hw]
  generalize (decide (e.op ≤ 6) && (i == (e.l.length : Int))) = c1
  generalize (decide (7 ≤ e.op) && decide (e.op ≤ 12) && (i == (e.l.length : Int)) || e.op == 13 || e.op == 14) = c2
  generalize (decide (15 ≤ e.op) && decide (e.op ≤ 19) && (b == (e.l.length : Int))) = c3
  generalize (decide (15 ≤ e.op) && (b + t == (e.l.length : Int))) = c4
  cases c1 <;> cases c2 <;> cases c3 <;> cases c4 <;> rfl
 | x :: r, pre, h, M, i, b, t, hi, hb, ht, hM => by
  obtain ⟨m, rfl⟩ : ∃ m, M = m + 1 := ⟨M - 1, by omega⟩
  rw [an]
  have hx : k x = some (rt x) := hk x (by rw [h]; simp)
  have hlen : pre.length < 1152921504606846976 := by rw [h] at hl; simp at hl; omega
  have ih := fun i b t hi hb ht => ta k e hk hl r (pre ++ [x]) (by rw [h]; simp) m i b t hi hb ht (by simp at hM; omega)
  have hp : ((pre ++ [x]).length : Int) = ((pre.length + 1 : Nat) : Int) := by simp
  rw [hp] at ih
  have wi : IntKind.i64.wrap (i + 1) = i + 1 := w64 (by omega)
  have wb : IntKind.i64.wrap (b + 1) = b + 1 := w64 (by omega)
  have wt : IntKind.i64.wrap (t + 1) = t + 1 := w64 (by omega)
  simp only [cZ, jd, lI, OH h, cond_true, Mm h, ai, hx, bl, MN (show pre.length < 4611686018427387904 by omega), rtA, wi, wb, wt]
  cases (rt x).2.1 != 0
  ·simp only [cond_false]
   cases (rt x).1 == 1 <;> cases (rt x).1 == 2 <;> cases (rt x).1 == 3 <;> simp only [cond_false, cond_true] <;> exact ih _ _ _ (by omega) (by omega) (by omega)
  ·rfl
theorem Fg : ∀ (N : Nat) (e : Ex), e.sz ≤ N → e.sz < 1152921504606846976 → ao (fun k s => eD k s) N e = some (rt e) := by
 intro N
 induction N with
 | zero => intro e h; have := rD e; omega
 | succ N ih =>
  intro e h hb
  rw [an]
  show ao (cZ _ e) au (0, 0, 0, 0) = _
  have hl := Hc e
  rw [rt_eq]
  exact ta (ao (fun k s => eD k s) N) e (fun x hx => ih x (by have := tg hx; omega) (by have := tg hx; omega)) (by omega) e.l [] rfl au 0 0 0 (by simp) (by simp) (by simp) (by show e.l.length < 2 ^ 64; omega)
theorem JJ (e : Ex) (h : e.sz < 1152921504606846976) : dW e = some (rt e) := Fg au e (by show e.sz ≤ 2 ^ 64; omega) h
end Go.Proofs.YtkckoolfgnkpcaaDoor
namespace Go.Proofs.YtkckoolfgnkpcaaDoor
namespace Sy
open Pa
/-! types -/
theorem LC (e : Ex) : dV e = eD dW e := rfl
theorem Gc (e : Ex) (h : e.sz < 1152921504606846976) : dV e = some (rt e) := by
 rw [LC]
 have hl := Hc e
 show ao (cZ _ e) au (0, 0, 0, 0) = _
 rw [rt_eq]
 exact ta dW e (fun x hx => JJ x (by have := tg hx; omega)) (by omega) e.l [] rfl au 0 0 0 (by simp) (by simp) (by simp) (by show e.l.length < 2 ^ 64; omega)
/-! names -/
theorem Fy {names : List Str} {v : Str} (hn : names.length < 4611686018427387904) : ∀ (m i M : Nat), names.length - i ≤ m → i ≤ names.length → m < M →
  ao (cU names v) M (i : Int) = some (match eZ names v i with | some j => (j : Int) | none => -1) := by
 intro m
 induction m with
 | zero =>
  intro i M h1 h2 h3
  obtain ⟨M, rfl⟩ : ∃ k, M = k + 1 := ⟨M - 1, by omega⟩
  have hi : i = names.length := by omega
  subst hi
  rw [an]
  have e : eZ names v names.length = none := by unfold eZ; simp
  rw [e]
  simp only [cU, decide_eq_false (show ¬ ((names.length : Int) < (List.length names : Int)) by omega), cond_false]
 | succ m ih =>
  intro i M h1 h2 h3
  obtain ⟨M, rfl⟩ : ∃ k, M = k + 1 := ⟨M - 1, by omega⟩
  rw [an]
  by_cases hi : i < names.length
  ·have hd : names.drop i = names[i] :: names.drop (i + 1) := List.drop_eq_getElem_cons hi
   have hx : idx names (i : Int) = some names[i] := by simp [idx, List.getElem?_eq_getElem hi]
   simp only [cU, decide_eq_true (show ((i : Nat) : Int) < (List.length names : Int) by omega), cond_true, hx, ai, bu (show i < 4611686018427387904 by omega)]
   have e : eZ names v i = bif (names[i] == v) then some i else eZ names v (i + 1) := by
    unfold eZ
    rw [hd, List.findIdx?_cons]
    have : (v == names[i]) = (names[i] == v) := by
     by_cases h : v = names[i]
     ·rw [h]
     ·rw [beq_eq_false_iff_ne.2 h, beq_eq_false_iff_ne.2 (fun e => h e.symm)]
    rw [this]
    cases (names[i] == v)
    ·simp only [cond_false, Bool.false_eq_true, if_false, Option.map_map]
     congr 1
     funext x
     simp only [Function.comp]; omega
    ·simp
   rw [e]
   cases (names[i] == v)
   ·simp only [cond_false]
    exact ih (i + 1) M (by omega) (by omega) (by omega)
   ·rfl
  ·have hi : i = names.length := by omega
   subst hi
   have e : eZ names v names.length = none := by unfold eZ; simp
   rw [e]
   simp only [cU, decide_eq_false (show ¬ ((names.length : Int) < (List.length names : Int)) by omega), cond_false]
theorem wS {names : List Str} (hn : names.length < 4611686018427387904) (v : Str) : bz names v = some (cw names v) := by
 have := Fy (v := v) hn names.length 0 au (by omega) (by omega) (by show names.length < 2 ^ 64; omega)
 rw [show ((0 : Nat) : Int) = 0 from rfl, vV] at this
 unfold bz cw
 refine this.trans ?_
 cases at_ names v <;> rfl
theorem DH {names : List Str} {v : Str} : at_ names v = none ↔ names.contains v = false := by
 unfold at_
 rw [List.findIdx?_eq_none_iff]
 constructor
 ·intro h
  cases hc : names.contains v
  ·rfl
  ·have := List.contains_iff_mem.1 hc
   have := h v this
   simp at this
 ·intro h x hx
  cases hv : (v == x)
  ·rfl
  ·have : v = x := by simpa using hv
   subst this
   have : names.contains v = true := List.contains_iff_mem.2 hx
   rw [this] at h; cases h
theorem tu (names : List Str) (v : Str) : decide (0 ≤ cw names v) = names.contains v := by
 unfold cw
 cases h : at_ names v with
 | some i =>
  simp only
  have : names.contains v = true := by
   cases hc : names.contains v
   ·rw [DH.2 hc] at h; cases h
   ·rfl
  rw [this]; simp
 | none => rw [DH.1 h]; rfl
/-! the state of the reader -/
noncomputable def aM (st : Except Err (List Tok)) (f : List Tok → Except Err (List Tok)) : Except Err (List Tok) := match st with
 | .ok ts => f ts
 | .error e => .error e
noncomputable def rest {α : Type} : Except Err (α × List Tok) → Except Err (List Tok)
 | .ok p => .ok p.2
 | .error e => .error e
noncomputable def aD {α : Type} (st : Except Err (List Tok)) (f : List Tok → Except Err (α × List Tok)) : Except Err (List Tok) := aM st fun ts => rest (f ts)
noncomputable def St (l : List Tok) (st : Except Err (List Tok)) (a b p : Int) : Prop := match st with
 | .ok ts => ∃ k : Nat, a = (k : Int) ∧ l.drop k = ts ∧ Pa.Ends ts ∧ b = 0 ∧ p = 0
 | .error e => (∃ t, idx l a = some t) ∧ (e.1 == 0) = false ∧ b = e.1 ∧ p = e.2
noncomputable def isS (k : Int) (x : Str) : Except Err (List Tok) → Bool
 | .ok ts => isH k x ts
 | .error _ => false
noncomputable def Val {α : Type} (st : Except Err (List Tok)) (f : List Tok → Except Err (α × List Tok)) (x : α) : Prop := ∀ ts y r, st = .ok ts → f ts = .ok (y, r) → x = y
section
variable {l : List Tok} (hl : l.length < 1099511627776) (htok : ∀ t ∈ l, dP t) (hnum : ∀ t ∈ l, pj t)
variable {st : Except Err (List Tok)} {a b p : Int} (N : List Str) (S_ : List (Int × Int)) (I : List Int) (Q : List Str) (C : List Cmd)
theorem St.at {st : Except Err (List Tok)} {a b p : Int} (h : St l st a b p) : ∃ t, idx l a = some t := by
 cases st with
 | ok ts =>
  obtain ⟨k, rfl, hd, he, _⟩ := h
  obtain ⟨t, r, rfl⟩ := he.ne
  exact ⟨t, (jK hd).1⟩
 | error e => exact h.1
theorem St.ok {ts : List Tok} (h : St l (.ok ts) a b p) : ∃ (k : Nat) (t : Tok) (r : List Tok), a = (k : Int) ∧ ts = t :: r ∧ l.drop k = t :: r ∧ Pa.Ends (t :: r) ∧ b = 0 ∧ p = 0 ∧ idx l a = some t ∧ t ∈ l ∧ l.drop (k + 1) = r ∧ k < l.length := by
 obtain ⟨k, rfl, hd, he, hb, hp⟩ := h
 obtain ⟨t, r, rfl⟩ := he.ne
 obtain ⟨h1, h2, h3, h4⟩ := jK hd
 exact ⟨k, t, r, rfl, rfl, hd, he, hb, hp, h1, h4, h2, h3⟩
theorem jY (c q x : Int) : aq c q l x N S_ I Q C 0 0 = some (c, q) := rfl
theorem pN {b : Int} (hb : (b == 0) = false) (c q x p : Int) : aq c q l x N S_ I Q C b p = some (b, p) := by
 unfold aq; rw [hb]; rfl
theorem sk (h : St l st a b p) (k : Int) (x : Str) : aV k x l a N S_ I Q C b p = some (isS k x st) := by
 cases st with
 | ok ts =>
  obtain ⟨k', t, r, rfl, rfl, hd, he, rfl, rfl, hx, _⟩ := h.ok
  unfold aV
  simp only [bl, beq_self_eq_true, fP, hx, ai, Bool.true_and, isS, isH, isT]
  cases (t.1 == k)
  ·rfl
  ·simp only [fP, ai, Bool.true_and]
 | error e =>
  obtain ⟨_, he, rfl, rfl⟩ := h
  unfold aV
  simp only [bl, he, pH, Bool.false_and, isS]
theorem Dt (h : St l st a b p) : ∃ q, aB l a N S_ I Q C b p = some q ∧ ∀ ts, st = .ok ts → q = ve ts := by
 obtain ⟨t, ht⟩ := h.at
 refine ⟨t.2.2.2, by unfold aB; rw [ht]; rfl, fun ts hts => ?_⟩
 subst hts
 obtain ⟨k', t', r, rfl, rfl, hd, he, rfl, rfl, hx, _⟩ := h.ok
 rw [hx] at ht; cases ht; rfl
include hl in
theorem px (h : St l st a b p) (x : Str) : ∃ a' b' p', aP x l a N S_ I Q C b p = some (a', b', p') ∧ St l (aM st (aU x)) a' b' p' := by
 have hi := sk N S_ I Q C h 3 x
 unfold aP
 rw [hi, ai]
 cases st with
 | ok ts =>
  obtain ⟨k, t, r, rfl, rfl, hd, he, rfl, rfl, hx, hm, hd1, hk⟩ := h.ok
  simp only [isS, isH, aM, aU]
  cases hc : isT 3 x t
  ·simp only [Bool.not_false, cond_true, aB, hx, ai, jY]
   exact ⟨_, _, _, rfl, ⟨t, hx⟩, rfl, rfl, rfl⟩
  ·simp only [Bool.not_true, cond_false, cond_true, bu (show k < 4611686018427387904 by omega)]
   exact ⟨_, _, _, rfl, k + 1, rfl, hd1, he.tail (B6 hc (by decide)), rfl, rfl⟩
 | error e =>
  obtain ⟨⟨t, hx⟩, he, rfl, rfl⟩ := h
  simp only [isS, Bool.not_false, cond_true, aB, hx, ai, pN N S_ I Q C he, aM]
  exact ⟨_, _, _, rfl, ⟨t, hx⟩, he, rfl, rfl⟩
include hl in
theorem Dz (h : St l st a b p) (hN : N.length < 1099511627776) (hQ : Q.length < 1099511627776) (full : Bool) : ∃ s a' b' p', dD full l a N S_ I Q C b p = some (s, a', b', p') ∧ St l (aD st (cT full N Q)) a' b' p' ∧ Val st (cT full N Q) s := by
 obtain ⟨t, ht⟩ := h.at
 have iN := wS (names := N) (by omega) t.2.1
 have iQ := wS (names := Q) (by omega) t.2.1
 unfold dD
 simp only [ht, ai, Ek, bl]
 cases st with
 | ok ts =>
  obtain ⟨k, t', r, rfl, rfl, hd, he, rfl, rfl, hx, hm, hd1, hk⟩ := h.ok
  rw [hx] at ht; cases ht
  simp only [aD, aM]
  have hs : cT full N Q (t :: r) = (bif t.1 != 1 then .error (2, t.2.2.2) else bif key t.2.1 || N.contains t.2.1 || Q.contains t.2.1 then .error (3, t.2.2.2) else bif full then .error (9, t.2.2.2) else .ok (t.2.1, r)) := rfl
  cases h1 : (t.1 != 1)
  case true =>
   rw [h1] at hs
   simp only [cond_true] at hs
   simp only [cond_true, jY, ai, hs, rest]
   exact ⟨_, _, _, _, rfl, ⟨⟨t, hx⟩, rfl, rfl, rfl⟩, fun ts y r' h2 h3 => by cases h2; rw [hs] at h3; cases h3⟩
  rw [h1] at hs
  simp only [cond_false] at hs ⊢
  have hc : (key t.2.1 || N.contains t.2.1 || Q.contains t.2.1) = (kD.contains t.2.1 || decide (0 ≤ cw N t.2.1) || decide (0 ≤ cw Q t.2.1)) := by rw [tu, tu]; rfl
  rw [hc] at hs
  have fin : ∀ c : Bool, (kD.contains t.2.1 || decide (0 ≤ cw N t.2.1) || decide (0 ≤ cw Q t.2.1)) = c →
    ∃ s a' b' p', (bif c then ((aq 3 t.2.2.2 l (k : Int) N S_ I Q C 0 0).bind fun r43 => some (t.2.1, (k : Int), r43.1, r43.2)) else (bif full then ((aq 9 t.2.2.2 l (k : Int) N S_ I Q C 0 0).bind fun r47 => some (t.2.1, (k : Int), r47.1, r47.2)) else (bif ((0 : Int) == 0) then some (t.2.1, (IntKind.i64.wrap ((k : Int) + 1)), 0, 0) else some (t.2.1, (k : Int), 0, 0)))) = some (s, a', b', p') ∧
     St l (rest (cT full N Q (t :: r))) a' b' p' ∧ Val (.ok (t :: r)) (cT full N Q) s := by
   intro c hcc
   rw [hcc] at hs
   cases c
   ·cases full
    ·simp only [cond_false] at hs
     refine ⟨_, _, _, _, rfl, ?_, fun ts y r' h2 h3 => by cases h2; rw [hs] at h3; cases h3; rfl⟩
     rw [hs, bu (show k < 4611686018427387904 by omega)]
     have : t.1 = 1 := by simpa using h1
     exact ⟨k + 1, rfl, hd1, he.tail (by omega), rfl, rfl⟩
    ·simp only [cond_false, cond_true] at hs
     exact ⟨_, _, _, _, rfl, by rw [hs]; exact ⟨⟨t, hx⟩, rfl, rfl, rfl⟩, fun ts y r' h2 h3 => by cases h2; rw [hs] at h3; cases h3⟩
   ·simp only [cond_true] at hs
    exact ⟨_, _, _, _, rfl, by rw [hs]; exact ⟨⟨t, hx⟩, rfl, rfl, rfl⟩, fun ts y r' h2 h3 => by cases h2; rw [hs] at h3; cases h3⟩
  have := fin _ rfl
  cases hk1 : kD.contains t.2.1
  ·simp only [Bool.not_false, fP, iN, ai, Bool.false_or, hk1] at this ⊢
   cases hk2 : decide (0 ≤ cw N t.2.1)
   ·simp only [Bool.not_false, fP, iQ, ai, Bool.false_or, hk2] at this ⊢
    exact this
   ·simp only [Bool.not_true, pH, Bool.true_or, hk2] at this ⊢
    exact this
  ·simp only [Bool.not_true, pH, Bool.true_or, hk1] at this ⊢
   exact this
 | error e =>
  obtain ⟨_, he, rfl, rfl⟩ := h
  simp only [aD, aM]
  have V : ∀ s, Val (.error e) (cT full N Q) s := fun s ts y r h => by cases h
  have hS : St l (.error e) a e.1 e.2 := ⟨⟨t, ht⟩, he, rfl, rfl⟩
  have iN' : ∀ g : Bool, ∃ z, ∀ k : Int → Option (Str × Int × Int × Int), bm g default (bz N t.2.1) k = k z := fun g => by
   cases g
   ·exact ⟨default, fun k => rfl⟩
   ·exact ⟨cw N t.2.1, fun k => by rw [fP, iN]; rfl⟩
  have iQ' : ∀ g : Bool, ∃ z, ∀ k : Int → Option (Str × Int × Int × Int), bm g default (bz Q t.2.1) k = k z := fun g => by
   cases g
   ·exact ⟨default, fun k => rfl⟩
   ·exact ⟨cw Q t.2.1, fun k => by rw [fP, iQ]; rfl⟩
  cases h1 : (t.1 != 1)
  case true =>
   simp only [cond_true, pN N S_ I Q C he, ai]
   exact ⟨_, _, _, _, rfl, hS, V _⟩
  simp only [cond_false]
  obtain ⟨z1, e1⟩ := iN' (!(kD.contains t.2.1))
  rw [e1]
  obtain ⟨z2, e2⟩ := iQ' (!(kD.contains t.2.1 || decide (0 ≤ z1)))
  rw [e2]
  cases (kD.contains t.2.1 || decide (0 ≤ z1) || decide (0 ≤ z2))
  ·cases full
   ·simp only [cond_false, he]
    exact ⟨_, _, _, _, rfl, hS, V _⟩
   ·simp only [cond_true, cond_false, pN N S_ I Q C he, ai]
    exact ⟨_, _, _, _, rfl, hS, V _⟩
  ·simp only [cond_true, pN N S_ I Q C he, ai]
   exact ⟨_, _, _, _, rfl, hS, V _⟩
include hl in
theorem yO (neg : Bool) (h : St l st a b p) : ∃ n a' b' p', fe l N S_ I Q C b p neg a = some (n, a', b', p') ∧ St l (aD st (jS neg)) a' b' p' ∧ Val st (jS neg) n := by
 obtain ⟨t, ht⟩ := h.at
 unfold fe
 rw [ht, ai]
 cases st with
 | ok ts =>
  obtain ⟨k, t', r, rfl, rfl, hd, he, rfl, rfl, hx, hm, hd1, hk⟩ := h.ok
  rw [hx] at ht; cases ht
  simp only [aD, aM, jS, rest, Val]
  cases h1 : (t.1 != 2)
  ·simp only [cond_false, dv, bu (show k < 4611686018427387904 by omega)]
   have ht2 : t.1 = 2 := by simpa using h1
   have hE : Pa.Ends r := he.tail (by omega)
   cases neg
   ·exact ⟨_, _, _, _, rfl, ⟨k + 1, rfl, hd1, hE, rfl, rfl⟩, fun ts y r' h2 h3 => by cases h2; simp only [h1, cond_false] at h3; cases h3; rfl⟩
   ·exact ⟨_, _, _, _, rfl, ⟨k + 1, rfl, hd1, hE, rfl, rfl⟩, fun ts y r' h2 h3 => by cases h2; simp only [h1, cond_false, cond_true] at h3; cases h3; rfl⟩
  ·simp only [cond_true, jY, ai, dv]
   exact ⟨_, _, _, _, rfl, ⟨⟨t, hx⟩, rfl, rfl, rfl⟩, fun ts y r' h2 h3 => by cases h2; simp only [h1, cond_true] at h3; cases h3⟩
 | error e =>
  obtain ⟨_, he, rfl, rfl⟩ := h
  have hb : (e.1 != 0) = true := by simp only [bne, he, Bool.not_false]
  simp only [aD, aM, pN N S_ I Q C he, ai, dv, bl, hb, cond_true]
  have hS : St l (.error e) a e.1 e.2 := ⟨⟨t, ht⟩, he, rfl, rfl⟩
  cases (t.1 != 2) <;> exact ⟨_, _, _, _, rfl, hS, fun ts y r h => by cases h⟩
include hl in
theorem BX (h : St l st a b p) : ∃ n a' b' p', ca l a N S_ I Q C b p = some (n, a', b', p') ∧ St l (aD st di) a' b' p' ∧ Val st di n := by
 unfold ca
 rw [sk N S_ I Q C h 3 [45], ai]
 cases st with
 | ok ts =>
  simp only [isS]
  cases hc : isH 3 [45] ts
  ·simp only [cond_false]
   obtain ⟨n, a', b', p', h1, h2, h3⟩ := yO hl N S_ I Q C false h
   have e : di ts = jS false ts := by unfold di; rw [hc]; rfl
   exact ⟨n, a', b', p', h1, by simpa only [aD, aM, e] using h2, fun ts' y r h4 h5 => h3 ts' y r h4 (by cases h4; rw [← e]; exact h5)⟩
  ·simp only [cond_true]
   obtain ⟨k, t, r, rfl, rfl, hd, he, rfl, rfl, hx, hm, hd1, hk⟩ := h.ok
   have hE : Pa.Ends r := (iI he (by decide) hc).1
   have hS : St l (.ok r) (IntKind.i64.wrap ((k : Int) + 1)) 0 0 := by rw [bu (show k < 4611686018427387904 by omega)]; exact ⟨k + 1, rfl, hd1, hE, rfl, rfl⟩
   obtain ⟨n, a', b', p', h1, h2, h3⟩ := yO hl N S_ I Q C true hS
   have e : di (t :: r) = jS true r := by unfold di; rw [hc]; rfl
   exact ⟨n, a', b', p', h1, by simpa only [aD, aM, e] using h2, fun ts' y r' h4 h5 => h3 r y r' rfl (by cases h4; rw [← e]; exact h5)⟩
 | error e =>
  simp only [isS, cond_false]
  obtain ⟨n, a', b', p', h1, h2, h3⟩ := yO hl N S_ I Q C false h
  exact ⟨n, a', b', p', h1, h2, fun ts' y r h4 => by cases h4⟩
include hl htok hnum in
theorem EE (h : St l st a b p) (hN : N.length < 1099511627776) (want : Int) : ∃ x a' b' p', bh want l a N S_ I Q C b p = some (x, a', b', p') ∧ St l (aD st (bZ want N)) a' b' p' ∧ Val st (bZ want N) x := by
 have _ := hnum
 unfold bh
 cases st with
 | ok ts =>
  obtain ⟨k, t, r0, rfl, rfl, hd, he, rfl, rfl, hx, hm, hd1, hk⟩ := h.ok
  simp only [bne_self_eq_false, cond_false]
  obtain ⟨r, hr, hP⟩ := HH (names := N) (by omega) (by omega) htok (a := k) (by rw [hd]; exact he)
  rw [hd] at hr
  have hre := IX hr
  match r, hr, hP, hre with
  | .error (b, p), hr, hP, hre =>
   have hb := rG hr
   have hb0 : (b == 0) = false := by simpa using hb
   rw [hP, ai]
   simp only [hb, cond_true, jY, ai, aD, aM, bZ, hre, rest]
   exact ⟨_, _, _, _, rfl, ⟨⟨t, hx⟩, hb0, rfl, rfl⟩, fun ts y r' h2 h3 => by cases h2; simp only [bZ, hre] at h3; cases h3⟩
  | .ok (x, ts'), hr, ⟨k', hk', hP⟩, hre =>
   have hsz := hr.size _ rfl
   simp only [szJ, Nat.add_zero] at hsz
   have hlen : (t :: r0).length ≤ l.length := by rw [← hd]; simp
   have hends := (hr.ends he _ rfl).1
   rw [hP, ai]
   simp only [bne_self_eq_false, cond_false, Gc x (by omega), ai, aD, aM, bZ, hre, rest, Val, gO]
   have hat : ∃ t', idx l (k' : Int) = some t' := by
    obtain ⟨t', r', hh⟩ := hends.ne
    simp only at hh
    rw [hh] at hk'
    exact ⟨t', (jK hk').1⟩
   cases h1 : ((rt x).2.1 != 0)
   case true =>
    have h10 : ((rt x).2.1 == 0) = false := by simpa using h1
    simp only [cond_true, jY, ai]
    exact ⟨_, _, _, _, rfl, ⟨hat, h10, rfl, rfl⟩, fun ts y r' h2 h3 => by cases h2; simp only [hre, h1, cond_true] at h3; cases h3⟩
   simp only [cond_false]
   cases h2 : ((rt x).1 != want)
   case true =>
    simp only [cond_true, jY, ai]
    exact ⟨_, _, _, _, rfl, ⟨hat, rfl, rfl, rfl⟩, fun ts y r' h4 h3 => by cases h4; simp only [hre, h1, cond_false, h2, cond_true] at h3; cases h3⟩
   simp only [cond_false]
   exact ⟨_, _, _, _, rfl, ⟨k', rfl, hk', hends, rfl, rfl⟩, fun ts y r' h4 h3 => by cases h4; simp only [hre, h1, cond_false, h2] at h3; cases h3; rfl⟩
 | error e =>
  obtain ⟨ht, he, rfl, rfl⟩ := h
  have hb : (e.1 != 0) = true := by simp only [bne, he, Bool.not_false]
  simp only [hb, cond_true, aD, aM]
  exact ⟨_, _, _, _, rfl, ⟨ht, he, rfl, rfl⟩, fun ts y r h => by cases h⟩
end
end Sy
end Go.Proofs.YtkckoolfgnkpcaaDoor
namespace Go.Proofs.YtkckoolfgnkpcaaDoor
namespace Sy
open Pa
theorem JC (lo hi : Int) : gQ ([(lo, hi)] : List (Int × Int)) = some (ku lo hi) := by
 have e : gQ ([(lo, hi)] : List (Int × Int)) = ao (iB [(lo, hi)]) au 0 := rfl
 rw [e]
 obtain ⟨m, hm⟩ : ∃ m, au = m + 2 := ⟨18446744073709551614, rfl⟩
 rw [hm, show m + 2 = (m + 1) + 1 from rfl, an]
 have i0 : idx ([(lo, hi)] : List (Int × Int)) 0 = some (lo, hi) := rfl
 have d0 : decide ((0 : Int) < (List.length ([(lo, hi)] : List (Int × Int)) : Int)) = true := rfl
 have w0 : IntKind.i64.wrap (0 + 1) = 1 := rfl
 simp only [iB, d0, cond_true, i0, ai, bl, w0]
 unfold ku
 cases decide (hi < lo)
 case true => rfl
 simp only [Bool.not_false, fP, ai, Bool.false_or, Bool.true_and]
 cases decide (lo < -1073741824)
 case true => rfl
 simp only [Bool.not_false, fP, ai, Bool.false_or, Bool.true_and]
 cases decide (1073741824 < hi)
 case true => rfl
 simp only [Bool.not_false, fP, ai, Bool.false_or, Bool.true_and]
 cases decide (65535 < IntKind.i64.wrap (hi - lo))
 ·rw [an]; rfl
 ·rfl
section
variable {l : List Tok} (hl : l.length < 1099511627776) (htok : ∀ t ∈ l, dP t) (hnum : ∀ t ∈ l, pj t)
variable {st : Except Err (List Tok)} {a b p : Int} (N : List Str) (S_ : List (Int × Int)) (I : List Int) (Q : List Str) (C : List Cmd)
variable (hN : N.length < 1099511627776) (hS : S_.length < 1099511627776) (hI : I.length < 1099511627776) (hQ : Q.length < 1099511627776) (hC : C.length < 1099511627776)
include hl hN hS hI hQ in
theorem NC (h : St l st a b p) : ∃ a' N' S' I' b' p', dG l a N S_ I Q C b p = some (a', N', S', I', b', p') ∧ St l (aD st (jk (N, S_, I, Q, C))) a' b' p' ∧
  (∀ ts m r, st = .ok ts → jk (N, S_, I, Q, C) ts = .ok (m, r) → m = (N', S', I', Q, C)) := by
 obtain ⟨name, a1, b1, p1, e1, s1, v1⟩ := Dz hl N S_ I Q C h hN hQ (decide (16 ≤ (List.length N : Int)))
 obtain ⟨q, e0, v0⟩ := Dt N S_ I Q C s1
 obtain ⟨lo, a2, b2, p2, e2, s2, v2⟩ := BX hl N S_ I Q C s1
 obtain ⟨hi, a3, b3, p3, e3, s3, v3⟩ := BX hl N S_ I Q C s2
 obtain ⟨fi, a4, b4, p4, e4, s4, v4⟩ := BX hl N S_ I Q C s3
 obtain ⟨a5, b5, p5, e5, s5⟩ := px hl N S_ I Q C s4 [59]
 have k1 : aw (List.length N + List.length ([name] : List Str)) 16 = true := bO (by simp; omega) (by simp; omega)
 have k2 : aw (List.length S_ + List.length ([(lo, hi)] : List (Int × Int))) 16 = true := bO (by simp; omega) (by simp; omega)
 have k3 : aw (List.length I + List.length ([fi] : List Int)) 8 = true := bO (by simp; omega) (by simp; omega)
 have hK : ∀ c42 c43, eI N S_ I (name, a1, b1, p1) (lo, a2, b2, p2) (hi, a3, b3, p3) (fi, a4, b4, p4) (a5, b5, p5) c42 c43 = some (a5, N ++ [name], S_ ++ [(lo, hi)], I ++ [fi], c42, c43) := fun c42 c43 => by
  unfold eI
  rw [cb k1, cb k2, cb k3]
 unfold dG
 simp only [e1, ai, e0, e2, e3, e4, e5, JC, bl, hK]
 -- where it is wrong
 have bad : ∀ e : Err, aM (aD (aD (aD (aD st (cT (decide (16 ≤ (List.length N : Int))) N Q)) di) di) di) (aU [59]) = .error e →
   (aD st (jk (N, S_, I, Q, C))) = .error e := by
  intro e he
  cases st with
  | error e' => simp only [aD, aM] at he ⊢; exact he
  | ok ts =>
   simp only [aD, aM, jk] at he ⊢
   cases h1 : cT (decide (16 ≤ (List.length N : Int))) N Q ts with
   | error e1 => rw [h1] at he; simp only [rest] at he ⊢; exact he
   | ok q1 =>
    rw [h1] at he; simp only [rest] at he ⊢
    cases h2 : di q1.2 with
    | error e1 => rw [h2] at he; simp only [] at he ⊢; exact he
    | ok q2 =>
     rw [h2] at he; simp only [] at he ⊢
     cases h3 : di q2.2 with
     | error e1 => rw [h3] at he; simp only [] at he ⊢; exact he
     | ok q3 =>
      rw [h3] at he; simp only [] at he ⊢
      cases h4 : di q3.2 with
      | error e1 => rw [h4] at he; simp only [] at he ⊢; exact he
      | ok q4 =>
       rw [h4] at he; simp only [] at he ⊢
       rw [he]
 cases hst : aM (aD (aD (aD (aD st (cT (decide (16 ≤ (List.length N : Int))) N Q)) di) di) di) (aU [59]) with
 | error e =>
  have hb := bad e hst
  rw [hst] at s5
  have hfail := pN (l := l) N S_ I Q C (b := b5) (by rw [s5.2.2.1]; exact s5.2.1) 5 q a5 p5
  rw [hb]
  have V : ∀ N' S' I', ∀ ts m r, st = .ok ts → jk (N, S_, I, Q, C) ts = .ok (m, r) → m = (N', S', I', Q, C) := fun N' S' I' ts m r h1 h2 => by
   subst h1
   simp only [aD, aM, h2, rest] at hb
   cases hb
  cases (!(ku lo hi) || decide (fi < lo) || decide (hi < fi))
  ·simp only [cond_false]; exact ⟨_, _, _, _, _, _, rfl, s5, V _ _ _⟩
  ·simp only [cond_true, hfail, ai]; exact ⟨_, _, _, _, _, _, rfl, s5, V _ _ _⟩
 | ok ts5 =>
  rw [hst] at s5
  cases st with
  | error e' => simp only [aD, aM] at hst; cases hst
  | ok ts =>
   simp only [aD, aM] at hst
   cases h1 : cT (decide (16 ≤ (List.length N : Int))) N Q ts with
   | error e1 => rw [h1] at hst; cases hst
   | ok q1 =>
    obtain ⟨name', ts1⟩ := q1
    rw [h1] at hst; simp only [rest] at hst
    have en : name = name' := v1 _ _ _ rfl h1
    have t1 : aD (.ok ts) (cT (decide (16 ≤ (List.length N : Int))) N Q) = .ok ts1 := by simp only [aD, aM, h1, rest]
    have eq : q = ve ts1 := v0 _ t1
    cases h2 : di ts1 with
    | error e1 => rw [h2] at hst; cases hst
    | ok q2 =>
     obtain ⟨lo', ts2⟩ := q2
     rw [h2] at hst; simp only at hst
     have e2' : lo = lo' := v2 _ _ _ t1 h2
     have t2 : aD (aD (.ok ts) (cT (decide (16 ≤ (List.length N : Int))) N Q)) di = .ok ts2 := by rw [t1]; simp only [aD, aM, h2, rest]
     cases h3 : di ts2 with
     | error e1 => rw [h3] at hst; cases hst
     | ok q3 =>
      obtain ⟨hi', ts3⟩ := q3
      rw [h3] at hst; simp only at hst
      have e3' : hi = hi' := v3 _ _ _ t2 h3
      have t3 : aD (aD (aD (.ok ts) (cT (decide (16 ≤ (List.length N : Int))) N Q)) di) di = .ok ts3 := by rw [t2]; simp only [aD, aM, h3, rest]
      cases h4 : di ts3 with
      | error e1 => rw [h4] at hst; cases hst
      | ok q4 =>
       obtain ⟨fi', ts4⟩ := q4
       rw [h4] at hst; simp only at hst
       have e4' : fi = fi' := v4 _ _ _ t3 h4
       have hv : jk (N, S_, I, Q, C) ts = (bif !(ku lo hi) || decide (fi < lo) || decide (hi < fi) then .error (5, ve ts1) else .ok ((N ++ [name], S_ ++ [(lo, hi)], I ++ [fi], Q, C), ts5)) := by
        simp only [jk, h1, h2, h3, h4, hst, en, e2', e3', e4']
       simp only [aD, aM, hv]
       obtain ⟨k5, e5a, e5b, e5c, rfl, rfl⟩ := s5
       cases hq : (!(ku lo hi) || decide (fi < lo) || decide (hi < fi))
       ·simp only [cond_false, rest]
        exact ⟨_, _, _, _, _, _, rfl, ⟨k5, e5a, e5b, e5c, rfl, rfl⟩, fun ts' m r h5 h6 => by cases h5; rw [hv, hq] at h6; simp only [cond_false] at h6; cases h6; rfl⟩
       ·simp only [cond_true, jY, ai, rest]
        refine ⟨_, _, _, _, _, _, rfl, ?_, fun ts' m r h5 h6 => by cases h5; rw [hv, hq] at h6; simp only [cond_true] at h6; cases h6⟩
        have hat := St.at (l := l) (st := .ok ts5) (a := a5) (b := 0) (p := 0) ⟨k5, e5a, e5b, e5c, rfl, rfl⟩
        exact ⟨hat, rfl, rfl, eq⟩
end
end Sy
end Go.Proofs.YtkckoolfgnkpcaaDoor
namespace Go.Proofs.YtkckoolfgnkpcaaDoor
namespace Sy
open Pa
section
variable {l : List Tok} (hl : l.length < 1099511627776) (htok : ∀ t ∈ l, dP t) (hnum : ∀ t ∈ l, pj t)
variable {st : Except Err (List Tok)} {a b p : Int} (N : List Str) (S_ : List (Int × Int)) (I : List Int) (Q : List Str) (C : List Cmd)
variable (hN : N.length < 1099511627776) (hQ : Q.length < 1099511627776) (hC : C.length < 1099511627776)
theorem xu (acc : List (Int × Ex)) (hacc : acc.length < 4611686018427387904) (again) (e : Tok) (i : Int) (a b p : Int) : ∀ (r pre : List (Int × Ex)), acc = pre ++ r → ∀ (M : Nat) (tw : Bool), r.length < M →
  ao (bg l N S_ I Q C a b p acc again e i) M (tw, (pre.length : Int)) = bg l N S_ I Q C a b p acc again e i (fun _ => none) (tw || nV r i, (acc.length : Int))
 | [], pre, h, M, tw, hM => by
  obtain ⟨m, rfl⟩ : ∃ m, M = m + 1 := ⟨M - 1, by simp at hM; omega⟩
  rw [an]
  have e1 : pre = acc := by simpa using h.symm
  subst e1
  simp only [bg, decide_eq_false (show ¬ ((pre.length : Int) < (List.length pre : Int)) by omega), cond_false, nV, List.any_nil, Bool.or_false]
 | x :: r, pre, h, M, tw, hM => by
  obtain ⟨m, rfl⟩ : ∃ m, M = m + 1 := ⟨M - 1, by omega⟩
  rw [an]
  have hlen : pre.length < 4611686018427387904 := by rw [h] at hacc; simp at hacc; omega
  have ih := fun tw => xu acc hacc again e i a b p r (pre ++ [x]) (by rw [h]; simp) m tw (by simp at hM; omega)
  rw [show ((pre ++ [x]).length : Int) = ((pre.length + 1 : Nat) : Int) by simp] at ih
  have hg : ∀ k : (Int × Ex) → Option (Int × List Cmd × Int × Int), bm (!tw) (0, Ex.mk 0 0 0 []) (some x) k = k (bif tw then (0, Ex.mk 0 0 0 []) else x) := fun k => by cases tw <;> rfl
  refine Eq.trans (b := bif decide ((pre.length : Int) < (List.length acc : Int)) then (bm (!tw) (0, (Ex.mk 0 0 0 [])) (idx acc (pre.length : Int)) fun e55 => ao (bg l N S_ I Q C a b p acc again e i) m (tw || (e55.1 == i), IntKind.i64.wrap ((pre.length : Int) + 1))) else none) ?_ ?_
  ·simp only [bg, eK h, cond_true, bl]
  ·rw [eK h, cond_true, mid h, hg, bu hlen, ih]
   congr 2
   simp only [nV, List.any_cons]
   cases tw <;> simp
include hl hC in
theorem zb (g5 : Ex × Int × Int × Int) (acc : List (Int × Ex)) (more : Bool) (M : Nat) (h : St l st a b p) (hm : (more && (b == 0)) = false) :
  ∃ a' b' p', ao (bI l N S_ I Q C g5) (M + 1) (a, b, p, acc, more) = some (a', C ++ [(IntKind.i64.wrap ((Q.length : Int) - 1), g5.1, acc)], b', p') ∧ St l (aM st (aU [59])) a' b' p' := by
 obtain ⟨a', b', p', e1, s1⟩ := px hl N S_ I Q C h [59]
 rw [an]
 simp only [bI, bl, hm, cond_false, e1, ai]
 have k1 : ∀ x : Cmd, aw (List.length C + List.length ([x] : List Cmd)) 80 = true := fun x => bO (by simp; omega) (by simp; omega)
 rw [cb (k1 _)]
 exact ⟨_, _, _, rfl, s1⟩
include hl htok hnum hN in
theorem Oy (acc : List (Int × Ex)) (hacc : acc.length < 1099511627776) (again) (i : Int) (h : St l st a b p) :
  ∃ x a' b' p', db l N S_ I Q C acc again i b p a = again (a', b', p', acc ++ [(i, x)], isS 3 [44] (aD (aM st (aU [61])) (bZ 1 N))) ∧
   St l (match aD (aM st (aU [61])) (bZ 1 N) with | .ok ts => (bif isH 3 [44] ts then .ok ts.tail else .ok ts) | .error e => .error e) a' b' p' ∧ Val (aM st (aU [61])) (bZ 1 N) x := by
 obtain ⟨a1, b1, p1, e1, s1⟩ := px hl N S_ I Q C h [61]
 obtain ⟨x, a2, b2, p2, e2, s2, v2⟩ := EE hl htok hnum N S_ I Q C s1 hN 1
 have e3 := sk N S_ I Q C s2 3 [44]
 have k1 : aw (List.length acc + List.length ([(i, x)] : List (Int × Ex))) 56 = true := bO (by simp; omega) (by simp; omega)
 unfold db
 simp only [e1, ai, e2, cb k1, e3]
 cases hst : aD (aM st (aU [61])) (bZ 1 N) with
 | error e =>
  rw [hst] at s2
  simp only [isS, cond_false]
  exact ⟨x, _, _, _, rfl, s2, v2⟩
 | ok ts =>
  rw [hst] at s2
  simp only [isS]
  cases hc : isH 3 [44] ts
  ·simp only [cond_false]
   exact ⟨x, _, _, _, rfl, s2, v2⟩
  ·simp only [cond_true]
   obtain ⟨k, t, r, rfl, rfl, hd, he, rfl, rfl, hx, hm, hd1, hk⟩ := s2.ok
   refine ⟨x, _, _, _, rfl, ?_, v2⟩
   rw [bu (show k < 4611686018427387904 by omega)]
   exact ⟨k + 1, rfl, hd1, (iI he (by decide) hc).1, rfl, rfl⟩
include hl htok hnum hN hC in
theorem Ld (g5 : Ex × Int × Int × Int) : ∀ (n : Nat) (ts : List Tok) (acc : List (Int × Ex)) (a : Int) (M f : Nat), ts.length ≤ n → n + 2 ≤ M → ts.length < f → acc.length + ts.length < 1099511627776 → St l (.ok ts) a 0 0 →
  ∃ a' C' b' p', ao (bI l N S_ I Q C g5) M (a, 0, 0, acc, true) = some (a', C', b', p') ∧ St l (aM (rest (cM N f acc ts)) (aU [59])) a' b' p' ∧
   (∀ sets r, cM N f acc ts = .ok (sets, r) → C' = C ++ [(IntKind.i64.wrap ((Q.length : Int) - 1), g5.1, sets)]) := by
 intro n
 induction n with
 | zero =>
  intro ts acc a M f h1 _ _ _ hs
  obtain ⟨k, t, r, _, rfl, _⟩ := hs.ok
  simp at h1
 | succ n ih =>
  intro ts acc a M f h1 h2 h3 h4 hs
  obtain ⟨M, rfl⟩ : ∃ m, M = m + 1 := ⟨M - 1, by omega⟩
  obtain ⟨f, rfl⟩ : ∃ m, f = m + 1 := ⟨f - 1, by omega⟩
  obtain ⟨k, t, r, rfl, rfl, hd, he, _, _, hx, hm, hd1, hk⟩ := hs.ok
  rw [an]
  generalize hag : ao (bI l N S_ I Q C g5) M = again
  simp only [bI, bl, beq_self_eq_true, Bool.and_self, cond_true, hx, ai, wS (show N.length < 4611686018427387904 by omega)]
  have htw := xu (l := l) N S_ I Q C acc (by omega) again t (cw N t.2.1) (k : Int) 0 0 acc [] rfl au false (by show acc.length < 2 ^ 64; omega)
  rw [show (([] : List (Int × Ex)).length : Int) = 0 from rfl, Bool.false_or] at htw
  rw [htw]
  simp only [bg, decide_eq_false (show ¬ ((acc.length : Int) < (List.length acc : Int)) by omega), cond_false, bl, jY, ai]
  -- the state behind the name
  have step : ∀ (st1 : Except Err (List Tok)) (c b p : Int), St l st1 c b p → (st1 = .ok r ∨ ∃ e, st1 = .error e) →
    cM N (f + 1) acc (t :: r) = (match st1 with
     | .error e => .error e
     | .ok r0 => match aU [61] r0 with
      | .error e => .error e
      | .ok r1 => match bZ 1 N r1 with
       | .error e => .error e
       | .ok (x, r2) => bif isH 3 [44] r2 then cM N f (acc ++ [(cw N t.2.1, x)]) r2.tail else .ok (acc ++ [(cw N t.2.1, x)], r2)) →
    ∃ a' C' b' p', db l N S_ I Q C acc again (cw N t.2.1) b p c = some (a', C', b', p') ∧ St l (aM (rest (cM N (f + 1) acc (t :: r))) (aU [59])) a' b' p' ∧
     (∀ sets r', cM N (f + 1) acc (t :: r) = .ok (sets, r') → C' = C ++ [(IntKind.i64.wrap ((Q.length : Int) - 1), g5.1, sets)]) := by
   intro st1 c b p hst1 hsh hse
   obtain ⟨x, a1, b1, p1, e1, s1, v1⟩ := Oy hl htok hnum N S_ I Q C hN acc (by omega) again (cw N t.2.1) hst1
   rw [e1, ← hag]
   have hM1 : 1 ≤ M := by omega
   obtain ⟨M', rfl⟩ : ∃ m, M = m + 1 := ⟨M - 1, by omega⟩
   cases hX : aD (aM st1 (aU [61])) (bZ 1 N) with
   | error e =>
    rw [hX] at s1
    simp only [isS] at s1 ⊢
    obtain ⟨a2, b2, p2, e2, s2⟩ := zb hl N S_ I Q C hC g5 (acc ++ [(cw N t.2.1, x)]) false M' s1 rfl
    have hse' : cM N (f + 1) acc (t :: r) = .error e := by
     rw [hse]
     cases st1 with
     | error e' => simp only [aD, aM] at hX ⊢; cases hX; rfl
     | ok r0 =>
      simp only [aD, aM] at hX ⊢
      cases q1 : aU [61] r0 with
      | error e' => rw [q1] at hX; simp only at hX ⊢; cases hX; rfl
      | ok r1 =>
       rw [q1] at hX; simp only at hX ⊢
       cases q2 : bZ 1 N r1 with
       | error e' => rw [q2] at hX; simp only [rest] at hX ⊢; cases hX; rfl
       | ok q => rw [q2] at hX; simp only [rest] at hX; cases hX
    rw [hse']
    exact ⟨_, _, _, _, e2, s2, fun sets r' h => by cases h⟩
   | ok r2 =>
    rw [hX] at s1
    simp only [isS] at s1 ⊢
    obtain ⟨r0, r1, x', hr0, hr1, hr2⟩ : ∃ r0 r1 x', st1 = .ok r0 ∧ aU [61] r0 = .ok r1 ∧ bZ 1 N r1 = .ok (x', r2) := by
     cases st1 with
     | error e' => simp only [aD, aM] at hX; cases hX
     | ok r0 =>
      simp only [aD, aM] at hX
      cases q1 : aU [61] r0 with
      | error e' => rw [q1] at hX; cases hX
      | ok r1 =>
       rw [q1] at hX; simp only at hX
       cases q2 : bZ 1 N r1 with
       | error e' => rw [q2] at hX; cases hX
       | ok q => rw [q2] at hX; simp only [rest] at hX; cases hX; exact ⟨r0, r1, q.1, rfl, q1, q2⟩
    have hx' : x = x' := v1 r1 x' r2 (by rw [hr0]; simp only [aM, hr1]) hr2
    subst hx'
    rw [hr0] at hse
    simp only [hr1, hr2] at hse
    have hr0r : r0 = r := by rcases hsh with h | ⟨e, h⟩ <;> rw [hr0] at h <;> cases h; rfl
    subst hr0r
    have heR : Pa.Ends r0 := by
     rw [hr0] at hst1
     exact (hst1.ok).choose_spec.choose_spec.choose_spec.2.2.2.1 |> fun h => by
      have := (hst1.ok).choose_spec.choose_spec.choose_spec.2.1
      rw [this]; exact h
    have q1 := gM heR hr1
    have q2 := (km q1.1 hr2).1
    have q2' : r2.length < r1.length := q2.2
    have q1' : r1.length < r0.length := q1.2
    cases hc : isH 3 [44] r2
    ·rw [hc] at s1 hse
     simp only [cond_false] at s1 hse
     obtain ⟨a2, b2, p2, e2, s2⟩ := zb hl N S_ I Q C hC g5 (acc ++ [(cw N t.2.1, x)]) false M' s1 rfl
     rw [hse]
     exact ⟨_, _, _, _, e2, s2, fun sets r' h => by cases h; rfl⟩
    ·rw [hc] at s1 hse
     simp only [cond_true] at s1 hse
     obtain ⟨t1, t2⟩ := iI q2.1 (by decide) hc
     have t2' : r2.tail.length + 1 = r2.length := t2
     have hlen : (acc ++ [(cw N t.2.1, x)]).length = acc.length + 1 := by simp
     simp only [List.length_cons] at h1 h3 h4
     have hb1 : b1 = 0 ∧ p1 = 0 := by obtain ⟨_, _, _, _, h5, h6⟩ := s1; exact ⟨h5, h6⟩
     obtain ⟨rfl, rfl⟩ := hb1
     obtain ⟨a2, C2, b2, p2, e2, s2, v2⟩ := ih r2.tail (acc ++ [(cw N t.2.1, x)]) a1 (M' + 1) f (by omega) (by omega) (by omega) (by rw [hlen]; omega) s1
     rw [hse]
     exact ⟨_, _, _, _, e2, s2, v2⟩
  cases c1 : (t.1 != 1)
  case true =>
   simp only [cond_true, c7, show ((2 : Int) == 0) = false from rfl, cond_false]
   refine step (.error (2, t.2.2.2)) (k : Int) 2 t.2.2.2 ⟨⟨t, hx⟩, rfl, rfl, rfl⟩ (.inr ⟨_, rfl⟩) ?_
   simp only [cM, c1, cond_true]
  simp only [cond_false]
  cases c2 : (decide (cw N t.2.1 < 0) || nV acc (cw N t.2.1))
  case true =>
   simp only [cond_true, c7, show ((3 : Int) == 0) = false from rfl, cond_false]
   refine step (.error (3, t.2.2.2)) (k : Int) 3 t.2.2.2 ⟨⟨t, hx⟩, rfl, rfl, rfl⟩ (.inr ⟨_, rfl⟩) ?_
   simp only [cM, c1, cond_false, c2, cond_true]
  simp only [cond_false, c7, beq_self_eq_true, cond_true, bu (show k < 4611686018427387904 by omega)]
  have ht1 : t.1 = 1 := by simpa using c1
  refine step (.ok r) ((k + 1 : Nat) : Int) 0 0 ⟨k + 1, rfl, hd1, he.tail (by omega), rfl, rfl⟩ (.inl rfl) ?_
  simp only [cM, c1, cond_false, c2]
  all_goals
   cases aU [61] r with
   | error e => rfl
   | ok r1 =>
    simp only
    cases bZ 1 N r1 <;> rfl
include hl htok hnum hN hC in
theorem Gw (h : St l st a b p) : ∃ a' C' b' p', da l a N S_ I Q C b p = some (a', C', b', p') ∧
  St l (aM (aM (aD st (bZ 2 N)) (aU [58])) (fun r2 => aM (rest (cM N (r2.length + 1) [] r2)) (aU [59]))) a' b' p' ∧
  (∀ ts g r1 r2 sets r3, st = .ok ts → bZ 2 N ts = .ok (g, r1) → aU [58] r1 = .ok r2 → cM N (r2.length + 1) [] r2 = .ok (sets, r3) → C' = C ++ [(IntKind.i64.wrap ((Q.length : Int) - 1), g, sets)]) := by
 obtain ⟨x, a1, b1, p1, e1, s1, v1⟩ := EE hl htok hnum N S_ I Q C h hN 2
 obtain ⟨a2, b2, p2, e2, s2⟩ := px hl N S_ I Q C s1 [58]
 unfold da
 simp only [e1, ai, e2]
 cases hX : aM (aD st (bZ 2 N)) (aU [58]) with
 | error e =>
  rw [hX] at s2
  have hb : (false : Bool) = (b2 == 0) := by rw [s2.2.2.1]; exact s2.2.1.symm
  obtain ⟨a3, b3, p3, e3, s3⟩ := zb hl N S_ I Q C hC (x, a1, b1, p1) [] true 18446744073709551615 s2 (by rw [← hb]; rfl)
  rw [show au = 18446744073709551615 + 1 from rfl, e3]
  refine ⟨_, _, _, _, rfl, s3, fun ts g r1 r2 sets r3 h1 h2 h3 h4 => ?_⟩
  subst h1
  simp only [aD, aM, h2, rest, h3] at hX
  cases hX
 | ok r2 =>
  rw [hX] at s2
  obtain ⟨k, rfl, hd, he, rfl, rfl⟩ := s2
  have hlen : r2.length ≤ l.length := by rw [← hd]; simp
  obtain ⟨a3, C3, b3, p3, e3, s3, v3⟩ := Ld hl htok hnum N S_ I Q C hN hC (x, a1, b1, p1) r2.length r2 [] (k : Int) au (r2.length + 1) (Nat.le_refl _) (by show _ ≤ 2 ^ 64; omega) (by omega) (by simp; omega) ⟨k, rfl, hd, he, rfl, rfl⟩
  refine ⟨_, _, _, _, e3, s3, fun ts g r1 r2' sets r3 h1 h2 h3 h4 => ?_⟩
  subst h1
  have hx : x = g := v1 ts g r1 rfl h2
  simp only [aD, aM, h2, rest, h3] at hX
  cases hX
  have := v3 sets r3 h4
  rw [this, hx]
include hl htok hnum hN hC in
theorem Nv (h : St l st a b p) : ∃ a' C' b' p', dQ l a N S_ I Q C b p = some (a', C', b', p') ∧ St l (aD st (gW (N, S_, I, Q, C))) a' b' p' ∧
  (∀ ts m r, st = .ok ts → gW (N, S_, I, Q, C) ts = .ok (m, r) → m = (N, S_, I, Q, C')) := by
 unfold dQ
 have key : ∀ (st1 : Except Err (List Tok)) (b1 p1 : Int), St l st1 a b1 p1 → ((∃ e, st1 = .error e ∧ aD st (gW (N, S_, I, Q, C)) = .error e) ∨ (st1 = st ∧ decide (256 ≤ (C.length : Int)) = false)) →
   ∃ a' C' b' p', da l a N S_ I Q C b1 p1 = some (a', C', b', p') ∧ St l (aD st (gW (N, S_, I, Q, C))) a' b' p' ∧
    (∀ ts m r, st = .ok ts → gW (N, S_, I, Q, C) ts = .ok (m, r) → m = (N, S_, I, Q, C')) := by
  intro st1 b1 p1 hs hor
  obtain ⟨a', C', b', p', e1, s1, v1⟩ := Gw hl htok hnum N S_ I Q C hN hC hs
  refine ⟨a', C', b', p', e1, ?_, ?_⟩
  ·rcases hor with ⟨e, rfl, he⟩ | ⟨rfl, hd⟩
   ·rw [he]; exact s1
   ·have : aD st1 (gW (N, S_, I, Q, C)) = aM (aM (aD st1 (bZ 2 N)) (aU [58])) (fun r2 => aM (rest (cM N (r2.length + 1) [] r2)) (aU [59])) := by
     cases st1 with
     | error e => rfl
     | ok ts =>
      simp only [aD, aM, gW, hd, cond_false]
      cases bZ 2 N ts with
      | error e => rfl
      | ok q =>
       simp only [rest]
       cases aU [58] q.2 with
       | error e => rfl
       | ok r2 =>
        simp only
        cases cM N (r2.length + 1) [] r2 with
        | error e => rfl
        | ok q3 =>
         simp only
         cases aU [59] q3.2 <;> rfl
    rw [this]; exact s1
  ·intro ts m r h1 h2
   rcases hor with ⟨e, rfl, he⟩ | ⟨rfl, hd⟩
   ·subst h1
    simp only [aD, aM, h2, rest] at he
    cases he
   ·subst h1
    simp only [gW, hd, cond_false] at h2
    cases q1 : bZ 2 N ts with
    | error e => rw [q1] at h2; cases h2
    | ok q =>
     obtain ⟨g, r1⟩ := q
     rw [q1] at h2; simp only at h2
     cases q2 : aU [58] r1 with
     | error e => rw [q2] at h2; cases h2
     | ok r2 =>
      rw [q2] at h2; simp only at h2
      cases q3 : cM N (r2.length + 1) [] r2 with
      | error e => rw [q3] at h2; cases h2
      | ok qq =>
       obtain ⟨sets, r3⟩ := qq
       rw [q3] at h2; simp only at h2
       cases q4 : aU [59] r3 with
       | error e => rw [q4] at h2; cases h2
       | ok r4 =>
        rw [q4] at h2; cases h2
        rw [v1 ts g r1 r2 sets r3 rfl q1 q2 q3]
 cases hd : decide (256 ≤ (List.length C : Int))
 ·simp only [cond_false, bl]
  exact key st b p h (.inr ⟨rfl, hd⟩)
 ·simp only [cond_true, bl]
  obtain ⟨q, e0, v0⟩ := Dt N S_ I Q C h
  rw [e0, ai]
  cases st with
  | ok ts =>
   obtain ⟨k, t, r, rfl, rfl, hd', he, rfl, rfl, hx, _⟩ := h.ok
   rw [jY, ai]
   have hq : q = ve (t :: r) := v0 _ rfl
   refine key (.error (9, q)) 9 q ⟨⟨t, hx⟩, rfl, rfl, rfl⟩ (.inl ⟨_, rfl, ?_⟩)
   simp only [aD, aM, gW, hd, cond_true, rest, hq]
  | error e =>
   have he := h.2.1
   have hcopy := h
   obtain ⟨_, _, rfl, rfl⟩ := hcopy
   rw [pN N S_ I Q C he, ai]
   exact key (.error e) e.1 e.2 h (.inl ⟨e, rfl, rfl⟩)
end
end Sy
end Go.Proofs.YtkckoolfgnkpcaaDoor
namespace Go.Proofs.YtkckoolfgnkpcaaDoor
namespace Lx
theorem Lm {α : Type} (xs : List α) (k : Nat) : idx xs (k : Int) = xs[k]? := by simp [idx]
theorem M7 {α : Type} {xs : List α} {k : Nat} (h : k < xs.length) : idx xs (k : Int) = some xs[k] := by rw [Lm, List.getElem?_eq_getElem h]
theorem an {σ ρ : Type} (F : (σ → Option ρ) → σ → Option ρ) (n : Nat) (s : σ) : ao F (n + 1) s = F (ao F n) s := rfl
theorem kf {ρ : Type} (k : Option ρ) : chk true k = k := rfl
theorem oZ {ρ : Type} (c : Bool) (k : Option ρ) : sI false c k = k := rfl
theorem kb {ρ : Type} (k : Option ρ) (g : Bool) : sI g true k = k := by cases g <;> rfl
theorem jJ {α ρ : Type} (d : α) (m : Option α) (k : α → Option ρ) : bm true d m k = m.bind k := rfl
theorem mZ {α ρ : Type} (d : α) (m : Option α) (k : α → Option ρ) : bm false d m k = k d := rfl
theorem gi {α ρ : Type} (x : α) (k : α → Option ρ) : (some x).bind k = k x := rfl
theorem gF {α ρ : Type} (x : α) (k : α → Option ρ) : ab x k = k x := rfl
theorem lB {i : Int} {n : Nat} (h0 : 0 ≤ i) (h1 : i < n) : inB i n = true := lM.2 ⟨h0, h1⟩
theorem uH {i j : Int} {n : Nat} (h0 : 0 ≤ i) (h1 : i ≤ j) (h2 : j ≤ n) : kJ i j n = true := sq.2 ⟨⟨h0, h1⟩, h2⟩
theorem oM {k b : Nat} (h : k * b ≤ 140737488355328) (h2 : k ≤ 9223372036854775807) : aw k b = true := by
  simp only [aw, Bool.and_eq_true]; exact ⟨Nat.ble_eq_true_of_le h, Nat.ble_eq_true_of_le h2⟩
theorem xO (l : Str) (k : Nat) (h : k < l.length) : iw l (k : Int) = (l[k].toNat : Int) := by
  simp [iw, List.getD, h]
theorem Lp (l : Str) (i j : Nat) : cut l (i : Int) (j : Int) = (l.drop i).take (j - i) := rfl
theorem kA {p : Prop} [Decidable p] (h : p) : decide p = true := decide_eq_true h
theorem nP {p : Prop} [Decidable p] (h : ¬ p) : decide p = false := decide_eq_false h
theorem pD : au = 18446744073709551616 := rfl
theorem La {σ ρ : Type} {F : (σ → Option ρ) → σ → Option ρ} {N : Nat} (st : Nat → σ) (n : Nat) (r : Option ρ)
    (step : ∀ again k, k < n → F again (st k) = again (st (k + 1))) (last : ∀ again, F again (st n) = r) :
    ∀ k, k ≤ n → n - k < N → ao F N (st k) = r := by
  induction N with
  | zero => intro k _ h; omega
  | succ N ih =>
    intro k hk hN
    rw [an]
    by_cases hkn : k < n
    · rw [step _ k hkn]; exact ih (k + 1) (by omega) (by omega)
    · have : k = n := by omega
      subst this; exact last _
theorem fixN_upto {σ ρ : Type} {F : (σ → Option ρ) → σ → Option ρ} {N : Nat} (st : Nat → σ) (n m : Nat) (_hm : m ≤ n) (r : Option ρ)
    (step : ∀ again k, k < m → F again (st k) = again (st (k + 1))) (last : ∀ again, F again (st m) = r) (h0 : m < N) : ao F N (st 0) = r :=
  La st m r step last 0 (Nat.zero_le _) (by omega)
abbrev Tok := Int × Str × Int × Int
noncomputable def dY (c : UInt8) : Bool := c == 32 || c == 9 || c == 10 || c == 13
noncomputable def cS (c : UInt8) : Bool := (decide (97 ≤ c) && decide (c ≤ 122)) || (decide (65 ≤ c) && decide (c ≤ 90)) || c == 95
noncomputable def isDigit (c : UInt8) : Bool := decide (48 ≤ c) && decide (c ≤ 57)
noncomputable def bY (c : UInt8) : Bool := cS c || isDigit c
noncomputable def nS (c : UInt8) : Bool := c != 10
theorem qM (c d : UInt8) : ((c.toNat : Int) == (d.toNat : Int)) = (c == d) := by
  rw [Bool.eq_iff_iff]
  simp only [beq_iff_eq]
  constructor
  · intro h; exact UInt8.toNat_inj.1 (by omega)
  · intro h; rw [h]
theorem yu (c d : UInt8) : decide ((c.toNat : Int) ≤ (d.toNat : Int)) = decide (c ≤ d) := by
  rw [Bool.eq_iff_iff]
  simp only [decide_eq_true_eq, UInt8.le_iff_toNat_le]
  omega
/-! runs -/
theorem pX {p : UInt8 → Bool} : ∀ (l : Str) (k : Nat), (∀ i (h : i < l.length), i < k → p l[i] = true) → k ≤ l.length → (∀ h : k < l.length, p l[k] = false) → l.takeWhile p = l.take k
  | [], k, _, hk, _ => by simp
  | c :: l, 0, _, _, h2 => by
    have := h2 (by simp)
    simp at this
    simp [this]
  | c :: l, k + 1, h1, hk, h2 => by
    have hc := h1 0 (by simp) (by omega)
    simp at hc
    rw [List.takeWhile_cons, if_pos hc, List.take_succ_cons, pX l k (fun i h hik => by
      have := h1 (i + 1) (by simp; omega) (by omega)
      simpa using this) (by simpa using hk) (fun h => by
      have := h2 (by simp; omega)
      simpa using this)]
/-! numbers -/
noncomputable def dig (c : UInt8) : Int := (c.toNat : Int) - 48
noncomputable def dw (n : Int) (s : Str) : Int := s.foldl (fun n c => 10 * n + dig c) n
noncomputable def big (n : Int) : Bool := decide (1073741824 < n)
theorem xD {c : UInt8} (h : isDigit c = true) : 0 ≤ dig c ∧ dig c ≤ 9 := by
  simp only [isDigit, Bool.and_eq_true, decide_eq_true_eq, UInt8.le_iff_toNat_le] at h
  unfold dig
  have h1 : (48 : UInt8).toNat = 48 := rfl
  have h2 : (57 : UInt8).toNat = 57 := rfl
  omega
theorem pT : ∀ (s : Str) (n : Int), 0 ≤ n → s.all isDigit = true → n ≤ dw n s
  | [], n, _, _ => Int.le_refl _
  | c :: s, n, hn, h => by
    simp only [List.all_cons, Bool.and_eq_true] at h
    have hd := xD h.1
    have := pT s (10 * n + dig c) (by omega) h.2
    show n ≤ dw (10 * n + dig c) s
    omega
theorem rune_digit (s : Str) (k : Nat) (h : k < s.length) (hd : isDigit s[k] = true) : tI s k = (s[k].toNat : Int) ∧ jI s k = k + 1 := by
  have hc : (s[k].toNat : Nat) < 128 := by
    simp only [isDigit, Bool.and_eq_true, decide_eq_true_eq, UInt8.le_iff_toNat_le] at hd
    have h2 : (57 : UInt8).toNat = 57 := rfl
    omega
  have hget : (⟨s.toArray⟩ : ByteArray).get! k = s[k] := by
    show s.toArray[k]! = s[k]
    simp [h]
  have hdec : Utf8.decode ⟨s.toArray⟩ k = (s[k].toNat, 1) := by
    unfold Utf8.decode
    simp only [Nat.add_zero, hget]
    rw [if_pos hc]
  exact ⟨by simp [tI, hdec], by simp [jI, hdec]⟩
/-! signs -/
noncomputable def bE : List Str := [[60, 45, 62], [45, 62], [61, 61], [33, 61], [60, 61], [62, 61], [60], [62], [61], [43], [45], [42], [40], [41], [123], [125], [59], [44], [58], [38], [124], [33]]
noncomputable def cF (s : Str) : Str := (bE.find? (fun g => g.isPrefixOf s)).getD []
/-! one step -/
inductive Step where
  | skip (k : Nat)
  | err (e : Int)
  | tok (k : Int) (t : Str) (n : Int)
noncomputable def step : Str → Step
  | [] => .skip 0
  | c :: s =>
    if dY c then .skip 1
    else if c == 35 then .skip ((c :: s).takeWhile nS).length
    else if cS c then (if 32 < ((c :: s).takeWhile bY).length then .err 9 else .tok 1 ((c :: s).takeWhile bY) 0)
    else if isDigit c then (if big (dw 0 ((c :: s).takeWhile isDigit)) then .err 9 else .tok 2 ((c :: s).takeWhile isDigit) (dw 0 ((c :: s).takeWhile isDigit)))
    else if cF (c :: s) == [] then .err 2 else .tok 3 (cF (c :: s)) 0
noncomputable def gX : Nat → Nat → Str → Except (Int × Int) (List Tok)
  | 0, _, _ => .ok []
  | _ + 1, at_, [] => .ok [(4, [], 0, (at_ : Int))]
  | f + 1, at_, c :: s =>
    match step (c :: s) with
    | .skip k => gX f (at_ + k) ((c :: s).drop k)
    | .err e => .error (e, at_)
    | .tok k t n => match gX f (at_ + t.length) ((c :: s).drop t.length) with
      | .ok l => .ok ((k, t, n, (at_ : Int)) :: l)
      | .error e => .error e
noncomputable def res : Except (Int × Int) (List Tok) → List Tok × Int × Int
  | .ok l => (l, 0, 0)
  | .error e => ([], e.1, e.2)
noncomputable def tokens (s : Str) : List Tok × Int × Int := if 65536 < s.length then ([], 9, 0) else res (gX (s.length + 1) 0 s)
theorem jB (p : UInt8 → Bool) : ∀ s : Str, (s.takeWhile p).all p = true
  | [] => rfl
  | c :: s => by
    rw [List.takeWhile_cons]
    split
    · rename_i h; simp only [List.all_cons, h, Bool.true_and]; exact jB p s
    · rfl
theorem ll (p : UInt8 → Bool) (s : Str) : (s.takeWhile p).length ≤ s.length := (List.takeWhile_prefix p).length_le
theorem hU {p : UInt8 → Bool} {c : UInt8} {s : Str} (h : p c = true) : 1 ≤ ((c :: s).takeWhile p).length := by
  rw [List.takeWhile_cons, if_pos h]; simp
theorem lp {c : UInt8} (h : cS c = true) : bY c = true := by simp [bY, h]
theorem zT : ∀ g ∈ bE, 1 ≤ g.length := by decide
theorem oO {s : Str} (h : (cF s == []) = false) : cF s ∈ bE ∧ cF s <+: s ∧ bE.find? (fun g => g.isPrefixOf s) = some (cF s) := by
  unfold cF at *
  cases hf : bE.find? (fun g => g.isPrefixOf s) with
  | none => rw [hf] at h; simp at h
  | some g =>
    refine ⟨List.mem_of_find?_eq_some hf, ?_, rfl⟩
    have := List.find?_some hf
    simpa using this
theorem step_take {c : UInt8} {s : Str} (hb : dY c = false) (hc : (c == 35) = false) {k : Int} {t : Str} {n : Int} (h : step (c :: s) = .tok k t n) : 1 ≤ t.length ∧ t <+: (c :: s) := by
  simp only [step, hb, hc, Bool.false_eq_true, if_false] at h
  cases hlet : cS c
  · simp only [hlet, Bool.false_eq_true, if_false] at h
    cases hdig : isDigit c
    · simp only [hdig, Bool.false_eq_true, if_false] at h
      cases hsg : (cF (c :: s) == [])
      · simp only [hsg, Bool.false_eq_true, if_false, Step.tok.injEq] at h
        obtain ⟨_, rfl, _⟩ := h
        obtain ⟨h1, h2, _⟩ := oO hsg
        exact ⟨zT _ h1, h2⟩
      · simp [hsg] at h
    · simp only [hdig, if_true] at h
      split at h
      · cases h
      · simp only [Step.tok.injEq] at h
        obtain ⟨_, rfl, _⟩ := h
        exact ⟨hU hdig, List.takeWhile_prefix _⟩
  · simp only [hlet, if_true] at h
    split at h
    · cases h
    · simp only [Step.tok.injEq] at h
      obtain ⟨_, rfl, _⟩ := h
      exact ⟨hU (lp hlet), List.takeWhile_prefix _⟩
noncomputable def tZ (out : List Tok) : Except (Int × Int) (List Tok) → List Tok × Int × Int
  | .ok l => (out ++ l, 0, 0)
  | .error e => ([], e.1, e.2)
theorem Aj {s : Str} {k : Nat} {c : UInt8} {r : Str} (h : s.drop k = c :: r) : ∃ hk : k < s.length, s[k] = c := by
  have hk : k < s.length := by
    rcases Nat.lt_or_ge k s.length with h' | h'
    · exact h'
    · rw [List.drop_of_length_le h'] at h; cases h
  refine ⟨hk, ?_⟩
  rw [List.drop_eq_getElem_cons hk] at h
  exact (List.cons.inj h).1
theorem NJ {c : UInt8} {s : Str} {e : Int} (h : step (c :: s) = .err e) : e ≠ 0 := by
  simp only [step] at h
  split at h
  · cases h
  · split at h
    · cases h
    · split at h
      · split at h
        · cases h; decide
        · cases h
      · split at h
        · split at h
          · cases h; decide
          · cases h
        · split at h
          · cases h; decide
          · cases h
theorem uf {σ ρ : Type} {F : (σ → Option ρ) → σ → Option ρ} (p : UInt8 → Bool) (s : Str) (st : Nat → σ) (r : Nat → Option ρ)
    (go : ∀ again k (h : k < s.length), p s[k] = true → (∀ i (hi : i < s.length), i < k → p s[i] = true) → F again (st k) = again (st (k + 1)))
    (stop : ∀ again k (h : k < s.length), p s[k] = false → F again (st k) = r k)
    (last : ∀ again, F again (st s.length) = r s.length) (N : Nat) (hN : s.length < N) : ao F N (st 0) = r (s.takeWhile p).length := by
  have key : ∀ N k, k ≤ s.length → s.length - k < N → (∀ i (h : i < s.length), i < k → p s[i] = true) → ao F N (st k) = r (s.takeWhile p).length := by
    intro N
    induction N with
    | zero => intro k _ h; omega
    | succ N ih =>
      intro k hk hN hp
      rw [an]
      by_cases hlt : k < s.length
      · cases hpk : p s[k]
        · rw [stop _ k hlt hpk, pX s k hp hk (fun _ => hpk), List.length_take, Nat.min_eq_left hk]
        · rw [go _ k hlt hpk hp]
          exact ih (k + 1) (by omega) (by omega) (fun i h hi => by
            rcases Nat.lt_or_ge i k with h' | h'
            · exact hp i h h'
            · have : i = k := by omega
              subst this; exact hpk)
      · have : k = s.length := by omega
        subst this
        rw [last, pX s s.length hp (Nat.le_refl _) (fun h => absurd h hlt), List.length_take, Nat.min_self]
  exact key N 0 (Nat.zero_le _) (by omega) (fun i _ h => by omega)
noncomputable def kindOf (c : UInt8) : Int := if dY c then 0 else if cS c then 1 else if isDigit c then 2 else 3
theorem Df (c : UInt8) : dY c = (((c == 9 || c == 10) || c == 13) || c == 32) := by
  unfold dY
  cases (c == 32) <;> cases (c == 9) <;> cases (c == 10) <;> cases (c == 13) <;> rfl
theorem rJ (c : UInt8) : dh (c.toNat : Int) = some (kindOf c) := by
  unfold dh
  simp only [gF]
  have h1 := qM c 32; have h2 := qM c 9; have h3 := qM c 10; have h4 := qM c 13
  have k1 := yu 97 c; have k2 := yu c 122; have k3 := yu 65 c; have k4 := yu c 90; have k5 := qM c 95
  have d1 := yu 48 c; have d2 := yu c 57
  rw [show ((32 : Int) = ((32 : UInt8).toNat : Int)) from rfl, show ((9 : Int) = ((9 : UInt8).toNat : Int)) from rfl, show ((10 : Int) = ((10 : UInt8).toNat : Int)) from rfl, show ((13 : Int) = ((13 : UInt8).toNat : Int)) from rfl, h1, h2, h3, h4, ← Df]
  rw [show ((97 : Int) = ((97 : UInt8).toNat : Int)) from rfl, show ((122 : Int) = ((122 : UInt8).toNat : Int)) from rfl, show ((65 : Int) = ((65 : UInt8).toNat : Int)) from rfl, show ((90 : Int) = ((90 : UInt8).toNat : Int)) from rfl, show ((95 : Int) = ((95 : UInt8).toNat : Int)) from rfl, k1, k2, k3, k4, k5]
  rw [show ((48 : Int) = ((48 : UInt8).toNat : Int)) from rfl, show ((57 : Int) = ((57 : UInt8).toNat : Int)) from rfl, d1, d2]
  unfold kindOf
  have e1 : ((decide (97 ≤ c) && decide (c ≤ 122)) || (decide (65 ≤ c) && decide (c ≤ 90)) || c == 95) = cS c := rfl
  have e2 : (decide (48 ≤ c) && decide (c ≤ 57)) = isDigit c := rfl
  rw [e1, e2]
  cases dY c <;> cases cS c <;> cases isDigit c <;> rfl
noncomputable def bB (n : Int) (s : Str) : Int := s.foldl (fun n c => if n ≤ 1073741824 then 10 * n + dig c else n) n
theorem CB : ∀ (s : Str) (n : Int), 1073741824 < n → bB n s = n
  | [], _, _ => rfl
  | c :: s, n, h => by
    show bB (if n ≤ 1073741824 then 10 * n + dig c else n) s = n
    rw [if_neg (by omega)]; exact CB s n h
theorem Ef : ∀ (s : Str) (n : Int), 0 ≤ n → s.all isDigit = true → (big (dw n s) = false → bB n s = dw n s) ∧ (big (dw n s) = true → 1073741824 < bB n s)
  | [], n, _, _ => ⟨fun _ => rfl, fun h => of_decide_eq_true (show decide (1073741824 < n) = true from h)⟩
  | c :: s, n, hn, h => by
    simp only [List.all_cons, Bool.and_eq_true] at h
    have hd := xD h.1
    have ih := Ef s (10 * n + dig c) (by omega) h.2
    have e1 : dw n (c :: s) = dw (10 * n + dig c) s := rfl
    have e2 : bB n (c :: s) = bB (if n ≤ 1073741824 then 10 * n + dig c else n) s := rfl
    rw [e1, e2]
    by_cases hb : n ≤ 1073741824
    · rw [if_pos hb]; exact ih
    · rw [if_neg hb]
      have hm := pT s (10 * n + dig c) (by omega) h.2
      constructor
      · intro hf; simp [big] at hf; omega
      · intro _; rw [CB s n (by omega)]; omega
theorem uA : ∀ (s : Str) (n : Int), 0 ≤ n → n ≤ 10737418249 → s.all isDigit = true → 0 ≤ bB n s ∧ bB n s ≤ 10737418249
  | [], n, h, h', _ => ⟨h, h'⟩
  | c :: s, n, h, h', hd => by
    simp only [List.all_cons, Bool.and_eq_true] at hd
    have hdl := xD hd.1
    show 0 ≤ bB (if n ≤ 1073741824 then 10 * n + dig c else n) s ∧ bB (if n ≤ 1073741824 then 10 * n + dig c else n) s ≤ 10737418249
    split
    · exact uA s _ (by omega) (by omega) hd.2
    · exact uA s _ h h' hd.2
theorem Jp (s : Str) (k : Nat) (h : k < s.length) : bB 0 (s.take (k + 1)) = if bB 0 (s.take k) ≤ 1073741824 then 10 * bB 0 (s.take k) + dig s[k] else bB 0 (s.take k) := by
  have e : bB 0 (s.take (k + 1)) = bB (bB 0 (s.take k)) [s[k]] := by
    rw [List.take_succ_eq_append_getElem h]; unfold bB; rw [List.foldl_append]
  rw [e]; rfl
theorem rE (p : UInt8 → Bool) (s : Str) : s.take (s.takeWhile p).length = s.takeWhile p :=
  (List.prefix_iff_eq_take.1 (List.takeWhile_prefix p)).symm
section
variable {text s : Str} {at_ : Nat} (hd : text.drop at_ = s) (hat : at_ ≤ text.length)
include hd hat
theorem uL : text.length = at_ + s.length := by
  rw [← hd]; simp; omega
theorem py (k : Nat) (h : k < s.length) : iw text ((at_ + k : Nat) : Int) = (s[k].toNat : Int) := by
  have hl := uL hd hat
  rw [xO text (at_ + k) (by omega)]
  congr 2
  subst hd
  rw [List.getElem_drop]
omit hat in
theorem AS (k : Nat) : cut text (at_ : Int) ((at_ + k : Nat) : Int) = s.take k := by
  rw [Lp, hd]; congr 1; omega
theorem N7 (hl : text.length ≤ 65536) (out : List Tok) (again7) :
    ao (dC text out again7) au (at_ : Int) = again7 (out, ((at_ + (s.takeWhile nS).length : Nat) : Int)) := by
  have hlen := uL hd hat
  have h0 : (at_ : Int) = ((at_ + 0 : Nat) : Int) := rfl
  rw [h0]
  refine uf nS s (fun k => ((at_ + k : Nat) : Int)) (fun k => again7 (out, ((at_ + k : Nat) : Int))) ?_ ?_ ?_ au (by rw [pD]; omega)
  · intro again k h hp _
    unfold dC
    simp only [gF]
    rw [kA (by omega), lB (by omega) (by omega), py hd hat k h, kb]
    have : ((s[k].toNat : Int) != 10) = nS s[k] := by
      have := qM s[k] 10
      unfold nS bne
      rw [show ((10 : Int) = ((10 : UInt8).toNat : Int)) from rfl, this]
    rw [this, hp, Bool.and_self, cond_true, w64 (by omega)]
    rfl
  · intro again k h hp
    unfold dC
    simp only [gF]
    rw [kA (by omega), lB (by omega) (by omega), py hd hat k h, kb]
    have : ((s[k].toNat : Int) != 10) = nS s[k] := by
      have := qM s[k] 10
      unfold nS bne
      rw [show ((10 : Int) = ((10 : UInt8).toNat : Int)) from rfl, this]
    rw [this, hp, Bool.and_false, cond_false]
  · intro again
    unfold dC
    simp only [gF]
    rw [nP (by omega), oZ, Bool.false_and, cond_false]
end
theorem vI (c : UInt8) : ((kindOf c == 1) || (kindOf c == 2)) = bY c := by
  cases hb : dY c
  · unfold kindOf bY
    rw [hb]
    cases cS c <;> cases isDigit c <;> rfl
  · have : bY c = false := by
      simp only [dY, Bool.or_eq_true, beq_iff_eq] at hb
      rcases hb with ((rfl | rfl) | rfl) | rfl <;> decide
    unfold kindOf
    rw [if_pos hb, this]; rfl
theorem N9 {text s : Str} {at_ : Nat} (hd : text.drop at_ = s) (hat : at_ ≤ text.length) (hl : text.length ≤ 65536) (out : List Tok) (again7) (hout : out.length ≤ 65536) :
    ao (cr text out (at_ : Int) again7) au (at_ : Int) = if 32 < (s.takeWhile bY).length then some ([], 9, (at_ : Int)) else again7 (out ++ [(1, s.takeWhile bY, 0, (at_ : Int))], ((at_ + (s.takeWhile bY).length : Nat) : Int)) := by
  have hlen := uL hd hat
  have e0 : (if 32 < (s.takeWhile bY).length then some ([], 9, (at_ : Int)) else again7 (out ++ [(1, s.takeWhile bY, 0, (at_ : Int))], ((at_ + (s.takeWhile bY).length : Nat) : Int)))
     = (fun k => if 32 < k then some ([], 9, (at_ : Int)) else again7 (out ++ [(1, s.take k, 0, (at_ : Int))], ((at_ + k : Nat) : Int))) (s.takeWhile bY).length := by
    simp only [rE]
  rw [e0]
  have tail : ∀ k, k ≤ s.length → (bif (decide (32 < (IntKind.i64.wrap (((at_ + k : Nat) : Int) - (at_ : Int))))) then ( some ([], 9, (at_ : Int))) else ( chk (kJ (at_ : Int) ((at_ + k : Nat) : Int) (List.length text)) <| chk (aw (List.length out + List.length ([(1, (cut text (at_ : Int) ((at_ + k : Nat) : Int)), 0, (at_ : Int))] : List (Int × Str × Int × Int))) 40) <| again7 ((out ++ ([(1, (cut text (at_ : Int) ((at_ + k : Nat) : Int)), 0, (at_ : Int))] : List (Int × Str × Int × Int))), ((at_ + k : Nat) : Int)))) = (if 32 < k then some ([], 9, (at_ : Int)) else again7 (out ++ [(1, s.take k, 0, (at_ : Int))], ((at_ + k : Nat) : Int))) := by
    intro k hk
    rw [w64 (by omega)]
    by_cases h32 : 32 < k
    · rw [kA (by omega), cond_true, if_pos h32]
    · rw [nP (by omega), cond_false, if_neg h32, uH (by omega) (by omega) (by omega), kf, oM (by simp; omega) (by simp; omega), kf, AS hd]
  refine uf (F := cr text out (at_ : Int) again7) bY s (fun k => ((at_ + k : Nat) : Int)) (fun k => if 32 < k then some ([], 9, (at_ : Int)) else again7 (out ++ [(1, s.take k, 0, (at_ : Int))], ((at_ + k : Nat) : Int))) ?_ ?_ ?_ au (by rw [pD]; omega)
  · intro again k h hp _
    unfold cr
    simp only [gF]
    have ke := vI s[k]
    rw [hp] at ke
    rw [kA (by omega), lB (by omega) (by omega), py hd hat k h]
    simp only [kb, rJ, jJ, gi, Bool.true_and]
    cases hk1 : (kindOf s[k] == 1)
    · rw [hk1] at ke
      simp only [Bool.not_false, jJ, gi, Bool.false_or] at ke ⊢
      rw [ke, cond_true, w64 (by omega)]; rfl
    · simp only [Bool.not_true, mZ, Bool.true_or, cond_true]
      rw [w64 (by omega)]; rfl
  · intro again k h hp
    unfold cr
    simp only [gF]
    have ke := vI s[k]
    rw [hp] at ke
    simp only [Bool.or_eq_false_iff] at ke
    rw [kA (by omega), lB (by omega) (by omega), py hd hat k h]
    simp only [kb, rJ, jJ, gi, Bool.true_and, ke.1, ke.2, Bool.not_false, Bool.or_self, cond_false]
    exact tail k (by omega)
  · intro again
    unfold cr
    simp only [gF]
    rw [nP (by omega)]
    simp only [oZ, mZ, Bool.false_and, cond_false]
    exact tail s.length (Nat.le_refl _)
theorem Fb (c : UInt8) (h : cS c = false) : (kindOf c == 2) = isDigit c := by
  unfold kindOf
  rw [h]
  cases hb : dY c
  · cases isDigit c <;> rfl
  · have : isDigit c = false := by
      simp only [dY, Bool.or_eq_true, beq_iff_eq] at hb
      rcases hb with ((rfl | rfl) | rfl) | rfl <;> decide
    rw [this]; rfl
theorem BB {c : UInt8} (h : cS c = true) : isDigit c = false := by
  simp only [cS, Bool.or_eq_true, Bool.and_eq_true, decide_eq_true_eq, beq_iff_eq, UInt8.le_iff_toNat_le] at h
  cases hd : isDigit c
  · rfl
  · simp only [isDigit, Bool.and_eq_true, decide_eq_true_eq, UInt8.le_iff_toNat_le] at hd
    have h1 : (48 : UInt8).toNat = 48 := rfl
    have h2 : (57 : UInt8).toNat = 57 := rfl
    have h3 : (97 : UInt8).toNat = 97 := rfl
    have h4 : (65 : UInt8).toNat = 65 := rfl
    rcases h with (h | h) | h
    · omega
    · omega
    · subst h; have : (95 : UInt8).toNat = 95 := rfl; omega
theorem ss (c : UInt8) : (kindOf c == 2) = isDigit c := by
  cases hl : cS c
  · exact Fb c hl
  · unfold kindOf
    rw [BB hl, hl]
    cases dY c <;> rfl
theorem Oo {text s : Str} {at_ : Nat} (hd : text.drop at_ = s) (hat : at_ ≤ text.length) (hl : text.length ≤ 65536) (out : List Tok) (again7) (hout : out.length ≤ 65536) :
    ao (ct text out (at_ : Int) again7) au ((at_ : Int), 0) = if big (dw 0 (s.takeWhile isDigit)) then some ([], 9, (at_ : Int)) else again7 (out ++ [(2, s.takeWhile isDigit, dw 0 (s.takeWhile isDigit), (at_ : Int))], ((at_ + (s.takeWhile isDigit).length : Nat) : Int)) := by
  have hlen := uL hd hat
  have hsat := Ef (s.takeWhile isDigit) 0 (Int.le_refl _) (jB _ _)
  have e0 : (if big (dw 0 (s.takeWhile isDigit)) then some ([], 9, (at_ : Int)) else again7 (out ++ [(2, s.takeWhile isDigit, dw 0 (s.takeWhile isDigit), (at_ : Int))], ((at_ + (s.takeWhile isDigit).length : Nat) : Int)))
     = (fun k => if 1073741824 < bB 0 (s.take k) then some ([], 9, (at_ : Int)) else again7 (out ++ [(2, s.take k, bB 0 (s.take k), (at_ : Int))], ((at_ + k : Nat) : Int))) (s.takeWhile isDigit).length := by
    simp only [rE]
    cases hb : big (dw 0 (s.takeWhile isDigit))
    · have h1 := hsat.1 hb
      rw [h1]
      have : ¬ 1073741824 < dw 0 (s.takeWhile isDigit) := by simpa [big] using hb
      rw [if_neg this]; rfl
    · rw [if_pos (hsat.2 hb)]; rfl
  rw [e0]
  have tail : ∀ k, k ≤ s.length → (bif (decide (1073741824 < bB 0 (s.take k))) then ( some ([], 9, (at_ : Int))) else ( chk (kJ (at_ : Int) ((at_ + k : Nat) : Int) (List.length text)) <| chk (aw (List.length out + List.length ([(2, (cut text (at_ : Int) ((at_ + k : Nat) : Int)), bB 0 (s.take k), (at_ : Int))] : List (Int × Str × Int × Int))) 40) <| again7 ((out ++ ([(2, (cut text (at_ : Int) ((at_ + k : Nat) : Int)), bB 0 (s.take k), (at_ : Int))] : List (Int × Str × Int × Int))), ((at_ + k : Nat) : Int)))) = (if 1073741824 < bB 0 (s.take k) then some ([], 9, (at_ : Int)) else again7 (out ++ [(2, s.take k, bB 0 (s.take k), (at_ : Int))], ((at_ + k : Nat) : Int))) := by
    intro k hk
    by_cases h32 : 1073741824 < bB 0 (s.take k)
    · rw [kA (by omega), cond_true, if_pos h32]
    · rw [nP (by omega), cond_false, if_neg h32, uH (by omega) (by omega) (by omega), kf, oM (by simp; omega) (by simp; omega), kf, AS hd]
  refine uf (F := ct text out (at_ : Int) again7) isDigit s (fun k => (((at_ + k : Nat) : Int), bB 0 (s.take k))) (fun k => if 1073741824 < bB 0 (s.take k) then some ([], 9, (at_ : Int)) else again7 (out ++ [(2, s.take k, bB 0 (s.take k), (at_ : Int))], ((at_ + k : Nat) : Int))) ?_ ?_ ?_ au (by rw [pD]; omega)
  · intro again k h hp hall
    unfold ct
    simp only [gF]
    have ke := ss s[k]
    rw [hp] at ke
    have hdl := xD hp
    have hb := uA (s.take k) 0 (Int.le_refl _) (by omega) (by
      rw [List.all_eq_true]; intro c hc
      obtain ⟨i, hi, rfl⟩ := List.mem_iff_getElem.1 hc
      rw [List.getElem_take]
      exact hall i (by simp at hi; omega) (by simp at hi; omega))
    rw [kA (by omega), lB (by omega) (by omega), py hd hat k h]
    simp only [kb, rJ, jJ, gi, Bool.true_and, ke, cond_true]
    rw [Jp s k h, w64 (x := ((at_ + k : Nat) : Int) + 1) (by omega)]
    unfold dig at hdl ⊢
    by_cases hs : bB 0 (s.take k) ≤ 1073741824
    · rw [kA hs, cond_true, kf, if_pos hs, w64 (x := 10 * _) (by omega), w64 (x := (s[k].toNat : Int)) (by omega), w64 (x := 10 * _ + _) (by omega), w64 (by omega)]
      congr 2
      omega
    · rw [nP hs, cond_false, if_neg hs]; rfl
  · intro again k h hp
    unfold ct
    simp only [gF]
    have ke := ss s[k]
    rw [hp] at ke
    rw [kA (by omega), lB (by omega) (by omega), py hd hat k h]
    simp only [kb, rJ, jJ, gi, Bool.true_and, ke, cond_false]
    exact tail k (by omega)
  · intro again
    unfold ct
    simp only [gF]
    rw [nP (by omega)]
    simp only [oZ, mZ, Bool.false_and, cond_false]
    exact tail s.length (Nat.le_refl _)
theorem CS : jN = some bE := rfl
theorem NS {text : Str} {out : List Tok} {i5 : Int} {again7} {again122} {g : Str} {j : Int} (hg : (g == []) = false)
    (hr : out.length ≤ 65536) (hi : 0 ≤ i5 ∧ i5 ≤ 65536) (hgl : g.length ≤ 65536) :
    aQ text out i5 again7 bE again122 (g, j) = again7 (out ++ [(3, g, 0, i5)], i5 + g.length) := by
  unfold aQ
  simp only [gF, hg, Bool.and_false, cond_false]
  rw [oM (by simp; omega) (by simp; omega), kf, w64 (by omega)]
theorem Oj {text s : Str} {at_ : Nat} (hd : text.drop at_ = s) (hat : at_ ≤ text.length) (hl : text.length ≤ 65536) (out : List Tok) (again7) (hout : out.length ≤ 65536) :
    ao (aQ text out (at_ : Int) again7 bE) au ([], 0) = if cF s == [] then some ([], 2, (at_ : Int)) else again7 (out ++ [(3, cF s, 0, (at_ : Int))], ((at_ + (cF s).length : Nat) : Int)) := by
  have hlen := uL hd hat
  have hs22 : bE.length = 22 := rfl
  have key : ∀ N k, k ≤ bE.length → bE.length - k + 1 < N → (∀ i (h : i < bE.length), i < k → bE[i].isPrefixOf s = false) →
      ao (aQ text out (at_ : Int) again7 bE) N ([], ((k : Nat) : Int)) = if cF s == [] then some ([], 2, (at_ : Int)) else again7 (out ++ [(3, cF s, 0, (at_ : Int))], ((at_ + (cF s).length : Nat) : Int)) := by
    intro N
    induction N with
    | zero => intro k _ h; omega
    | succ N ih =>
      intro k hk hN hp
      rw [an]
      by_cases hlt : k < bE.length
      · have hgmem : bE[k] ∈ bE := List.getElem_mem hlt
        have hgl : ∀ g ∈ bE, g.length ≤ 3 ∧ (g == []) = false := by decide
        have hg3 := hgl _ hgmem
        have body : aQ text out (at_ : Int) again7 bE (ao (aQ text out (at_ : Int) again7 bE) N) ([], ((k : Nat) : Int)) = ao (aQ text out (at_ : Int) again7 bE) N ((if bE[k].isPrefixOf s then bE[k] else []), ((k + 1 : Nat) : Int)) := by
          generalize ao (aQ text out (at_ : Int) again7 bE) N = again
          unfold aQ
          simp only [gF]
          rw [kA (by omega)]
          simp only [show (([] : Str) == []) = true from rfl, Bool.and_self, cond_true]
          rw [M7 hlt]
          simp only [gi]
          rw [w64 (x := (text.length : Int) - (at_ : Int)) (by omega), w64 (x := ((k : Nat) : Int) + 1) (by omega)]
          by_cases hle : bE[k].length ≤ s.length
          · rw [kA (by omega)]
            simp only [jJ, gi, Bool.true_and]
            rw [w64 (by omega), uH (by omega) (by omega) (by omega), kb]
            have e2 : (at_ : Int) + (bE[k].length : Int) = ((at_ + bE[k].length : Nat) : Int) := by omega
            rw [e2, AS hd]
            have e3 : (s.take bE[k].length == bE[k]) = bE[k].isPrefixOf s := by
              rw [Bool.eq_iff_iff, List.isPrefixOf_iff_prefix, beq_iff_eq]
              constructor
              · intro h; rw [← h]; exact List.take_prefix ..
              · intro h; exact (List.prefix_iff_eq_take.1 h).symm
            rw [e3]
            cases bE[k].isPrefixOf s
            · rfl
            · rfl
          · rw [nP (by omega)]
            simp only [mZ, oZ, Bool.false_and, cond_false]
            have : bE[k].isPrefixOf s = false := by
              rw [Bool.eq_false_iff, Ne, List.isPrefixOf_iff_prefix]
              intro h; exact hle h.length_le
            rw [this]; rfl
        rw [body]
        cases hpk : bE[k].isPrefixOf s
        · exact ih (k + 1) (by omega) (by omega) (fun i h hi => by
            rcases Nat.lt_or_ge i k with h' | h'
            · exact hp i h h'
            · have : i = k := by omega
              subst this; exact hpk)
        · have hsg : cF s = bE[k] := by
            unfold cF
            have : bE.find? (fun g => g.isPrefixOf s) = some bE[k] := by
              rw [List.find?_eq_some_iff_getElem]
              exact ⟨hpk, k, hlt, rfl, fun j hj => by simp [hp j (by omega) hj]⟩
            rw [this]; rfl
          rw [hsg]
          obtain ⟨N, rfl⟩ : ∃ m, N = m + 1 := ⟨N - 1, by omega⟩
          rw [an]
          simp only [if_true, hg3.2, Bool.false_eq_true, if_false]
          rw [NS hg3.2 hout (by omega) (by omega)]
          rfl
      · have : cF s = [] := by
          unfold cF
          have : bE.find? (fun g => g.isPrefixOf s) = none := by
            rw [List.find?_eq_none]
            intro g hg
            obtain ⟨i, hi, rfl⟩ := List.mem_iff_getElem.1 hg
            simp [hp i hi (by omega)]
          rw [this]; rfl
        rw [this]
        generalize ao (aQ text out (at_ : Int) again7 bE) N = again
        unfold aQ
        simp only [gF]
        rw [nP (by omega)]
        rfl
  exact key au 0 (by omega) (by rw [pD]; omega) (fun i _ h => by omega)
theorem Ii (text : Str) (hlen : text.length ≤ 65536) : ∀ (N f at_ : Nat) (out : List Tok), at_ ≤ text.length → text.length - at_ < N → text.length - at_ < f → out.length ≤ at_ →
    ao (eX text) N (out, (at_ : Int)) = some (tZ out (gX f at_ (text.drop at_))) := by
  intro N
  induction N with
  | zero => intro f at_ out _ h; omega
  | succ N ih =>
    intro f at_ out hat hN hf hout
    obtain ⟨f, rfl⟩ : ∃ g, f = g + 1 := ⟨f - 1, by omega⟩
    rw [an]
    generalize ao (eX text) N = again at ih ⊢
    unfold eX
    dsimp only
    cases hd : text.drop at_ with
    | nil =>
      have hge' : at_ = text.length := by
        have := congrArg List.length hd
        simp at this; omega
      subst hge'
      rw [nP (by omega)]
      simp only [cond_false]
      rw [oM (by simp; omega) (by simp; omega), kf]
      rfl
    | cons c r =>
      obtain ⟨hlt, hget⟩ := Aj hd
      have hdl : (c :: r).length = text.length - at_ := by rw [← hd]; simp
      have hbyte : iw text (at_ : Int) = (c.toNat : Int) := by rw [xO _ _ hlt, hget]
      have next : ∀ (k : Nat) (out' : List Tok), 1 ≤ k → k ≤ (c :: r).length → out'.length ≤ at_ + k →
          again (out', ((at_ + k : Nat) : Int)) = some (tZ out' (gX f (at_ + k) ((c :: r).drop k))) := by
        intro k out' h1 h2 h3
        rw [ih f (at_ + k) out' (by omega) (by omega) (by omega) h3]
        have e2 : text.drop (at_ + k) = (c :: r).drop k := by rw [← hd, List.drop_drop]
        rw [e2]
      rw [kA (by omega)]
      simp only [cond_true, lB (show (0 : Int) ≤ (at_ : Int) by omega) (show (at_ : Int) < (text.length : Int) by omega), kf, hbyte, rJ, gi]
      have h35 : ((c.toNat : Int) == 35) = (c == 35) := by
        rw [show ((35 : Int) = ((35 : UInt8).toNat : Int)) from rfl]; exact qM c 35
      rw [h35]
      cases hb : dY c
      · have hk0 : (kindOf c == 0) = false := by
          unfold kindOf; rw [hb]; cases cS c <;> cases isDigit c <;> rfl
        simp only [hk0, cond_false]
        cases hc : (c == 35)
        · simp only [cond_false]
          simp only [gX, step, hb, hc, Bool.false_eq_true, if_false]
          cases hlet : cS c
          · have hk1 : (kindOf c == 1) = false := by
              unfold kindOf; rw [hb, hlet]; cases isDigit c <;> rfl
            simp only [hk1, cond_false, Bool.false_eq_true, if_false]
            rw [ss]
            cases hdig : isDigit c
            · simp only [cond_false, Bool.false_eq_true, if_false]
              rw [CS, gi, Oj hd hat hlen out again (by omega)]
              cases hsg : (cF (c :: r) == [])
              · simp only [Bool.false_eq_true, if_false]
                obtain ⟨h1, h2, _⟩ := oO hsg
                have h3 := zT _ h1
                have h4 := h2.length_le
                rw [next _ _ h3 h4 (by simp; omega)]
                cases gX f (at_ + (cF (c :: r)).length) ((c :: r).drop (cF (c :: r)).length) <;> simp [tZ]
              · simp only [if_true]; rfl
            · simp only [cond_true, if_true]
              rw [Oo hd hat hlen out again (by omega)]
              cases hbig : big (dw 0 ((c :: r).takeWhile isDigit))
              · simp only [Bool.false_eq_true, if_false]
                have h3 := hU (s := r) hdig
                have h4 := ll isDigit (c :: r)
                rw [next _ _ h3 h4 (by simp; omega)]
                cases gX f (at_ + ((c :: r).takeWhile isDigit).length) ((c :: r).drop ((c :: r).takeWhile isDigit).length) <;> simp [tZ]
              · simp only [if_true]; rfl
          · have hk1 : (kindOf c == 1) = true := by
              unfold kindOf; rw [hb, hlet]; rfl
            simp only [hk1, cond_true, if_true]
            rw [N9 hd hat hlen out again (by omega)]
            by_cases h32 : 32 < ((c :: r).takeWhile bY).length
            · rw [if_pos h32, if_pos h32]; rfl
            · rw [if_neg h32, if_neg h32]
              have h3 := hU (s := r) (lp hlet)
              have h4 := ll bY (c :: r)
              rw [next _ _ h3 h4 (by simp; omega)]
              simp only []
              cases gX f (at_ + ((c :: r).takeWhile bY).length) ((c :: r).drop ((c :: r).takeWhile bY).length) <;> simp [tZ]
        · simp only [cond_true]
          rw [N7 hd hat hlen out again]
          have hpos : 1 ≤ ((c :: r).takeWhile nS).length := hU (by
            have : c = 35 := by simpa using hc
            subst this; decide)
          have hle := ll nS (c :: r)
          rw [next _ _ hpos hle (by omega)]
          have hst : step (c :: r) = .skip ((c :: r).takeWhile nS).length := by simp [step, hb, hc]
          simp only [gX, hst]
      · have hk0 : (kindOf c == 0) = true := by unfold kindOf; rw [hb]; rfl
        simp only [hk0, cond_true]
        rw [w64 (by omega)]
        have e1 : ((at_ : Int) + 1) = ((at_ + 1 : Nat) : Int) := by omega
        rw [e1, next 1 out (by omega) (by omega) (by omega)]
        have hst : step (c :: r) = .skip 1 := by simp [step, hb]
        simp only [gX, hst]
theorem tR (text : Str) : dp text = some (tokens text) := by
  unfold dp tokens
  by_cases h : 65536 < text.length
  · rw [kA (by omega), cond_true, if_pos h]
  · rw [nP (by omega), cond_false, if_neg h]
    have := Ii text (by omega) au (text.length + 1) 0 [] (by omega) (by rw [pD]; omega) (by omega) (by simp)
    simp only [List.drop_zero] at this
    have h0 : ((0 : Nat) : Int) = 0 := rfl
    rw [h0] at this
    rw [this]
    cases gX (text.length + 1) 0 text <;> rfl
abbrev Res := Except (Int × Int) (List Tok)
theorem step_skip {c : UInt8} {s : Str} {k : Nat} (h : step (c :: s) = .skip k) : 1 ≤ k ∧ k ≤ (c :: s).length := by
  cases hb : dY c
  · cases hc : (c == 35)
    · simp only [step, hb, hc, Bool.false_eq_true, if_false] at h
      repeat (split at h <;> try (cases h))
    · simp only [step, hb, hc, Bool.false_eq_true, if_false, if_true, Step.skip.injEq] at h
      subst h
      have : c = 35 := by simpa using hc
      subst this
      exact ⟨hU (by decide), ll _ _⟩
  · simp only [step, hb, if_true, Step.skip.injEq] at h
    subst h; simp
theorem te {c : UInt8} {s : Str} {k : Int} {t : Str} {n : Int} (h : step (c :: s) = .tok k t n) : dY c = false ∧ (c == 35) = false ∧ 1 ≤ t.length ∧ t <+: (c :: s) := by
  cases hb : dY c
  · cases hc : (c == 35)
    · obtain ⟨h1, h2⟩ := step_take hb hc h; exact ⟨rfl, rfl, h1, h2⟩
    · simp only [step, hb, hc, Bool.false_eq_true, if_false, if_true] at h; cases h
  · simp only [step, hb, if_true] at h; cases h
noncomputable def lex (s : Str) : Res := gX (s.length + 1) 0 s
theorem E7 {s : Str} (h : s.length ≤ 65536) : tokens s = res (lex s) := by
  unfold tokens lex; rw [if_neg (by omega)]
theorem lex_ind {P : Str → Prop} (h0 : P [])
    (hs : ∀ c s k, step (c :: s) = .skip k → P ((c :: s).drop k) → P (c :: s))
    (he : ∀ c s e, step (c :: s) = .err e → P (c :: s))
    (ht : ∀ c s k t n, step (c :: s) = .tok k t n → P ((c :: s).drop t.length) → P (c :: s)) : ∀ s, P s := by
  have key : ∀ (m : Nat) (s : Str), s.length < m → P s := by
    intro m
    induction m with
    | zero => intro s h; omega
    | succ m ih =>
      intro s h
      cases s with
      | nil => exact h0
      | cons c s =>
        cases hst : step (c :: s) with
        | skip k =>
          obtain ⟨h1, h2⟩ := step_skip hst
          exact hs c s k hst (ih _ (by simp at *; omega))
        | err e => exact he c s e hst
        | tok k t n =>
          obtain ⟨_, _, h1, h2⟩ := te hst
          exact ht c s k t n hst (ih _ (by simp at *; omega))
  exact fun s => key _ s (Nat.lt_succ_self _)
/-! what stands behind -/
theorem nq {p : UInt8 → Bool} : ∀ {t : Str}, t.all p = true → t.takeWhile p = t
  | [], _ => rfl
  | c :: t, h => by
    simp only [List.all_cons, Bool.and_eq_true] at h
    rw [List.takeWhile_cons, if_pos h.1, nq h.2]
theorem xS : ∀ g ∈ bE, cF g = g ∧ ∃ c s, g = c :: s ∧ dY c = false ∧ (c == 35) = false ∧ cS c = false ∧ isDigit c = false := by
  intro g hg
  have h1 : ∀ g ∈ bE, cF g = g ∧ (match g with | [] => false | c :: _ => !dY c && !(c == 35) && !cS c && !isDigit c) = true := by decide
  obtain ⟨h1, h2⟩ := h1 g hg
  refine ⟨h1, ?_⟩
  cases g with
  | nil => cases h2
  | cons c s =>
    simp only [Bool.and_eq_true, Bool.not_eq_true'] at h2
    exact ⟨c, s, rfl, h2.1.1.1, h2.1.1.2, h2.1.2, h2.2⟩
theorem step_self {c : UInt8} {s : Str} {k : Int} {t : Str} {n : Int} (h : step (c :: s) = .tok k t n) : step t = .tok k t n ∧ (∃ s', t = c :: s') ∧ (k = 1 ∨ k = 2 ∨ k = 3) ∧ (k ≠ 2 → n = 0) := by
  obtain ⟨hb, hc, ht1, ht2⟩ := te h
  have hcs : ∃ s', t = c :: s' := by
    cases t with
    | nil => simp at ht1
    | cons d t =>
      obtain ⟨u, hu⟩ := ht2
      simp only [List.cons_append, List.cons.injEq] at hu
      exact ⟨t, by rw [hu.1]⟩
  obtain ⟨s', rfl⟩ := hcs
  simp only [step, hb, hc, Bool.false_eq_true, if_false] at h ⊢
  cases hlet : cS c
  · simp only [hlet, Bool.false_eq_true, if_false] at h ⊢
    cases hdig : isDigit c
    · simp only [hdig, Bool.false_eq_true, if_false] at h ⊢
      cases hsg : (cF (c :: s) == [])
      · simp only [hsg, Bool.false_eq_true, if_false, Step.tok.injEq] at h
        obtain ⟨rfl, h2, rfl⟩ := h
        obtain ⟨hm, _, _⟩ := oO hsg
        rw [h2] at hm
        rw [(xS _ hm).1]
        exact ⟨rfl, ⟨s', rfl⟩, .inr (.inr rfl), fun _ => rfl⟩
      · simp [hsg] at h
    · simp only [hdig, if_true] at h ⊢
      split at h
      · cases h
      · rename_i hbig
        simp only [Step.tok.injEq] at h
        obtain ⟨rfl, h2, rfl⟩ := h
        have hall := jB isDigit (c :: s)
        rw [h2] at hall hbig
        rw [nq hall, h2, if_neg hbig]
        exact ⟨rfl, ⟨s', rfl⟩, .inr (.inl rfl), fun h => absurd rfl h⟩
  · simp only [hlet, if_true] at h ⊢
    split at h
    · cases h
    · rename_i h32
      simp only [Step.tok.injEq] at h
      obtain ⟨rfl, h2, rfl⟩ := h
      have hall := jB bY (c :: s)
      rw [h2] at hall h32
      rw [nq hall, if_neg h32]
      exact ⟨rfl, ⟨s', rfl⟩, .inl rfl, fun _ => rfl⟩
/-! two texts with a line feed between them -/
end Lx
end Go.Proofs.YtkckoolfgnkpcaaDoor
namespace Go.Proofs.YtkckoolfgnkpcaaDoor
namespace Sy
open Pa
theorem Jh : ∀ (f : Nat) (m : Mdl) (ts : List Tok) (p : Mdl × List Tok), Pa.Ends ts → gu f m ts = .ok p → cu ts p.2 := by
 intro f
 induction f with
 | zero => intro _ _ _ _ h; simp [gu] at h
 | succ f ih =>
  intro m ts p he h
  simp only [gu] at h
  cases hc : isH 3 [125] ts
  ·rw [hc] at h
   simp only [cond_false] at h
   cases h1 : gW m ts with
   | error e => rw [h1] at h; cases h
   | ok q =>
    obtain ⟨m', r⟩ := q
    rw [h1] at h
    simp only at h
    have s1 : cu ts r := (yH he h1).1
    exact s1.trans (ih m' r p s1.1 h)
  ·rw [hc] at h
   cases h
   obtain ⟨h1, h2⟩ := iI he (by decide) hc
   exact ⟨h1, by show ts.tail.length < ts.length; omega⟩
abbrev R8 := Int × List Str × List (Int × Int) × List Int × List Str × List Cmd × Int × Int
abbrev RP := Mdl × Int × Int
section
variable {l : List Tok} (hl : l.length < 1000000000) (htok : ∀ t ∈ l, dP t) (hnum : ∀ t ∈ l, pj t)
variable {st : Except Err (List Tok)} {a b p : Int} (N : List Str) (S_ : List (Int × Int)) (I : List Int) (Q : List Str)
variable (hN : N.length < 1000000000) (hQ : Q.length < 1000000000)
theorem tO {C : List Cmd} (e1 e2 : Int) (again46 : R8 → Option RP) (nm : Str × Int × Int × Int) (hl : l.length < 1099511627776) (M : Nat) (h : St l st a b p) (en : Bool) (hb : ((b == 0) && !en) = false) :
  ∃ a' b' p', ao (dL (l, e1, e2) Q again46 N S_ I nm) (M + 1) (a, C, b, p, en) = again46 (a', N, S_, I, Q ++ [nm.1], C, b', p') ∧ St l (aM st (aU [125])) a' b' p' := by
 obtain ⟨a', b', p', e3, s3⟩ := px hl N S_ I (Q ++ [nm.1]) C h [125]
 rw [an]
 simp only [dL, bl, hb, cond_false, e3, ai]
 exact ⟨_, _, _, rfl, s3⟩
include hl htok hnum hN hQ in
theorem K5 (e1 e2 : Int) (again46 : R8 → Option RP) (nm : Str × Int × Int × Int) : ∀ (n : Nat) (ts : List Tok) (C : List Cmd) (a : Int) (M f : Nat), ts.length ≤ n → n + 2 ≤ M → ts.length < f → C.length + ts.length < 1099511627776 - 1 → St l (.ok ts) a 0 0 →
  ∃ a' C' b' p', ao (dL (l, e1, e2) Q again46 N S_ I nm) M (a, C, 0, 0, isH 3 [125] ts) = again46 (a', N, S_, I, Q ++ [nm.1], C', b', p') ∧
   St l (rest (gu f (N, S_, I, Q ++ [nm.1], C) ts)) a' b' p' ∧ (∀ m r, gu f (N, S_, I, Q ++ [nm.1], C) ts = .ok (m, r) → m = (N, S_, I, Q ++ [nm.1], C') ∧ C'.length + r.length < C.length + ts.length) := by
 have hQ' : (Q ++ [nm.1]).length < 1099511627776 := by simp; omega
 intro n
 induction n with
 | zero =>
  intro ts C a M f h1 _ _ _ hs
  obtain ⟨k, t, r, _, rfl, _⟩ := hs.ok
  simp at h1
 | succ n ih =>
  intro ts C a M f h1 h2 h3 h4 hs
  obtain ⟨M, rfl⟩ : ∃ m, M = m + 1 := ⟨M - 1, by omega⟩
  obtain ⟨f, rfl⟩ : ∃ m, f = m + 1 := ⟨f - 1, by omega⟩
  have hE : Pa.Ends ts := by obtain ⟨_, _, _, h, _⟩ := hs; exact h
  cases hc : isH 3 [125] ts
  · -- a command
   have hsc : gu (f + 1) (N, S_, I, Q ++ [nm.1], C) ts = (match gW (N, S_, I, Q ++ [nm.1], C) ts with | .error e => .error e | .ok (m', r) => gu f m' r) := by
    simp only [gu, hc, cond_false]
    all_goals (cases gW (N, S_, I, Q ++ [nm.1], C) ts <;> rfl)
   obtain ⟨a1, C1, b1, p1, e3, s1, v1⟩ := Nv (by omega) htok hnum N S_ I (Q ++ [nm.1]) C (by omega) (by omega) hs
   have e4 := sk N S_ I (Q ++ [nm.1]) C1 s1 3 [125]
   rw [an]
   simp only [dL, bl, beq_self_eq_true, Bool.not_false, Bool.and_self, cond_true, e3, ai, e4]
   cases hq : gW (N, S_, I, Q ++ [nm.1], C) ts with
   | error e =>
    have hX : aD (.ok ts) (gW (N, S_, I, Q ++ [nm.1], C)) = .error e := by simp only [aD, aM, hq, rest]
    rw [hX] at s1
    simp only [hX, isS]
    obtain ⟨M', rfl⟩ : ∃ m, M = m + 1 := ⟨M - 1, by omega⟩
    have hb1 : (b1 == 0) = false := by rw [s1.2.2.1]; exact s1.2.1
    obtain ⟨a2, b2, p2, e5, s2⟩ := tO N S_ I Q (C := C1) e1 e2 again46 nm (by omega) M' s1 false (by rw [hb1]; rfl)
    rw [hsc, hq]
    exact ⟨_, _, _, _, e5, s2, fun m r h => by cases h⟩
   | ok q =>
    obtain ⟨m', r⟩ := q
    have hX : aD (.ok ts) (gW (N, S_, I, Q ++ [nm.1], C)) = .ok r := by simp only [aD, aM, hq, rest]
    rw [hX] at s1
    simp only [hX, isS]
    have hm' := v1 ts m' r rfl hq
    obtain ⟨sh, g, r1, r2, sets, r3, _, _, _, _, hp, _⟩ := yH hE hq
    have hC1 : C1 = C ++ [(IntKind.i64.wrap (((Q ++ [nm.1]).length : Int) - 1), g, sets)] := by
     simp only at hp
     rw [hm'] at hp
     simp only [Prod.mk.injEq, true_and] at hp
     exact hp
    have hC1l : C1.length = C.length + 1 := by rw [hC1]; simp
    have shr : r.length < ts.length := sh.2
    have hb1 : b1 = 0 ∧ p1 = 0 := by obtain ⟨_, _, _, _, h5, h6⟩ := s1; exact ⟨h5, h6⟩
    obtain ⟨rfl, rfl⟩ := hb1
    obtain ⟨a2, C2, b2, p2, e5, s2, v2⟩ := ih r C1 a1 M f (by omega) (by omega) (by omega) (by omega) s1
    rw [hsc, hq]
    simp only
    rw [hm']
    exact ⟨_, _, _, _, e5, s2, fun m r' h => ⟨(v2 m r' h).1, by have := (v2 m r' h).2; omega⟩⟩
  ·have hsc : gu (f + 1) (N, S_, I, Q ++ [nm.1], C) ts = .ok ((N, S_, I, Q ++ [nm.1], C), ts.tail) := by simp only [gu, hc, cond_true]
   obtain ⟨a2, b2, p2, e5, s2⟩ := tO N S_ I Q (C := C) e1 e2 again46 nm (by omega) M hs true (by simp)
   rw [hsc]
   refine ⟨_, _, _, _, e5, ?_, fun m r h => by cases h; exact ⟨rfl, by have := (iI hE (by decide) hc).2; omega⟩⟩
   have : aM (.ok ts) (aU [125]) = rest (.ok ((N, S_, I, Q ++ [nm.1], C), ts.tail) : Except Err (Mdl × List Tok)) := by
    obtain ⟨t, r, rfl⟩ := hE.ne
    simp only [aM, aU, rest, List.tail_cons]
    simp only [isH] at hc
    rw [hc]; rfl
   rw [← this]; exact s2
noncomputable def Big (m : Mdl) (ts : List Tok) : Prop := m.1.length + ts.length < 1000000000 ∧ m.2.1.length + ts.length < 1000000000 ∧ m.2.2.1.length + ts.length < 1000000000 ∧ m.2.2.2.1.length + ts.length < 1000000000 ∧ m.2.2.2.2.length + ts.length < 1000000000
theorem xj {e3 e4 : Int} (e1 e2 : Int) (m : Mdl) (h : St l (.error (e3, e4)) a b p) (M : Nat) : ao (cO (l, e1, e2)) (M + 1) (a, m.1, m.2.1, m.2.2.1, m.2.2.2.1, m.2.2.2.2, b, p) = some (([], [], [], [], []), e3, e4) := by
 obtain ⟨⟨t, hx⟩, he, rfl, rfl⟩ := h
 rw [an]
 simp only at he
 have hb : (b != 0) = true := by simp only [bne, he, Bool.not_false]
 simp only [cO, bl, he, pH, Bool.false_and, cond_false, fA, aB, hx, ai, aq, hb, cond_true]
 cases ((List.length m.1 : Int) == 0) <;> rfl
include hl htok hnum in
theorem Kr (e1 e2 : Int) : ∀ (n : Nat) (ts : List Tok) (m : Mdl) (a : Int) (M f : Nat), ts.length ≤ n → n + 2 ≤ M → ts.length < f → Big m ts → St l (.ok ts) a 0 0 →
  ao (cO (l, e1, e2)) M (a, m.1, m.2.1, m.2.2.1, m.2.2.2.1, m.2.2.2.2, 0, 0) = some (wI (iT f m ts)) := by
 intro n
 induction n with
 | zero =>
  intro ts m a M f h1 _ _ _ hs
  obtain ⟨k, t, r, _, rfl, _⟩ := hs.ok
  simp at h1
 | succ n ih =>
  intro ts m a M f h1 h2 h3 hB hs
  obtain ⟨M, rfl⟩ : ∃ m, M = m + 1 := ⟨M - 1, by omega⟩
  obtain ⟨f, rfl⟩ : ∃ m, f = m + 1 := ⟨f - 1, by omega⟩
  obtain ⟨k, t, r, rfl, rfl, hd, he, _, _, hx, hm, hd1, hk⟩ := hs.ok
  obtain ⟨N, S_, I, Q, C⟩ := m
  obtain ⟨B1, B2, B3, B4, B5⟩ := hB
  simp only [List.length_cons] at B1 B2 B3 B4 B5 h1 h3
  have iv := sk N S_ I Q C hs 1 [118, 97, 114]
  have ip := sk N S_ I Q C hs 1 [112, 114, 111, 99]
  rw [an]
  generalize hag : ao (cO (l, e1, e2)) M = again
  simp only [cO, bl, beq_self_eq_true, fP, hx, ai, Bool.true_and]
  have hsi : iT (f + 1) (N, S_, I, Q, C) (t :: r) = (bif t.1 == 4 then (bif N.isEmpty then .error (2, t.2.2.2) else .ok (N, S_, I, Q, C))
   else bif isT 1 [118, 97, 114] t then (match jk (N, S_, I, Q, C) r with
    | .error e => .error e
    | .ok (m', r') => iT f m' r')
   else bif isT 1 [112, 114, 111, 99] t then (match lj (N, S_, I, Q, C) r with
    | .error e => .error e
    | .ok (m', r') => iT f m' r')
   else .error (2, t.2.2.2)) := by
   simp only [iT]
   all_goals (cases jk (N, S_, I, Q, C) r <;> cases lj (N, S_, I, Q, C) r <;> rfl)
  cases c4 : (t.1 == 4)
  case true =>
   have c4' : (t.1 != 4) = false := by simp only [bne, c4, Bool.not_true]
   rw [hsi, c4]
   simp only [c4', cond_false, cond_true]
   have hne : ((List.length N : Int) == 0) = N.isEmpty := by cases N with
    | nil => rfl
    | cons x r => simp only [List.length_cons, List.isEmpty_cons]; exact beq_eq_false_iff_ne.2 (by omega)
   rw [hne]
   cases N.isEmpty
   ·simp only [cond_false, fA, bne_self_eq_false, wI]
   ·simp only [cond_true, aB, hx, ai, jY, fA, wI]; rfl
  have c4' : (t.1 != 4) = true := by simp only [bne, c4, Bool.not_false]
  simp only [isS, isH] at iv ip
  simp only [c4', cond_true, iv, ip, ai]
  have hE1 : Pa.Ends r := he.tail (by simpa using c4)
  have hs1 : St l (.ok r) ((k + 1 : Nat) : Int) 0 0 := ⟨k + 1, rfl, hd1, hE1, rfl, rfl⟩
  have wk : IntKind.i64.wrap ((k : Int) + 1) = ((k + 1 : Nat) : Int) := bu (by omega)
  obtain ⟨M', hM'⟩ : ∃ m, M = m + 1 := ⟨M - 1, by omega⟩
  cases cv : isT 1 [118, 97, 114] t
  ·cases cp : isT 1 [112, 114, 111, 99] t
   · -- neither
    rw [hsi, c4, cv, cp]
    simp only [cond_false, Bool.not_false, Bool.and_self, cond_true, aB, hx, ai, jY, fp, show ((2 : Int) == 0) = false from rfl, fv, fq, bl]
    rw [← hag, hM']
    exact xj (e3 := 2) (e4 := t.2.2.2) e1 e2 (N, S_, I, Q, C) ⟨⟨t, hx⟩, rfl, rfl, rfl⟩ M'
   · -- a process
    rw [hsi, c4, cv, cp]
    simp only [cond_false, Bool.not_true, Bool.not_false, Bool.and_false, cond_true, fp, beq_self_eq_true, fv, fq, wk, bl]
    obtain ⟨nm, a1, b1, p1, e3, s1, v1⟩ := Dz (by omega) N S_ I Q C hs1 (by omega) (by omega) false
    have k1 : aw (List.length Q + List.length ([nm] : List Str)) 16 = true := bO (by simp; omega) (by simp; omega)
    obtain ⟨a2, b2, p2, e4, s2⟩ := px (by omega) N S_ I (Q ++ [nm]) C s1 [123]
    have e5 := sk N S_ I (Q ++ [nm]) C s2 3 [125]
    simp only [e3, ai, cb k1, e4, e5]
    cases hq : aM (aD (.ok r) (cT false N Q)) (aU [123]) with
    | error e =>
     rw [hq] at s2
     have hb1 : (b2 == 0) = false := by rw [s2.2.2.1]; exact s2.2.1
     obtain ⟨a3, b3, p3, e6, s3⟩ := tO N S_ I Q (C := C) e1 e2 again (nm, a1, b1, p1) (by omega) 18446744073709551615 s2 false (by rw [hb1]; rfl)
     simp only [isS]
     rw [show au = 18446744073709551615 + 1 from rfl, e6]
     have hp : lj (N, S_, I, Q, C) r = .error e := by
      simp only [lj]
      simp only [aD, aM] at hq
      cases q1 : cT false N Q r with
      | error e' => rw [q1] at hq; simp only [rest] at hq ⊢; cases hq; rfl
      | ok q =>
       rw [q1] at hq; simp only [rest] at hq ⊢
       rw [hq]
     rw [hp]
     simp only [aM] at s3
     obtain ⟨ee1, ee2⟩ := e
     rw [← hag, hM']
     exact xj e1 e2 (N, S_, I, Q ++ [nm], C) s3 M'
    | ok r2 =>
     rw [hq] at s2
     obtain ⟨r1, hr1, hr2⟩ : ∃ r1, cT false N Q r = .ok (nm, r1) ∧ aU [123] r1 = .ok r2 := by
      simp only [aD, aM] at hq
      cases q1 : cT false N Q r with
      | error e' => rw [q1] at hq; cases hq
      | ok q =>
       obtain ⟨nm', r1⟩ := q
       rw [q1] at hq; simp only [rest] at hq
       have := v1 r nm' r1 rfl q1
       subst this
       exact ⟨r1, rfl, hq⟩
     have hb : b2 = 0 ∧ p2 = 0 := by obtain ⟨_, _, _, _, h5, h6⟩ := s2; exact ⟨h5, h6⟩
     obtain ⟨rfl, rfl⟩ := hb
     have sh1 := (xg hE1 hr1).1
     have sh2 := gM sh1.1 hr2
     have l1 : r1.length < r.length := sh1.2
     have l2 : r2.length < r1.length := sh2.2
     have hp : lj (N, S_, I, Q, C) r = gu (r2.length + 1) (N, S_, I, Q ++ [nm], C) r2 := by simp only [lj, hr1, hr2]
     have hle : r2.length ≤ l.length := by obtain ⟨k2, _, h, _⟩ := s2; rw [← h]; simp
     obtain ⟨a3, C3, b3, p3, e6, s3, v3⟩ := K5 hl htok hnum N S_ I Q (by omega) (by omega) e1 e2 again (nm, a1, b1, p1) r2.length r2 C a2 au (r2.length + 1) (Nat.le_refl _) (by show _ ≤ 2 ^ 64; omega) (by omega) (by omega) s2
     simp only [isS]
     rw [e6, hp]
     cases hcm : gu (r2.length + 1) (N, S_, I, Q ++ [nm], C) r2 with
     | error e =>
      rw [hcm] at s3
      simp only [rest] at s3
      obtain ⟨ee1, ee2⟩ := e
      rw [← hag, hM']
      exact xj e1 e2 (N, S_, I, Q ++ [nm], C3) s3 M'
     | ok q =>
      obtain ⟨m', r'⟩ := q
      rw [hcm] at s3
      simp only [rest] at s3
      obtain ⟨hm', hlen⟩ := v3 m' r' hcm
      have sh3 := Jh _ _ _ _ sh2.1 hcm
      have l3 : r'.length < r2.length := sh3.2
      have hb : b3 = 0 ∧ p3 = 0 := by obtain ⟨_, _, _, _, h5, h6⟩ := s3; exact ⟨h5, h6⟩
      obtain ⟨rfl, rfl⟩ := hb
      simp only
      rw [← hag, hm']
      have hQl : (Q ++ [nm]).length = Q.length + 1 := by simp
      exact ih r' (N, S_, I, Q ++ [nm], C3) a3 M f (by omega) (by omega) (by omega) ⟨by simp only; omega, by simp only; omega, by simp only; omega, by simp only; omega, by simp only; omega⟩ s3
  · -- a variable
   have cp : isT 1 [112, 114, 111, 99] t = false := by
    unfold isT at cv ⊢
    simp only [Bool.and_eq_true, beq_iff_eq] at cv
    rw [cv.2]
    simp
   rw [hsi, c4, cv]
   simp only [cond_false, Bool.not_true, Bool.false_and, cond_true, fp, beq_self_eq_true, fv, cp, wk, bl]
   obtain ⟨a1, N', S', I', b1, p1, e3, s1, v1⟩ := NC (by omega) N S_ I Q C (by omega) (by omega) (by omega) (by omega) hs1
   simp only [e3, ai, fq, cond_false]
   cases hq : jk (N, S_, I, Q, C) r with
   | error e =>
    simp only [aD, aM, hq, rest] at s1
    obtain ⟨ee1, ee2⟩ := e
    rw [← hag, hM']
    exact xj e1 e2 (N', S', I', Q, C) s1 M'
   | ok q =>
    obtain ⟨m', r'⟩ := q
    simp only [aD, aM, hq, rest] at s1
    have hm' := v1 r m' r' rfl hq
    obtain ⟨sh, name, lo, hi, first, hp, _⟩ := EI hE1 hq
    have l1 : r'.length < r.length := sh.2
    have hb : b1 = 0 ∧ p1 = 0 := by obtain ⟨_, _, _, _, h5, h6⟩ := s1; exact ⟨h5, h6⟩
    obtain ⟨rfl, rfl⟩ := hb
    simp only
    simp only at hp
    rw [hm'] at hp
    simp only [Prod.mk.injEq, and_true] at hp
    obtain ⟨hp1, hp2, hp3⟩ := hp
    have q1 : N'.length = N.length + 1 := by rw [hp1]; simp
    have q2 : S'.length = S_.length + 1 := by rw [hp2]; simp
    have q3 : I'.length = I.length + 1 := by rw [hp3]; simp
    rw [← hag, hm']
    exact ih r' (N', S', I', Q, C) a1 M f (by omega) (by omega) (by omega) ⟨by simp only; omega, by simp only; omega, by simp only; omega, by simp only; omega, by simp only; omega⟩ s1
end
theorem IU {text : Str} {l : List Tok} (ht : dp text = some (l, 0, 0)) (hl : l.length < 500000000) (htok : ∀ t ∈ l, dP t) (hnum : ∀ t ∈ l, pj t) (he : Pa.Ends l) :
  cR text = some (wI (sys l)) := by
 unfold cR
 rw [ht, ai]
 simp only [bne_self_eq_false, cond_false]
 exact Kr (by omega) htok hnum 0 0 l.length l ([], [], [], [], []) 0 au (l.length + 1) (Nat.le_refl _) (by show _ ≤ 2 ^ 64; omega) (by omega) ⟨by simp; omega, by simp; omega, by simp; omega, by simp; omega, by simp; omega⟩ ⟨0, rfl, rfl, he, rfl, rfl⟩
end Sy
end Go.Proofs.YtkckoolfgnkpcaaDoor
namespace Go.Proofs.YtkckoolfgnkpcaaDoor
namespace Sy
open Pa
theorem Fi (s : Str) (h : s.all Lx.isDigit = true) : 0 ≤ Lx.dw 0 s := Lx.pT s 0 (Int.le_refl _) h
theorem Ha {c : UInt8} {s : Str} {k : Int} {t : Str} {n : Int} (h : Lx.step (c :: s) = .tok k t n) (pl : Int) : dP (k, t, n, pl) ∧ pj (k, t, n, pl) ∧ k ≠ 4 := by
 obtain ⟨hb, hc, _, _⟩ := Lx.te h
 simp only [Lx.step, hb, hc, Bool.false_eq_true, if_false] at h
 cases hlet : Lx.cS c
 ·simp only [hlet, Bool.false_eq_true, if_false] at h
  cases hdig : Lx.isDigit c
  ·simp only [hdig, Bool.false_eq_true, if_false] at h
   cases hsg : (Lx.cF (c :: s) == [])
   ·simp only [hsg, Bool.false_eq_true, if_false, Lx.Step.tok.injEq] at h
    obtain ⟨rfl, rfl, rfl⟩ := h
    obtain ⟨h1, h2, _⟩ := Lx.oO hsg
    obtain ⟨_, c', s', hg, _, _, hl, _⟩ := Lx.xS _ h1
    refine ⟨.inr (.inr (.inl ⟨rfl, fun c2 s2 h3 => ?_⟩)), (fun h => by cases h), by decide⟩
    simp only at h3
    rw [hg] at h3
    cases h3
    exact hl
   ·simp [hsg] at h
  ·simp only [hdig, if_true] at h
   split at h
   ·cases h
   ·rename_i hbig
    simp only [Lx.Step.tok.injEq] at h
    obtain ⟨rfl, rfl, rfl⟩ := h
    refine ⟨.inr (.inl rfl), fun _ => ⟨Fi _ (Lx.jB _ _), ?_⟩, by decide⟩
    simp only [Lx.big, decide_eq_true_eq] at hbig
    simp only; omega
 ·simp only [hlet, if_true] at h
  split at h
  ·cases h
  ·simp only [Lx.Step.tok.injEq] at h
   obtain ⟨rfl, rfl, rfl⟩ := h
   refine ⟨.inl ⟨rfl, c, s.takeWhile Lx.bY, ?_, hlet⟩, (fun h => by cases h), by decide⟩
   simp only [List.takeWhile_cons, Lx.lp hlet, if_true]
structure Good (n : Nat) (l : List Tok) : Prop where
 ok : ∀ t ∈ l, dP t
 num : ∀ t ∈ l, pj t
 ends : Pa.Ends l
 len : l.length ≤ n
theorem Hv {t : Tok} {l : List Tok} (h : Pa.Ends l) : Pa.Ends (t :: l) := .inl h
theorem GY : ∀ (f a : Nat) (s : Str) (l : List Tok), s.length < f → Lx.gX f a s = .ok l → Good (s.length + 1) l := by
 intro f
 induction f with
 | zero => intro a s l h; omega
 | succ f ih =>
  intro a s l hf h
  cases s with
  | nil =>
   simp only [Lx.gX] at h; cases h
   exact ⟨(fun t ht => by rw [List.mem_singleton.1 ht]; exact .inr (.inr (.inr rfl))), (fun t ht => by rw [List.mem_singleton.1 ht]; intro h; cases h), .inr ⟨rfl, rfl⟩, by simp⟩
  | cons c s =>
   simp only [Lx.gX] at h
   cases hs : Lx.step (c :: s) with
   | skip k =>
    rw [hs] at h
    obtain ⟨h1, h2⟩ := Lx.step_skip hs
    have := ih _ _ _ (by simp only [List.length_drop, List.length_cons] at *; omega) h
    exact ⟨this.ok, this.num, this.ends, by have := this.len; simp only [List.length_drop, List.length_cons] at *; omega⟩
   | err e => rw [hs] at h; cases h
   | tok k tx n =>
    rw [hs] at h
    simp only at h
    obtain ⟨_, _, h1, h2⟩ := Lx.te hs
    have h3 := h2.length_le
    obtain ⟨g1, g2, _⟩ := Ha hs (a : Int)
    cases hr : Lx.gX f (a + tx.length) ((c :: s).drop tx.length) with
    | error e => rw [hr] at h; cases h
    | ok l' =>
     rw [hr] at h
     cases h
     have := ih _ _ _ (by simp only [List.length_drop, List.length_cons] at *; omega) hr
     refine ⟨fun t ht => ?_, fun t ht => ?_, Hv this.ends, by have := this.len; simp only [List.length_drop, List.length_cons] at *; omega⟩
     ·rcases List.mem_cons.1 ht with rfl | ht
      ·exact g1
      ·exact this.ok t ht
     ·rcases List.mem_cons.1 ht with rfl | ht
      ·exact g2
      ·exact this.num t ht
theorem BZ {s : Str} {l : List Tok} (h : Lx.lex s = .ok l) : Good (s.length + 1) l := GY _ _ _ _ (Nat.lt_succ_self _) h
theorem CA : ∀ (f a : Nat) (s : Str) (e : Int × Int), Lx.gX f a s = .error e → e.1 ≠ 0 := by
 intro f
 induction f with
 | zero => intro a s e h; simp [Lx.gX] at h
 | succ f ih =>
  intro a s e h
  cases s with
  | nil => simp [Lx.gX] at h
  | cons c s =>
   simp only [Lx.gX] at h
   cases hs : Lx.step (c :: s) with
   | skip k => rw [hs] at h; exact ih _ _ _ h
   | err e' => rw [hs] at h; cases h; exact Lx.NJ hs
   | tok k tx n =>
    rw [hs] at h
    simp only at h
    cases hr : Lx.gX f (a + tx.length) ((c :: s).drop tx.length) with
    | error e' => rw [hr] at h; cases h; exact ih _ _ _ hr
    | ok l' => rw [hr] at h; cases h
noncomputable def w6 (text : Str) : Except Err Mdl := if 65536 < text.length then .error (9, 0) else match Lx.lex text with
 | .ok l => sys l
 | .error e => .error e
/-! what systems of texts are -/
structure AH (n : Nat) (s : Int × Ex) : Prop where
 var : 0 ≤ s.1 ∧ s.1 < n
 may : fg (n : Int) s.2 = true
 typ : (rt s.2).2.1 = 0 ∧ (rt s.2).1 = 1
 sz : s.2.sz ≤ 65537
structure Av (n : Nat) (c : Cmd) : Prop where
 may : fg (n : Int) c.2.1 = true
 typ : (rt c.2.1).2.1 = 0 ∧ (rt c.2.1).1 = 2
 sz : c.2.1.sz ≤ 65537
 sets : ∀ s ∈ c.2.2, AH n s
 one : 1 ≤ c.2.2.length
 len : c.2.2.length ≤ 65537
 once : c.2.2.Pairwise (fun a b => a.1 ≠ b.1)
structure vh (f : Int × Int) : Prop where
 le : f.1 ≤ f.2
 lo : -1073741824 ≤ f.1
 hi : f.2 ≤ 1073741824
 wide : f.2 - f.1 ≤ 65535
structure Part (m : Mdl) : Prop where
 names : m.1.length ≤ 16
 schema : m.2.1.length = m.1.length
 init : m.2.2.1.length = m.1.length
 fields : ∀ f ∈ m.2.1, vh f
 first : ∀ (i : Nat) (f : Int × Int) (v : Int), m.2.1[i]? = some f → m.2.2.1[i]? = some v → f.1 ≤ v ∧ v ≤ f.2
 cmds : m.2.2.2.2.length ≤ 256
 cmd : ∀ c ∈ m.2.2.2.2, Av m.1.length c
structure Wf (m : Mdl) : Prop extends Part m where
 some_ : 1 ≤ m.1.length
theorem K8 {op n len want v w : Int} (h : mo op n len want v = true) (hv : v ≤ w) : mo op n len want w = true := by
 simp only [mo, Bool.and_eq_true, Bool.not_eq_true', Bool.or_eq_false_iff, decide_eq_false_iff_not, bne_eq_false_iff_eq, Bool.and_eq_false_imp, beq_iff_eq] at h ⊢
 obtain ⟨⟨⟨h1, h2⟩, h3⟩, ⟨h4, h5⟩, h6⟩ := h
 exact ⟨⟨⟨h1, h2⟩, h3⟩, ⟨h4, fun h => by have := h5 h; omega⟩, h6⟩
theorem DL {v w : Int} (hv : v ≤ w) : ∀ (N : Nat) (e : Ex), e.sz ≤ N → fg v e = true → fg w e = true := by
 intro N
 induction N with
 | zero => intro e h; have := rD e; omega
 | succ N ih =>
  intro e h hm
  have h0 := (ue hm).2.2.2.2
  rw [Ew] at hm ⊢
  simp only [Bool.and_eq_true] at hm ⊢
  refine ⟨K8 hm.1 hv, ?_⟩
  have : ∀ l : List Ex, (∀ x ∈ l, x ∈ e.l) → qe w l = true := fun l => by
   induction l with
   | nil => intro _; simp only [qe]
   | cons x r ih2 =>
    intro hx
    simp only [qe, Bool.and_eq_true]
    exact ⟨ih x (by have := tg (hx x (by simp)); omega) (h0 x (hx x (by simp))), ih2 (fun y hy => hx y (List.mem_cons_of_mem _ hy))⟩
  exact this e.l (fun x h => h)
theorem Av.le {n k : Nat} {c : Cmd} (h : Av n c) (hk : n ≤ k) : Av k c :=
 ⟨DL (by omega) _ _ (Nat.le_refl _) h.may, h.typ, h.sz, fun s hs => ⟨⟨(h.sets s hs).var.1, by have := (h.sets s hs).var.2; omega⟩, DL (by omega) _ _ (Nat.le_refl _) (h.sets s hs).may, (h.sets s hs).typ, (h.sets s hs).sz⟩, h.one, h.len, h.once⟩
theorem GP {lo hi : Int} (h : ku lo hi = true) : vh (lo, hi) := by
 simp only [ku, Bool.and_eq_true, Bool.not_eq_true', decide_eq_false_iff_not] at h
 obtain ⟨⟨⟨h1, h2⟩, h3⟩, h4⟩ := h
 rw [w64 (by omega)] at h4
 exact ⟨by simp only; omega, by simp only; omega, by simp only; omega, by simp only; omega⟩
noncomputable def gf (ts : List Tok) : Prop := (∀ t ∈ ts, pj t) ∧ Pa.Ends ts ∧ ts.length ≤ 65537
theorem gf.of {ts ts' : List Tok} (h : gf ts) (hs : cu ts ts') (hf : ts' <:+ ts) : gf ts' := ⟨fun t ht => h.1 t (hf.mem ht), hs.1, by have := hs.2; have := h.2.2; omega⟩
theorem lK {x : Str} {ts r : List Tok} (h : aU x ts = .ok r) : r <:+ ts := by
 cases ts with
 | nil => simp [aU] at h
 | cons t ts' =>
  simp only [aU] at h
  cases hc : isT 3 x t
  ·rw [hc] at h; cases h
  ·rw [hc] at h; cases h; exact List.suffix_cons _ _
theorem zv {full : Bool} {names procs : List Str} {ts : List Tok} {p : Str × List Tok} (h : cT full names procs ts = .ok p) : p.2 <:+ ts := by
 cases ts with
 | nil => simp [cT] at h
 | cons t ts' =>
  simp only [cT] at h
  cases h1 : (t.1 != 1)
  ·rw [h1] at h
   simp only [cond_false] at h
   cases h2 : (key t.2.1 || names.contains t.2.1 || procs.contains t.2.1)
   ·rw [h2] at h
    simp only [cond_false] at h
    cases full
    ·cases h; exact List.suffix_cons _ _
    ·cases h
   ·rw [h2] at h; cases h
  ·rw [h1] at h; cases h
theorem zG {neg : Bool} {ts : List Tok} {p : Int × List Tok} (h : jS neg ts = .ok p) : p.2 <:+ ts := by
 cases ts with
 | nil => simp [jS] at h
 | cons t ts' =>
  simp only [jS] at h
  cases h1 : (t.1 != 2)
  ·rw [h1] at h; cases h; exact List.suffix_cons _ _
  ·rw [h1] at h; cases h
theorem wN {ts : List Tok} {p : Int × List Tok} (h : di ts = .ok p) : p.2 <:+ ts := by
 unfold di at h
 cases hc : isH 3 [45] ts
 ·rw [hc] at h; exact zG h
 ·rw [hc] at h; exact (zG h).trans (List.tail_suffix _)
theorem tE {want : Int} {names : List Str} {ts : List Tok} {p : Ex × List Tok} (he : Pa.Ends ts) (h : bZ want names ts = .ok p) : p.2 <:+ ts := (km he h).2.1.suf _ rfl
theorem HJ {names : List Str} : ∀ (f : Nat) (acc : List (Int × Ex)) (ts : List Tok) (p : List (Int × Ex) × List Tok), Pa.Ends ts → cM names f acc ts = .ok p → p.2 <:+ ts := by
 intro f
 induction f with
 | zero => intro _ _ _ _ h; simp [cM] at h
 | succ f ih =>
  intro acc ts p he h
  obtain ⟨t, r, rfl⟩ := he.ne
  simp only [cM] at h
  cases h1 : (t.1 != 1)
  case true => rw [h1] at h; cases h
  rw [h1] at h
  simp only [cond_false] at h
  cases h2 : (decide (cw names t.2.1 < 0) || nV acc (cw names t.2.1))
  case true => rw [h2] at h; cases h
  rw [h2] at h
  simp only [cond_false] at h
  have ht : t.1 = 1 := by simpa using h1
  have he1 := he.tail (by omega)
  cases h3 : aU [61] r with
  | error e => rw [h3] at h; cases h
  | ok r1 =>
   rw [h3] at h
   simp only at h
   have s1 := gM he1 h3
   cases h4 : bZ 1 names r1 with
   | error e => rw [h4] at h; cases h
   | ok q =>
    obtain ⟨x, r2⟩ := q
    rw [h4] at h
    simp only at h
    have s2 : cu r1 r2 := (km s1.1 h4).1
    have f12 : r2 <:+ t :: r := ((tE s1.1 h4).trans (lK h3)).trans (List.suffix_cons _ _)
    cases h5 : isH 3 [44] r2
    ·rw [h5] at h; cases h; exact f12
    ·rw [h5] at h
     simp only [cond_true] at h
     exact ((ih _ _ _ (iI s2.1 (by decide) h5).1 h).trans (List.tail_suffix _)).trans f12
theorem zI {want : Int} {names : List Str} {ts : List Tok} {x : Ex} {r : List Tok} (hT : gf ts) (h : bZ want names ts = .ok (x, r)) :
  fg (names.length : Int) x = true ∧ ((rt x).2.1 = 0 ∧ (rt x).1 = want) ∧ x.sz ≤ 65537 := by
 obtain ⟨sh, hp, h1, h2⟩ := km hT.2.1 h
 have hsz := hp.size _ rfl
 simp only [szJ, Nat.add_zero] at hsz
 exact ⟨hp.may trivial hT.1 rfl _ rfl, ⟨h1, h2⟩, by have := hT.2.2; omega⟩
theorem K0 {names : List Str} {v : Str} (h : ¬ cw names v < 0) : 0 ≤ cw names v ∧ cw names v < names.length := by
 unfold cw at h ⊢
 cases ha : at_ names v with
 | none => rw [ha] at h; simp at h
 | some i => have := KM ha; simp only; omega
theorem FG {names : List Str} : ∀ (f : Nat) (acc : List (Int × Ex)) (ts : List Tok) (p : List (Int × Ex) × List Tok), gf ts → cM names f acc ts = .ok p →
  (∀ s ∈ acc, AH names.length s) → acc.Pairwise (fun a b => a.1 ≠ b.1) → acc.length + ts.length ≤ 65537 → (∀ s ∈ p.1, AH names.length s) ∧ p.1.Pairwise (fun a b => a.1 ≠ b.1) ∧ p.1.length ≤ 65537 ∧ 1 ≤ p.1.length := by
 intro f
 induction f with
 | zero => intro _ _ _ _ h; simp [cM] at h
 | succ f ih =>
  intro acc ts p hT h hacc hpw hlen
  obtain ⟨t, r, rfl⟩ := hT.2.1.ne
  have he := hT.2.1
  simp only [cM] at h
  cases h1 : (t.1 != 1)
  case true => rw [h1] at h; cases h
  rw [h1] at h
  simp only [cond_false] at h
  cases h2 : (decide (cw names t.2.1 < 0) || nV acc (cw names t.2.1))
  case true => rw [h2] at h; cases h
  rw [h2] at h
  simp only [cond_false] at h
  have ht : t.1 = 1 := by simpa using h1
  have he1 := he.tail (by omega)
  simp only [Bool.or_eq_false_iff, decide_eq_false_iff_not] at h2
  cases h3 : aU [61] r with
  | error e => rw [h3] at h; cases h
  | ok r1 =>
   rw [h3] at h
   simp only at h
   have s1 := gM he1 h3
   have s1l := s1.2
   have hTr : gf r := ⟨fun t' h' => hT.1 t' (List.mem_cons_of_mem _ h'), he1, by have := hT.2.2; simp only [List.length_cons] at this; omega⟩
   have hT1 : gf r1 := hTr.of s1 (lK h3)
   cases h4 : bZ 1 names r1 with
   | error e => rw [h4] at h; cases h
   | ok q =>
    obtain ⟨x, r2⟩ := q
    rw [h4] at h
    simp only at h
    have s2 : cu r1 r2 := (km s1.1 h4).1
    have s2l := s2.2
    have hT2 : gf r2 := hT1.of s2 (tE s1.1 h4)
    obtain ⟨g1, g2, g3⟩ := zI hT1 h4
    have hi := K0 h2.1
    have hnew : ∀ s ∈ acc ++ [(cw names t.2.1, x)], AH names.length s := fun s hs => by
     rcases List.mem_append.1 hs with hs | hs
     ·exact hacc s hs
     ·rw [List.mem_singleton.1 hs]; exact ⟨hi, g1, g2, g3⟩
    have hpw' : (acc ++ [(cw names t.2.1, x)]).Pairwise (fun a b => a.1 ≠ b.1) := by
     rw [List.pairwise_append]
     refine ⟨hpw, List.pairwise_singleton _ _, fun a ha b hb => ?_⟩
     rw [List.mem_singleton.1 hb]
     intro e
     have : nV acc (cw names t.2.1) = true := by
      unfold nV
      rw [List.any_eq_true]
      exact ⟨a, ha, by simpa using e⟩
     rw [this] at h2; cases h2.2
    simp only [List.length_cons] at hlen
    cases h5 : isH 3 [44] r2
    ·rw [h5] at h
     cases h
     exact ⟨hnew, hpw', by simp; omega, by simp⟩
    ·rw [h5] at h
     simp only [cond_true] at h
     obtain ⟨e1, e2⟩ := iI s2.1 (by decide) h5
     have hT3 : gf r2.tail := ⟨fun t' h' => hT2.1 t' ((List.tail_suffix _).mem h'), e1, by have := hT2.2.2; omega⟩
     exact ih _ _ _ hT3 h hnew hpw' (by simp; omega)
theorem GO {m : Mdl} {ts : List Tok} {p : Mdl × List Tok} (hT : gf ts) (hm : Part m) (h : gW m ts = .ok p) : Part p.1 ∧ gf p.2 ∧ p.2.length < ts.length := by
 obtain ⟨sh, g, r1, r2, sets, r3, h256, h1, hE2, h3, hp, q2, q4⟩ := yH hT.2.1 h
 have s1 : cu ts r1 := (km hT.2.1 h1).1
 have hT1 : gf r1 := hT.of s1 (tE hT.2.1 h1)
 have s2 := gM s1.1 q2
 have hT2 : gf r2 := hT1.of s2 (lK q2)
 have s3 : cu r2 r3 := BT _ _ _ _ s2.1 h3
 have hT3 : gf r3 := hT2.of s3 (HJ _ _ _ _ s2.1 h3)
 have s4 := gM s3.1 q4
 have hT4 : gf p.2 := hT3.of s4 (lK q4)
 obtain ⟨g1, g2, g3⟩ := zI hT h1
 obtain ⟨t1, t2, t3, t4⟩ := FG _ _ _ _ hT2 h3 (fun s hs => by cases hs) List.Pairwise.nil (by have := hT2.2.2; simpa using this)
 refine ⟨?_, hT4, by have := s1.2; have := s2.2; have := s3.2; have := s4.2; omega⟩
 rw [hp]
 refine ⟨hm.names, hm.schema, hm.init, hm.fields, hm.first, by simp; omega, fun c hc => ?_⟩
 rcases List.mem_append.1 hc with hc | hc
 ·exact hm.cmd c hc
 ·rw [List.mem_singleton.1 hc]
  exact ⟨g1, g2, g3, t1, t4, t3, t2⟩
theorem EU : ∀ (f : Nat) (m : Mdl) (ts : List Tok) (p : Mdl × List Tok), gf ts → Part m → gu f m ts = .ok p → Part p.1 ∧ gf p.2 := by
 intro f
 induction f with
 | zero => intro _ _ _ _ _ h; simp [gu] at h
 | succ f ih =>
  intro m ts p hT hm h
  simp only [gu] at h
  cases hc : isH 3 [125] ts
  ·rw [hc] at h
   simp only [cond_false] at h
   cases h1 : gW m ts with
   | error e => rw [h1] at h; cases h
   | ok q =>
    obtain ⟨m', r⟩ := q
    rw [h1] at h
    simp only at h
    obtain ⟨g1, g2, _⟩ := GO hT hm h1
    exact ih m' r p g2 g1 h
  ·rw [hc] at h
   cases h
   obtain ⟨h1, h2⟩ := iI hT.2.1 (by decide) hc
   exact ⟨hm, fun t ht => hT.1 t ((List.tail_suffix _).mem ht), h1, by have := hT.2.2; show ts.tail.length ≤ _; omega⟩
theorem ER {m : Mdl} {ts : List Tok} {p : Mdl × List Tok} (hT : gf ts) (hm : Part m) (h : lj m ts = .ok p) : Part p.1 ∧ gf p.2 := by
 unfold lj at h
 cases h1 : cT false m.1 m.2.2.2.1 ts with
 | error e => rw [h1] at h; cases h
 | ok q1 =>
  obtain ⟨name, r1⟩ := q1
  rw [h1] at h
  simp only at h
  have s1 : cu ts r1 := (xg hT.2.1 h1).1
  have hT1 : gf r1 := hT.of s1 (zv h1)
  cases h2 : aU [123] r1 with
  | error e => rw [h2] at h; cases h
  | ok r2 =>
   rw [h2] at h
   simp only at h
   have s2 := gM s1.1 h2
   exact EU _ (m.1, m.2.1, m.2.2.1, m.2.2.2.1 ++ [name], m.2.2.2.2) _ _ (hT1.of s2 (lK h2)) ⟨hm.names, hm.schema, hm.init, hm.fields, hm.first, hm.cmds, hm.cmd⟩ h
theorem Kx {m : Mdl} {ts : List Tok} {p : Mdl × List Tok} (h : jk m ts = .ok p) : p.2 <:+ ts := by
 unfold jk at h
 cases h1 : cT (decide (16 ≤ (m.1.length : Int))) m.1 m.2.2.2.1 ts with
 | error e => rw [h1] at h; cases h
 | ok q1 =>
  obtain ⟨name, ts1⟩ := q1
  rw [h1] at h
  simp only at h
  have s1 : ts1 <:+ ts := zv h1
  cases h2 : di ts1 with
  | error e => rw [h2] at h; cases h
  | ok q2 =>
   obtain ⟨lo, ts2⟩ := q2
   rw [h2] at h
   simp only at h
   have s2 : ts2 <:+ ts1 := wN h2
   cases h3 : di ts2 with
   | error e => rw [h3] at h; cases h
   | ok q3 =>
    obtain ⟨hi, ts3⟩ := q3
    rw [h3] at h
    simp only at h
    have s3 : ts3 <:+ ts2 := wN h3
    cases h4 : di ts3 with
    | error e => rw [h4] at h; cases h
    | ok q4 =>
     obtain ⟨first, ts4⟩ := q4
     rw [h4] at h
     simp only at h
     have s4 : ts4 <:+ ts3 := wN h4
     cases h5 : aU [59] ts4 with
     | error e => rw [h5] at h; cases h
     | ok ts5 =>
      rw [h5] at h
      simp only at h
      have s5 := lK h5
      cases h6 : (!(ku lo hi) || decide (first < lo) || decide (hi < first))
      ·rw [h6] at h
       cases h
       exact (((s5.trans s4).trans s3).trans s2).trans s1
      ·rw [h6] at h; cases h
theorem HB {m : Mdl} {ts : List Tok} {p : Mdl × List Tok} (hT : gf ts) (hm : Part m) (h : jk m ts = .ok p) : Part p.1 ∧ gf p.2 ∧ 1 ≤ p.1.1.length := by
 obtain ⟨sh, name, lo, hi, first, hp, hr, h1, h2, h16, _⟩ := EI hT.2.1 h
 refine ⟨?_, hT.of sh (Kx h), by rw [hp]; simp⟩
 rw [hp]
 have hs := hm.schema
 have hi' := hm.init
 refine ⟨by simp; omega, by simp [hs], by simp [hi'], fun f hf => ?_, fun i f v hf hv => ?_, hm.cmds, fun c hc => (hm.cmd c hc).le (by simp)⟩
 ·rcases List.mem_append.1 hf with hf | hf
  ·exact hm.fields f hf
  ·rw [List.mem_singleton.1 hf]; exact GP hr
 ·simp only at hf hv
  rcases Nat.lt_or_ge i m.2.1.length with hlt | hge
  ·rw [List.getElem?_append_left hlt] at hf
   rw [List.getElem?_append_left (by omega)] at hv
   exact hm.first i f v hf hv
  ·rw [List.getElem?_append_right hge] at hf
   rw [List.getElem?_append_right (by omega)] at hv
   rw [show i - m.2.2.1.length = i - m.2.1.length by omega] at hv
   cases hd : i - m.2.1.length with
   | zero =>
    rw [hd] at hf hv
    simp only [List.getElem?_cons_zero, Option.some.injEq] at hf hv
    subst hf; subst hv
    exact ⟨h1, h2⟩
   | succ k => rw [hd] at hf; simp at hf
theorem Db : ∀ (f : Nat) (m : Mdl) (ts : List Tok) (p : Mdl), gf ts → Part m → iT f m ts = .ok p → Wf p := by
 intro f
 induction f with
 | zero => intro _ _ _ _ _ h; simp [iT] at h
 | succ f ih =>
  intro m ts p hT hm h
  obtain ⟨t, r, rfl⟩ := hT.2.1.ne
  have he := hT.2.1
  simp only [iT] at h
  cases c4 : (t.1 == 4)
  ·rw [c4] at h
   simp only [cond_false] at h
   have hTr : gf r := ⟨fun t' h' => hT.1 t' (List.mem_cons_of_mem _ h'), he.tail (by simpa using c4), by have := hT.2.2; simp only [List.length_cons] at this; omega⟩
   cases cv : isT 1 [118, 97, 114] t
   ·rw [cv] at h
    simp only [cond_false] at h
    cases cp : isT 1 [112, 114, 111, 99] t
    ·rw [cp] at h; cases h
    ·rw [cp] at h
     simp only [cond_true] at h
     cases h1 : lj m r with
     | error e => rw [h1] at h; cases h
     | ok q =>
      obtain ⟨m', r'⟩ := q
      rw [h1] at h
      simp only at h
      obtain ⟨g1, g2⟩ := ER hTr hm h1
      exact ih m' r' p g2 g1 h
   ·rw [cv] at h
    simp only [cond_true] at h
    cases h1 : jk m r with
    | error e => rw [h1] at h; cases h
    | ok q =>
     obtain ⟨m', r'⟩ := q
     rw [h1] at h
     simp only at h
     obtain ⟨g1, g2, _⟩ := HB hTr hm h1
     exact ih m' r' p g2 g1 h
  ·rw [c4] at h
   simp only [cond_true] at h
   cases hne : m.1.isEmpty
   ·rw [hne] at h
    cases h
    refine ⟨hm, ?_⟩
    cases hm1 : m.1 with
    | nil => rw [hm1] at hne; simp at hne
    | cons x r => simp
   ·rw [hne] at h; cases h
theorem Gm {text : Str} {m : Mdl} (h : w6 text = .ok m) : Wf m := by
 unfold w6 at h
 split at h
 ·cases h
 ·rename_i hl
  cases hx : Lx.lex text with
  | error e => rw [hx] at h; cases h
  | ok l =>
   rw [hx] at h
   have hg := BZ hx
   exact Db _ _ _ _ ⟨hg.num, hg.ends, by have := hg.len; omega⟩ ⟨by simp, rfl, rfl, (fun f hf => by cases hf), (fun i f v hf => by simp at hf), by simp, (fun c hc => by cases hc)⟩ h
end Sy
end Go.Proofs.YtkckoolfgnkpcaaDoor
namespace Go.Proofs.YtkckoolfgnkpcaaDoor
namespace Sy
open Pa
theorem Jl (text : Str) : cR text = some (wI (w6 text)) := by
 unfold w6
 by_cases h : 65536 < text.length
 ·rw [if_pos h]
  unfold cR
  rw [Lx.tR]
  unfold Lx.tokens
  rw [if_pos h]
  rfl
 ·rw [if_neg h]
  have ht : dp text = some (Lx.res (Lx.lex text)) := by rw [Lx.tR, Lx.E7 (by omega)]
  cases hl : Lx.lex text with
  | ok l =>
   rw [hl] at ht
   have hg := BZ hl
   exact IU ht (by have := hg.len; omega) hg.ok hg.num hg.ends
  | error e =>
   rw [hl] at ht
   have hne : (e.1 != 0) = true := bne_iff_ne.2 (CA _ _ _ _ hl)
   unfold cR
   rw [ht, ai]
   simp only [Lx.res, hne, cond_true, wI]
end Sy
end Go.Proofs.YtkckoolfgnkpcaaDoor
