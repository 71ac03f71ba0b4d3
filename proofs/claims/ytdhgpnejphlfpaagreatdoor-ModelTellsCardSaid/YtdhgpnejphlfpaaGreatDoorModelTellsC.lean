/-
  Own texts for the statement ModelTells, cut down to what it needs: B14, B15, B16, B24, B25, B17, B23, B18, B19, B20, B21. (cut and joined by a program)
-/
import Derived.Test.YtdhgpnejphlfpaaGreatDoorModelTellsA
import Derived.Test.YtdhgpnejphlfpaaGreatDoorModelTellsB
namespace Go.Proofs.YtdhgpnejphlfpaaGreatDoor
open Go.Lib
structure FR where
 v : AV
 R : List (Bool × Row)
 k : Nat
 D : List Dyn
 X : List (Nat × List AV)
structure FRs where
 vs : List AV
 R : List (Bool × Row)
 k : Nat
 D : List Dyn
 X : List (Nat × List AV)
def fv (t : Ty) (D : List Dyn) : t.T := match D with
 | d :: _ => (d.as t).getD t.qC
 | [] => t.qC
theorem lP {t : Ty} {x : t.T} {D : List Dyn} : fv t (⟨t, x⟩ :: D) = x := by
 simp [fv, Dyn.MT]
theorem Ny {k : IntKind} {x : Int} {D : List Dyn} : fv (.i k) (⟨.i k, x⟩ :: D) = x := lP (t := .i k)
theorem Oc {x : Bool} {D : List Dyn} : fv .bo (⟨.bo, x⟩ :: D) = x := lP (t := .bo)
theorem Jc {x : Str} {D : List Dyn} : fv .s (⟨.s, x⟩ :: D) = x := lP (t := .s)
theorem N4 {x : Nat} {D : List Dyn} : fv .n (⟨.n, x⟩ :: D) = x := lP (t := .n)
theorem IS {t : Ty} {x : List t.T} {D : List Dyn} : fv (.l t) (⟨.l t, x⟩ :: D) = x := lP (t := .l t)
theorem M9 {k v : Ty} {x : Option (List (k.T × v.T))} {D : List Dyn} : fv (.mp k v) (⟨.mp k v, x⟩ :: D) = x := lP (t := .mp k v)
structure LR where
 vs : List AV
 R : List (Bool × Row)
 k : Nat
 o : List (Option TypeId)
def fm (nm : Nat → Nat) : (t : Ty) → t.T → Nat → List (Option TypeId) → LR
 | .i k, x, n, o => ⟨[.int k x], [], n, o⟩
 | .bo, x, n, o => ⟨[.bool x], [], n, o⟩
 | .s, x, n, o => ⟨[.str x], [], n, o⟩
 | .un, _, n, o => ⟨[], [], n, o⟩
 | .p a b, x, n, o => match fm nm a x.1 n o with
  | ⟨u, p, n, o⟩ => match fm nm b x.2 n o with
   | ⟨v, q, n, o⟩ => ⟨u ++ v, p ++ q, n, o⟩
 | .l t, x, n, o => match o with
  | none :: o => ⟨[.sl (nm n)], [(false, .sli none (nm n) t x false)], n + 1, o⟩
  | some e :: o => ⟨[.sl (nm n)], [(ow e, .own (nm n) t (oe e) x (nm n))], n + 1, o⟩
  | [] => ⟨[], [], n, []⟩
 | .ex, x, n, o => match o with
  | none :: o => ⟨[.int .i64 x.op, .int .i64 x.n, .int .i64 x.at_, .sl (nm n)], [(false, .sli none (nm n) .ex x.l false)], n + 1, o⟩
  | some e :: o => ⟨[.int .i64 x.op, .int .i64 x.n, .int .i64 x.at_, .sl (nm n)], [(ow e, .own (nm n) .ex (oe e) x.l (nm n))], n + 1, o⟩
  | [] => ⟨[], [], n, []⟩
 | _, _, n, o => ⟨[], [], n, o⟩
def nmS (nm : Nat → Nat) (fx : FxA) (n : Nat) : Nat := match fx with
 | some (.sl j, _) => j
 | _ => nm n
def nmP (nm : Nat → Nat) (fx : FxA) (n : Nat) : Nat := match fx with
 | some (.ptr j _, _) => j
 | _ => nm n
def nmM (nm : Nat → Nat) (fx : FxA) (n : Nat) : Nat := match fx with
 | some (.mp j, _) => j
 | _ => nm n
def LB (fx : FxA) (sm : Option AV) : AV := match fx with
 | some p => p.1
 | none => match sm with
  | some x => x
  | none => .bool false
mutual
def fill (nm : Nat → Nat) : Pt → FxA → Option AV → Nat → List Dyn → FR
 | .int k, _, _, n, D => ⟨.int k (fv (.i k) D), [], n, D.tail, []⟩
 | .bool, _, _, n, D => ⟨.bool (fv .bo D), [], n, D.tail, []⟩
 | .str, _, _, n, D => ⟨.str (fv .s D), [], n, D.tail, []⟩
 | .sli t, _, _, n, D => ⟨.sl (nm n), [(false, .sli none (nm n) t (fv (.l t) D) false)], n + 1, D.tail, []⟩
 | .own t e m, fx, _, n, D => ⟨.sl (nmS nm fx n), [(m, .own (nmS nm fx n) t e (fv (.l t) D) (nm n))], n + 1, D.tail, []⟩
 | .slr k, _, _, n, D => ⟨.sl (nm k), [], n, D, []⟩
 | .bx t off m vs, fx, _, n, D => match dC nm vs (vt fx) (n + 1) D with
  | ⟨cs, R, k, D, X⟩ => ⟨.ptr (nmP nm fx n) off, (m, .box (nmP nm fx n) t cs) :: R, k, D, (ifS m [(n, cs)] []) ++ X⟩
 | .ptr k off, _, _, n, D => ⟨.ptr (nm k) off, [], n, D, []⟩
 | .mp k v m, fx, _, n, D => ⟨.mp (nmM nm fx n), [(m, .mp (nmM nm fx n) k v (fv (.mp k v) D))], n + 1, D.tail, []⟩
 | .it, fx, _, n, D => ⟨.ptr (nmP nm fx n) 0, [(true, .it (nmP nm fx n) (fv .s D) (fv .n D.tail))], n + 1, D.tail.tail, []⟩
 | .agg l, _, _, n, D => match dC nm l [] n D with
  | ⟨cs, R, k, D, X⟩ => ⟨.agg cs, R, k, D, X⟩
 | .tup l, _, _, n, D => match dC nm l [] n D with
  | ⟨cs, R, k, D, X⟩ => ⟨.tuple cs, R, k, D, X⟩
 | .fn f a b, _, _, n, D => match dC nm a [] n D with
  | ⟨cs, R, k, D, X⟩ => match dC nm b [] k D with
   | ⟨cs', R', k, D, X'⟩ => ⟨.fn f cs cs', R ++ R', k, D, X ++ X'⟩
 | .ifc t p, _, _, n, D => match fill nm p none none n D with
  | ⟨v, R, k, D, X⟩ => ⟨.ifc t v, R, k, D, X⟩
 | .cst v, _, _, n, D => ⟨v, [], n, D, []⟩
 | .dat t o, _, _, n, D => match fm nm t (fv t D) n o with
  | ⟨cs, R, k, _⟩ => ⟨.agg cs, R, k, D.tail, []⟩
 | .sfp, _, _, n, D => ⟨.bool false, [], n, D, []⟩
 | .same, fx, sm, n, D => ⟨LB fx sm, [], n, D, []⟩
def dC (nm : Nat → Nat) : List Pt → List AV → Nat → List Dyn → FRs
 | [], _, n, D => ⟨[], [], n, D, []⟩
 | p :: l, sms, n, D => match fill nm p none sms.head? n D with
  | ⟨v, R, k, D, X⟩ => match dC nm l sms.tail k D with
   | ⟨vs, R', k, D, X'⟩ => ⟨v :: vs, R ++ R', k, D, X ++ X'⟩
end
structure FV where
 E : an
 R : List (Bool × Row)
 k : Nat
 D : List Dyn
def fO (nm : Nat → Nat) (fix : Nat → FxA) : List (Bool × Nat × Pt) → Nat → List Dyn → FV
 | [], n, D => ⟨[], [], n, D⟩
 | x :: l, n, D => match fill nm x.2.2 (ifS x.1 (fix x.2.1) none) none n D with
  | ⟨v, R, k, D, _⟩ => match fO nm fix l k D with
   | ⟨E, R', k, D⟩ => ⟨ifS x.1 E ((x.2.1, none, v) :: E), R ++ R', k, D⟩
/-! names come one behind the other -/
def Pre (N N' : List Nm) : Prop := ∃ E, N' = N ++ E
theorem Pre.refl {N : List Nm} : Pre N N := ⟨[], by simp⟩
theorem Pre.trans {A B C : List Nm} (h : Pre A B) (k : Pre B C) : Pre A C := by
 obtain ⟨E, rfl⟩ := h
 obtain ⟨F, rfl⟩ := k
 exact ⟨E ++ F, by simp⟩
theorem Pre.one {N : List Nm} {a : Nm} : Pre N (N ++ [a]) := ⟨[a], rfl⟩
theorem Pre.len {A B : List Nm} (h : Pre A B) : A.length ≤ B.length := by
 obtain ⟨E, rfl⟩ := h
 simp
theorem Pre.at_ {A B : List Nm} (h : Pre A B) {i : Nat} {a : Nm} (ha : A[i]? = some a) : B[i]? = some a := by
 obtain ⟨E, rfl⟩ := h
 rw [List.getElem?_append_left (List.getElem?_eq_some_iff.1 ha).1]; exact ha
theorem sy : (t : Ty) → (x : t.T) → (cs : List Value) → (o : List (Option TypeId)) → (N : List Nm) → (I : Its) → (N' : List Nm) → (o' : List (Option TypeId)) → Bw t x cs o N I N' o' → Pre N N'
 | .i _, _, _, _, _, _, _, _, h | .bo, _, _, _, _, _, _, _, h | .s, _, _, _, _, _, _, _, h | .un, _, _, _, _, _, _, _, h => by obtain ⟨_, _, rfl, _⟩ := h; exact .refl
 | .n, _, _, _, _, _, _, _, h | .mp _ _, _, _, _, _, _, _, _, h => h.elim
 | .p a b, x, cs, o, N, I, N', o', h => by
  obtain ⟨c1, c2, N1, I1, I2, o1, h1, h2, _⟩ := h
  exact (sy a _ _ _ _ _ _ _ h1).trans (sy b _ _ _ _ _ _ _ h2)
 | .l t, x, cs, o, N, I, N', o', h => by obtain ⟨a, _, rfl, _⟩ := h; exact .one
 | .ex, x, cs, o, N, I, N', o', h => by obtain ⟨a, _, rfl, _⟩ := h; exact .one
mutual
theorem pB : (p : Pt) → (v : Value) → (fx : Fx) → (sm : Option Value) → (N : List Nm) → (D : List Dyn) → (I : Its) → (X : Bxs) → (N' : List Nm) → Sem p v fx sm N D I X N' → Pre N N'
 | .int _, v, fx, sm, N, D, I, X, N', h | .bool, v, fx, sm, N, D, I, X, N', h | .str, v, fx, sm, N, D, I, X, N', h => by obtain ⟨_, _, _, _, _, rfl⟩ := h; exact .refl
 | .sli t, v, fx, sm, N, D, I, X, N', h => by obtain ⟨a, l, _, _, _, _, rfl⟩ := h; exact .one
 | .own t e m, v, fx, sm, N, D, I, X, N', h => by obtain ⟨a, l, _, _, _, _, _, rfl, _⟩ := h; exact .one
 | .slr n, v, fx, sm, N, D, I, X, N', h | .ptr n _, v, fx, sm, N, D, I, X, N', h => by obtain ⟨a, _, _, _, _, _, rfl⟩ := h; exact .refl
 | .bx t off m vs, v, fx, sm, N, D, I, X, N', h => by
  obtain ⟨a, cs, I', X', _, _, h1, _⟩ := h
  exact Pre.one.trans (jA vs _ _ _ _ _ _ _ h1)
 | .mp k u m, v, fx, sm, N, D, I, X, N', h => by obtain ⟨a, d, _, _, _, _, _, rfl⟩ := h; exact .one
 | .it, v, fx, sm, N, D, I, X, N', h => by obtain ⟨a, s, p, _, _, _, _, _, rfl⟩ := h; exact .one
 | .agg l, v, fx, sm, N, D, I, X, N', h => by obtain ⟨cs, _, h1⟩ := h; exact jA l _ _ _ _ _ _ _ h1
 | .tup l, v, fx, sm, N, D, I, X, N', h => by obtain ⟨cs, _, h1⟩ := h; exact jA l _ _ _ _ _ _ _ h1
 | .fn f a b, v, fx, sm, N, D, I, X, N', h => by
  obtain ⟨us, vs, D1, D2, I1, I2, X1, X2, N1, _, h1, h2, _⟩ := h
  exact (jA a _ _ _ _ _ _ _ h1).trans (jA b _ _ _ _ _ _ _ h2)
 | .ifc t p, v, fx, sm, N, D, I, X, N', h => by obtain ⟨u, _, h1⟩ := h; exact pB p _ _ _ _ _ _ _ _ h1
 | .cst c, v, fx, sm, N, D, I, X, N', h => by obtain ⟨_, _, _, _, rfl⟩ := h; exact .refl
 | .dat t o, v, fx, sm, N, D, I, X, N', h => by obtain ⟨cs, x, o', _, _, h1, _⟩ := h; exact sy t _ _ _ _ _ _ _ h1
 | .sfp, v, fx, sm, N, D, I, X, N', h => h.elim
 | .same, v, fx, sm, N, D, I, X, N', h => by obtain ⟨_, _, _, _, rfl⟩ := h; exact .refl
theorem jA : (l : List Pt) → (vs : List Value) → (sms : List Value) → (N : List Nm) → (D : List Dyn) → (I : Its) → (X : Bxs) → (N' : List Nm) → qp l vs sms N D I X N' → Pre N N'
 | [], vs, sms, N, D, I, X, N', h => by obtain ⟨_, _, _, _, rfl⟩ := h; exact .refl
 | p :: l, vs, sms, N, D, I, X, N', h => by
  obtain ⟨v, vs', D1, D2, I1, I2, X1, X2, N1, _, h1, h2, _⟩ := h
  exact (pB p _ _ _ _ _ _ _ _ h1).trans (jA l _ _ _ _ _ _ _ h2)
end
theorem zm {fix : Nat → Fx} {val : Nat → Option Value} : (l : List (Bool × Nat × Pt)) → (N : List Nm) → (D : List Dyn) → (I : Its) → (X : Bxs) → (N' : List Nm) → ui fix val l N D I X N' → Pre N N'
 | [], N, D, I, X, N', h => by obtain ⟨_, _, _, rfl⟩ := h; exact .refl
 | x :: l, N, D, I, X, N', h => by
  obtain ⟨v, D1, D2, I1, I2, X1, X2, N1, _, h1, h2, _⟩ := h
  exact (pB _ _ _ _ _ _ _ _ _ h1).trans (zm l _ _ _ _ _ h2)
/-! what is filled is what the form says -/
def RwI (ρ : Nms) (T : Tbl) (a : Bool × Row) (b : Bool × Item) : Prop := a.1 = b.1 ∧ bk b.2 (a.2.item ρ T) ∧ bk (a.2.item ρ T) b.2
section
variable {ρ : Nms} {T : Tbl} {nm : Nat → Nat} {n0 : Nat}
def pd (ρ : Nms) (nm : Nat → Nat) (n0 : Nat) (N : List Nm) : Prop := ∀ i a, N[i]? = some a → (ρ (nm i)).b = a.b ∧ (ρ (nm i)).v = a.v ∧ (ρ (nm i)).m = a.m ∧ (n0 ≤ i → (ρ (nm i)).y = a.y)
theorem pd.pre {A B : List Nm} (h : pd ρ nm n0 B) (k : Pre A B) : pd ρ nm n0 A := fun i a ha => h i a (k.at_ ha)
theorem pd.last {A : List Nm} {a : Nm} (h : pd ρ nm n0 (A ++ [a])) : (ρ (nm A.length)).b = a.b ∧ (ρ (nm A.length)).v = a.v ∧ (ρ (nm A.length)).m = a.m ∧ (n0 ≤ A.length → (ρ (nm A.length)).y = a.y) := h _ _ (by simp)
theorem EF {t : Ty} {a : Nm} {l : List t.T} {j : Nat} (h : (ρ j).v = a.v) : bk (zi true t.rep a.v l false) ((Row.sli none j t l false).item ρ T) ∧ bk ((Row.sli none j t l false).item ρ T) (zi true t.rep a.v l false) := by
 simp only [Row.item, h]
 exact ⟨⟨fun _ h => h, fun M w h _ => h rfl⟩, ⟨fun _ h => h, fun M w h _ => h Tbl.get_none⟩⟩
theorem Ea {t : Ty} {e : TypeId} {a : Nm} {l : List t.T} {j ver : Nat} (h : (ρ j).v = a.v) (hy : (ρ ver).y = ⟨.l t, l⟩) : bk (rZ t.rep e a.v l True) ((Row.own j t e l ver).item ρ T) ∧ bk ((Row.own j t e l ver).item ρ T) (rZ t.rep e a.v l True) := by
 simp only [Row.item, h]
 exact ⟨⟨fun _ h => h, fun M w h => ⟨h.1, hy⟩⟩, ⟨fun _ h => h, fun M w h => ⟨h.1, trivial⟩⟩⟩
theorem By : (t : Ty) → (x : t.T) → (cs : List Value) → (o : List (Option TypeId)) → (N : List Nm) → (I : Its) → (N' : List Nm) → (o' : List (Option TypeId)) → Bw t x cs o N I N' o' → pd ρ nm n0 N' → n0 ≤ N.length →
  AV.ah ρ (fm nm t x N.length o).vs = cs ∧ (fm nm t x N.length o).k = N'.length ∧ (fm nm t x N.length o).o = o' ∧ dX (RwI ρ T) (fm nm t x N.length o).R I
 | .i k, x, cs, o, N, I, N', o', h, hn, hle => by
  obtain ⟨rfl, rfl, rfl, rfl⟩ := h
  exact ⟨by simp only [fm, AV.ah, AV.val], rfl, rfl, .nil⟩
 | .bo, x, cs, o, N, I, N', o', h, hn, hle => by
  obtain ⟨rfl, rfl, rfl, rfl⟩ := h
  exact ⟨by simp only [fm, AV.ah, AV.val], rfl, rfl, .nil⟩
 | .s, x, cs, o, N, I, N', o', h, hn, hle => by
  obtain ⟨rfl, rfl, rfl, rfl⟩ := h
  exact ⟨by simp only [fm, AV.ah, AV.val], rfl, rfl, .nil⟩
 | .un, x, cs, o, N, I, N', o', h, hn, hle => by
  obtain ⟨rfl, rfl, rfl, rfl⟩ := h
  exact ⟨by simp only [fm, AV.ah], rfl, rfl, .nil⟩
 | .n, x, cs, o, N, I, N', o', h, hn, hle => h.elim
 | .mp _ _, x, cs, o, N, I, N', o', h, hn, hle => h.elim
 | .p a b, x, cs, o, N, I, N', o', h, hn, hle => by
  obtain ⟨c1, c2, N1, I1, I2, o1, h1, h2, rfl, rfl⟩ := h
  have p2 := sy b _ _ _ _ _ _ _ h2
  obtain ⟨a1, a2, a3, a4⟩ := By a x.1 c1 o N I1 N1 o1 h1 (hn.pre p2) hle
  obtain ⟨b1, b2, b3, b4⟩ := By b x.2 c2 o1 N1 I2 N' o' h2 hn (Nat.le_trans hle (sy a _ _ _ _ _ _ _ h1).len)
  unfold fm
  generalize fm nm a x.1 N.length o = L1 at a1 a2 a3 a4
  obtain ⟨u, p, n, oo⟩ := L1
  simp only at a1 a2 a3 a4
  subst a2; subst a3
  dsimp only
  generalize fm nm b x.2 N1.length oo = L2 at b1 b2 b3 b4
  obtain ⟨u2, p2, n2, oo2⟩ := L2
  simp only at b1 b2 b3 b4
  dsimp only
  exact ⟨by rw [df, a1, b1], b2, b3, a4.append b4⟩
 | .l t, x, cs, o, N, I, N', o', h, hn, hle => by
  obtain ⟨a, rfl, rfl, h⟩ := h
  have hl := hn.last
  rcases h with ⟨rfl, rfl⟩ | ⟨e, rfl, rfl, hy⟩
  ·exact ⟨by simp only [fm, AV.ah, AV.val, hl.2.1], by simp [fm], rfl, .cons ⟨rfl, EF hl.2.1⟩ .nil⟩
  ·exact ⟨by simp only [fm, AV.ah, AV.val, hl.2.1], by simp [fm], rfl, .cons ⟨rfl, Ea hl.2.1 (by rw [hl.2.2.2 hle]; exact hy)⟩ .nil⟩
 | .ex, x, cs, o, N, I, N', o', h, hn, hle => by
  obtain ⟨a, rfl, rfl, h⟩ := h
  have hl := hn.last
  rcases h with ⟨rfl, rfl⟩ | ⟨e, rfl, rfl, hy⟩
  ·exact ⟨by simp only [fm, AV.ah, AV.val, hl.2.1], by simp [fm], rfl, .cons ⟨rfl, EF (t := .ex) hl.2.1⟩ .nil⟩
  ·exact ⟨by simp only [fm, AV.ah, AV.val, hl.2.1], by simp [fm], rfl, .cons ⟨rfl, Ea (t := .ex) hl.2.1 (by rw [hl.2.2.2 hle]; exact hy)⟩ .nil⟩
theorem N8 {p q : SLV} (h : sl p = sl q) : p = q := by
 obtain ⟨a, b, c⟩ := p
 obtain ⟨a', b', c'⟩ := q
 simp only [sl, Value.slice.injEq] at h
 rw [h.1, h.2.1, h.2.2]
theorem NA {fx : FxA} {N : List Nm} {a : Nm} (hn : pd ρ nm n0 (N ++ [a])) (hf : xK (jV ρ fx) (sl a.v)) : (ρ (nmS nm fx N.length)).v = a.v := by
 unfold nmS
 split
 ·have := hf _ rfl
  simp only [AV.val] at this
  exact (N8 this).symm
 ·rw [hn.last.2.1]
theorem Im {fx : FxA} {N : List Nm} {a : Nm} {off : Nat} (hn : (ρ (nm N.length)).b = a.b) (hf : xK (jV ρ fx) (.pointer (some ⟨a.b, off, none⟩))) : (ρ (nmP nm fx N.length)).b = a.b := by
 unfold nmP
 split
 ·have := hf _ rfl
  simp only [AV.val, Value.pointer.injEq, Option.some.injEq, Addr.mk.injEq] at this
  exact this.1.symm
 ·rw [hn]
theorem NH {fx : FxA} {N : List Nm} {a : Nm} (hn : pd ρ nm n0 (N ++ [a])) (hf : xK (jV ρ fx) (.map a.m)) : (ρ (nmM nm fx N.length)).m = a.m := by
 unfold nmM
 split
 ·have := hf _ rfl
  simp only [AV.val, Value.map.injEq] at this
  exact this.symm
 ·rw [hn.last.2.2.1]
mutual
theorem uG : (p : Pt) → (v : Value) → (fx : FxA) → (sm : Option AV) → (N : List Nm) → (D : List Dyn) → (I : Its) → (X : Bxs) → (N' : List Nm) → Sem p v (jV ρ fx) (sm.map (AV.val ρ)) N D I X N' → pd ρ nm n0 N' → n0 ≤ N.length → (D2 : List Dyn) →
  (fill nm p fx sm N.length (D ++ D2)).v.val ρ = v ∧ (fill nm p fx sm N.length (D ++ D2)).k = N'.length ∧ (fill nm p fx sm N.length (D ++ D2)).D = D2 ∧ X = db ρ (fill nm p fx sm N.length (D ++ D2)).X ∧ dX (RwI ρ T) (fill nm p fx sm N.length (D ++ D2)).R I
 | .int k, v, fx, sm, N, D, I, X, N', h, hn, hle, D2 => by
  obtain ⟨x, rfl, rfl, rfl, rfl, rfl⟩ := h
  exact ⟨by simp only [fill, List.singleton_append, Ny, AV.val], rfl, rfl, rfl, .nil⟩
 | .bool, v, fx, sm, N, D, I, X, N', h, hn, hle, D2 => by
  obtain ⟨x, rfl, rfl, rfl, rfl, rfl⟩ := h
  exact ⟨by simp only [fill, List.singleton_append, Oc, AV.val], rfl, rfl, rfl, .nil⟩
 | .str, v, fx, sm, N, D, I, X, N', h, hn, hle, D2 => by
  obtain ⟨x, rfl, rfl, rfl, rfl, rfl⟩ := h
  exact ⟨by simp only [fill, List.singleton_append, Jc, AV.val], rfl, rfl, rfl, .nil⟩
 | .sli t, v, fx, sm, N, D, I, X, N', h, hn, hle, D2 => by
  obtain ⟨a, l, rfl, rfl, rfl, rfl, rfl⟩ := h
  have hl := hn.last
  refine ⟨by simp only [fill, AV.val, hl.2.1], by simp [fill], rfl, rfl, .cons ⟨rfl, ?_⟩ .nil⟩
  show bk _ ((Row.sli none (nm N.length) t (fv (.l t) (⟨.l t, l⟩ :: D2)) false).item ρ T) ∧ bk ((Row.sli none (nm N.length) t (fv (.l t) (⟨.l t, l⟩ :: D2)) false).item ρ T) _
  rw [IS]
  exact EF hl.2.1
 | .own t e m, v, fx, sm, N, D, I, X, N', h, hn, hle, D2 => by
  obtain ⟨a, l, rfl, hf, rfl, rfl, rfl, rfl, hy⟩ := h
  have hS := NA hn hf
  refine ⟨by simp only [fill, AV.val, hS], by simp [fill], rfl, rfl, .cons ⟨rfl, ?_⟩ .nil⟩
  show bk _ ((Row.own (nmS nm fx N.length) t e (fv (.l t) (⟨.l t, l⟩ :: D2)) (nm N.length)).item ρ T) ∧ bk ((Row.own (nmS nm fx N.length) t e (fv (.l t) (⟨.l t, l⟩ :: D2)) (nm N.length)).item ρ T) _
  rw [IS]
  exact Ea hS (by rw [hn.last.2.2.2 hle]; exact hy)
 | .slr n, v, fx, sm, N, D, I, X, N', h, hn, hle, D2 => by
  obtain ⟨a, ha, rfl, rfl, rfl, rfl, rfl⟩ := h
  exact ⟨by simp only [fill, AV.val, (hn _ _ ha).2.1], rfl, rfl, rfl, .nil⟩
 | .bx t off m vs, v, fx, sm, N, D, I, X, N', h, hn, hle, D2 => by
  obtain ⟨a, cs, I', X', rfl, hf, h1, rfl, rfl⟩ := h
  rw [FD] at h1
  have p1 := jA vs _ _ _ _ _ _ _ h1
  have hl := hn.pre p1
  have hP := Im hl.last.1 hf
  have hlen : (N ++ [a]).length = N.length + 1 := by simp
  obtain ⟨b1, b2, b3, b4, b5⟩ := nt vs cs (vt fx) (N ++ [a]) D I' X' N' h1 hn (by simp; omega) D2
  rw [hlen] at b1 b2 b3 b4 b5
  unfold fill
  generalize dC nm vs (vt fx) (N.length + 1) (D ++ D2) = L at b1 b2 b3 b4 b5
  obtain ⟨us, R, k, DD, XX⟩ := L
  simp only at b1 b2 b3 b4 b5
  dsimp only
  refine ⟨by simp only [AV.val, hP], b2, b3, ?_, .cons ⟨rfl, ?_⟩ b5⟩
  ·rw [b4]; cases m <;> simp [db, b1]
  ·simp only [Row.item, hP, b1]; exact ⟨bk.refl, bk.refl⟩
 | .ptr n off, v, fx, sm, N, D, I, X, N', h, hn, hle, D2 => by
  obtain ⟨a, ha, rfl, rfl, rfl, rfl, rfl⟩ := h
  exact ⟨by simp only [fill, AV.val, (hn _ _ ha).1], rfl, rfl, rfl, .nil⟩
 | .mp k u m, v, fx, sm, N, D, I, X, N', h, hn, hle, D2 => by
  obtain ⟨a, d, rfl, hf, rfl, rfl, rfl, rfl⟩ := h
  have hM := NH hn hf
  refine ⟨by simp only [fill, AV.val, hM], by simp [fill], rfl, rfl, .cons ⟨rfl, ?_⟩ .nil⟩
  show bk _ ((Row.mp (nmM nm fx N.length) k u (fv (.mp k u) (⟨.mp k u, d⟩ :: D2))).item ρ T) ∧ bk ((Row.mp (nmM nm fx N.length) k u (fv (.mp k u) (⟨.mp k u, d⟩ :: D2))).item ρ T) _
  rw [M9]
  simp only [Row.item, hM]; exact ⟨bk.refl, bk.refl⟩
 | .it, v, fx, sm, N, D, I, X, N', h, hn, hle, D2 => by
  obtain ⟨a, s, p, rfl, hf, rfl, rfl, rfl, rfl⟩ := h
  have hP := Im hn.last.1 hf
  refine ⟨by simp only [fill, AV.val, hP], by simp [fill], rfl, rfl, .cons ⟨rfl, ?_⟩ .nil⟩
  show bk _ ((Row.it (nmP nm fx N.length) (fv .s (⟨.s, s⟩ :: ⟨.n, p⟩ :: D2)) (fv .n (⟨.n, p⟩ :: D2))).item ρ T) ∧ bk ((Row.it (nmP nm fx N.length) (fv .s (⟨.s, s⟩ :: ⟨.n, p⟩ :: D2)) (fv .n (⟨.n, p⟩ :: D2))).item ρ T) _
  rw [Jc, N4]
  simp only [Row.item, hP]; exact ⟨bk.refl, bk.refl⟩
 | .agg l, v, fx, sm, N, D, I, X, N', h, hn, hle, D2 => by
  obtain ⟨cs, rfl, h1⟩ := h
  obtain ⟨b1, b2, b3, b4, b5⟩ := nt l cs [] N D I X N' (by simpa only [AV.ah] using h1) hn hle D2
  unfold fill
  generalize dC nm l [] N.length (D ++ D2) = L at b1 b2 b3 b4 b5
  obtain ⟨us, R, k, DD, XX⟩ := L
  simp only at b1 b2 b3 b4 b5
  dsimp only
  exact ⟨by simp only [AV.val, b1], b2, b3, b4, b5⟩
 | .tup l, v, fx, sm, N, D, I, X, N', h, hn, hle, D2 => by
  obtain ⟨cs, rfl, h1⟩ := h
  obtain ⟨b1, b2, b3, b4, b5⟩ := nt l cs [] N D I X N' (by simpa only [AV.ah] using h1) hn hle D2
  unfold fill
  generalize dC nm l [] N.length (D ++ D2) = L at b1 b2 b3 b4 b5
  obtain ⟨us, R, k, DD, XX⟩ := L
  simp only at b1 b2 b3 b4 b5
  dsimp only
  exact ⟨by simp only [AV.val, b1], b2, b3, b4, b5⟩
 | .fn f a b, v, fx, sm, N, D, I, X, N', h, hn, hle, D2 => by
  obtain ⟨us, vs, D1, D3, I1, I2, X1, X2, N1, rfl, h1, h2, rfl, rfl, rfl⟩ := h
  have p2 := jA b _ _ _ _ _ _ _ h2
  obtain ⟨b1, b2, b3, b4, b5⟩ := nt a us [] N D1 I1 X1 N1 (by simpa only [AV.ah] using h1) (hn.pre p2) hle (D3 ++ D2)
  obtain ⟨c1, c2, c3, c4, c5⟩ := nt b vs [] N1 D3 I2 X2 N' (by simpa only [AV.ah] using h2) hn (Nat.le_trans hle (jA a _ _ _ _ _ _ _ h1).len) D2
  unfold fill
  rw [List.append_assoc]
  generalize dC nm a [] N.length (D1 ++ (D3 ++ D2)) = L at b1 b2 b3 b4 b5
  obtain ⟨us', R, k, DD, XX⟩ := L
  simp only at b1 b2 b3 b4 b5
  subst b2; subst b3
  dsimp only
  generalize dC nm b [] N1.length (D3 ++ D2) = L at c1 c2 c3 c4 c5
  obtain ⟨us2, R2, k2, DD2, XX2⟩ := L
  simp only at c1 c2 c3 c4 c5
  dsimp only
  exact ⟨by simp only [AV.val, b1, c1], c2, c3, by rw [b4, c4]; simp [db], b5.append c5⟩
 | .ifc t p, v, fx, sm, N, D, I, X, N', h, hn, hle, D2 => by
  obtain ⟨u, rfl, h1⟩ := h
  obtain ⟨b1, b2, b3, b4, b5⟩ := uG p u none none N D I X N' h1 hn hle D2
  unfold fill
  generalize fill nm p none none N.length (D ++ D2) = L at b1 b2 b3 b4 b5
  obtain ⟨us, R, k, DD, XX⟩ := L
  simp only at b1 b2 b3 b4 b5
  dsimp only
  exact ⟨by simp only [AV.val, b1], b2, b3, b4, b5⟩
 | .cst c, v, fx, sm, N, D, I, X, N', h, hn, hle, D2 => by
  obtain ⟨⟨h1, h0⟩, rfl, rfl, rfl, rfl⟩ := h
  exact ⟨by rw [h1]; exact h0 ρ, rfl, rfl, rfl, .nil⟩
 | .dat t o, v, fx, sm, N, D, I, X, N', h, hn, hle, D2 => by
  obtain ⟨cs, x, o', rfl, rfl, h1, rfl⟩ := h
  obtain ⟨b1, b2, b3, b5⟩ := By (T := T) t x cs o N I N' o' h1 hn hle
  unfold fill
  rw [List.singleton_append, lP]
  generalize fm nm t x N.length o = L at b1 b2 b3 b5
  obtain ⟨us, R, k, oo⟩ := L
  simp only at b1 b2 b3 b5
  dsimp only
  exact ⟨by simp only [AV.val, b1], b2, rfl, rfl, b5⟩
 | .sfp, v, fx, sm, N, D, I, X, N', h, hn, hle, D2 => h.elim
 | .same, v, fx, sm, N, D, I, X, N', h, hn, hle, D2 => by
  obtain ⟨h1, rfl, rfl, rfl, rfl⟩ := h
  refine ⟨?_, rfl, rfl, rfl, .nil⟩
  simp only [fill, LB]
  rcases h1 with ⟨p, hp, rfl⟩ | ⟨hs0, h1⟩
  ·cases fx with
   | none => cases hp
   | some q => cases hp; rfl
  ·cases fx with
   | some q => cases hs0
   | none =>
    cases sm with
    | none => cases h1
    | some y => cases h1; rfl
theorem nt : (l : List Pt) → (vs : List Value) → (sms : List AV) → (N : List Nm) → (D : List Dyn) → (I : Its) → (X : Bxs) → (N' : List Nm) → qp l vs (AV.ah ρ sms) N D I X N' → pd ρ nm n0 N' → n0 ≤ N.length → (D2 : List Dyn) →
  AV.ah ρ (dC nm l sms N.length (D ++ D2)).vs = vs ∧ (dC nm l sms N.length (D ++ D2)).k = N'.length ∧ (dC nm l sms N.length (D ++ D2)).D = D2 ∧ X = db ρ (dC nm l sms N.length (D ++ D2)).X ∧ dX (RwI ρ T) (dC nm l sms N.length (D ++ D2)).R I
 | [], vs, sms, N, D, I, X, N', h, hn, hle, D2 => by
  obtain ⟨rfl, rfl, rfl, rfl, rfl⟩ := h
  exact ⟨by simp only [dC, AV.ah], rfl, rfl, rfl, .nil⟩
 | p :: l, vs, sms, N, D, I, X, N', h, hn, hle, D2 => by
  obtain ⟨v, vs', D1, D3, I1, I2, X1, X2, N1, rfl, h1, h2, rfl, rfl, rfl⟩ := h
  rw [Ch] at h1
  rw [Cf] at h2
  have p2 := jA l _ _ _ _ _ _ _ h2
  obtain ⟨b1, b2, b3, b4, b5⟩ := uG p v none sms.head? N D1 I1 X1 N1 h1 (hn.pre p2) hle (D3 ++ D2)
  obtain ⟨c1, c2, c3, c4, c5⟩ := nt l vs' sms.tail N1 D3 I2 X2 N' h2 hn (Nat.le_trans hle (pB p _ _ _ _ _ _ _ _ h1).len) D2
  unfold dC
  rw [List.append_assoc]
  generalize fill nm p none sms.head? N.length (D1 ++ (D3 ++ D2)) = L at b1 b2 b3 b4 b5
  obtain ⟨us', R, k, DD, XX⟩ := L
  simp only at b1 b2 b3 b4 b5
  subst b2; subst b3
  dsimp only
  generalize dC nm l sms.tail N1.length (D3 ++ D2) = L at c1 c2 c3 c4 c5
  obtain ⟨us2, R2, k2, DD2, XX2⟩ := L
  simp only at c1 c2 c3 c4 c5
  dsimp only
  exact ⟨by simp only [AV.ah, b1, c1], c2, c3, by rw [b4, c4]; simp [db], b5.append c5⟩
end
def Lu : List (Bool × Nat × Pt) → List Nat
 | [] => []
 | x :: l => ifS x.1 (Lu l) (x.2.1 :: Lu l)
theorem zg {fix : Nat → FxA} {lk : Nat → Option Value} : (l : List (Bool × Nat × Pt)) → (N : List Nm) → (D : List Dyn) → (I : Its) → (X : Bxs) → (N' : List Nm) → ui (fun i => jV ρ (fix i)) lk l N D I X N' → pd ρ nm n0 N' → n0 ≤ N.length → (D2 : List Dyn) →
  (∀ t p, look (an.env ρ [] (fO nm fix l N.length (D ++ D2)).E) t = some p → p.1 = true ∧ lk t = some p.2) ∧ (fO nm fix l N.length (D ++ D2)).k = N'.length ∧ (fO nm fix l N.length (D ++ D2)).D = D2 ∧ dX (RwI ρ T) (fO nm fix l N.length (D ++ D2)).R I
 | [], N, D, I, X, N', h, hn, hle, D2 => by
  obtain ⟨rfl, rfl, rfl, rfl⟩ := h
  exact ⟨(fun t p h => by cases h), rfl, rfl, .nil⟩
 | (b, t, p) :: l, N, D, I, X, N', h, hn, hle, D2 => by
  obtain ⟨v, D1, D3, I1, I2, X1, X2, N1, hv, h1, h2, rfl, rfl, rfl⟩ := h
  have p2 := zm l _ _ _ _ _ h2
  have h1' : Sem p v (jV ρ (ifS b (fix t) none)) ((none : Option AV).map (AV.val ρ)) N D1 I1 X1 N1 := by
   cases b <;> exact h1
  obtain ⟨b1, b2, b3, b4, b5⟩ := uG (T := T) p v _ none N D1 I1 X1 N1 h1' (hn.pre p2) hle (D3 ++ D2)
  obtain ⟨c1, c2, c3, c5⟩ := zg l N1 D3 I2 X2 N' h2 hn (Nat.le_trans hle (pB p _ _ _ _ _ _ _ _ h1).len) D2
  unfold fO
  rw [List.append_assoc]
  dsimp only
  generalize fill nm p (ifS b (fix t) none) none N.length (D1 ++ (D3 ++ D2)) = L at b1 b2 b3 b4 b5
  obtain ⟨us', R, k, DD, XX⟩ := L
  simp only at b1 b2 b3 b4 b5
  subst b2; subst b3
  dsimp only
  generalize fO nm fix l N1.length (D3 ++ D2) = L at c1 c2 c3 c5
  obtain ⟨E2, R2, k2, DD2⟩ := L
  simp only at c1 c2 c3 c5
  dsimp only
  refine ⟨fun t' q hq => ?_, c2, c3, b5.append c5⟩
  cases b
  ·simp only [an.env, look] at hq
   cases hb : Nat.beq t t'
   ·rw [hb] at hq; exact c1 t' q hq
   ·rw [hb] at hq
    simp only [cond_true, Option.some.injEq] at hq
    subst hq
    have := Nat.eq_of_beq_eq_true hb
    subst this
    refine ⟨Tbl.get_none, ?_⟩
    have hv' : lk t = some v := hv
    rw [hv', b1]
  ·exact c1 t' q hq
end
end Go.Proofs.YtdhgpnejphlfpaaGreatDoor
namespace Go.Proofs.YtdhgpnejphlfpaaGreatDoor
open Go.Lib
section
variable {Γ Γ' : Ctx} {w : World}
theorem Sat.tT (h : Sat Γ w) (Rl : Nat → Nat → Prop) (h1 : ∀ (j : Nat) (jt : Item), Γ'[j]? = some jt → (jt.own = [] ∧ ∀ M w, jt.P M w) ∨ ∃ (i : Nat) (it : Item), Rl j i ∧ Γ[i]? = some it ∧ bk it jt)
  (h2 : ∀ (j k i : Nat), j ≠ k → Rl j i → Rl k i → False) : Sat Γ' w := by
 have mv : Mv Γ.M w (Ctx.M Γ') w := Mv.weaken w fun b hb => by
  obtain ⟨it, hi, hb⟩ := hb
  obtain ⟨k, hk⟩ := List.mem_iff_getElem?.1 hi
  rcases h1 k it hk with ⟨h3, _⟩ | ⟨i, jt, _, h4, h5⟩
  ·rw [h3] at hb; cases hb
  ·exact Ctx.kI h4 (h5.1 b hb)
 refine ⟨fun jt hj => ?_, fun j k jt kt hj hk hjk b hb hb' => ?_⟩
 ·obtain ⟨k, hk⟩ := List.mem_iff_getElem?.1 hj
  rcases h1 k jt hk with ⟨_, h3⟩ | ⟨i, it, _, h4, h5⟩
  ·exact h3 _ _
  ·exact h5.2 _ _ (it.cd (h.at_ h4) mv (fun _ _ => rfl) (eb.refl w))
 ·rcases h1 j jt hj with ⟨h3, _⟩ | ⟨i, it, r1, h4, h5⟩
  ·rw [h3] at hb; cases hb
  ·rcases h1 k kt hk with ⟨h3, _⟩ | ⟨i', it', r2, h4', h5'⟩
   ·rw [h3] at hb'; cases hb'
   ·by_cases e : i = i'
    ·subst e; exact h2 j k i hjk r1 r2
    ·exact h.sep i i' it it' h4 h4' e b (h5.1 b hb) (h5'.1 b hb')
def jd : Item := CD True
theorem Sat.pull (h : Sat Γ w) {i : Nat} {it jt : Item} (hi : Γ[i]? = some it) (hl : bk it jt) : Sat (jt :: Γ.set i jd) w := by
 refine h.tT (fun j k => (j = 0 ∧ k = i) ∨ (j = k + 1 ∧ k ≠ i)) (fun j kt hj => ?_) (fun j k q hjk h1 h2 => by omega)
 cases j with
 | zero => simp at hj; subst hj; exact .inr ⟨i, it, .inl ⟨rfl, rfl⟩, hi, hl⟩
 | succ j =>
  simp only [List.getElem?_cons_succ] at hj
  by_cases e : j = i
  ·subst e
   rw [List.getElem?_set_self (List.getElem?_eq_some_iff.1 hi).1] at hj
   cases hj
   exact .inl ⟨rfl, fun _ _ => trivial⟩
  ·rw [List.getElem?_set_ne (fun h => e h.symm)] at hj
   exact .inr ⟨j, kt, .inr ⟨rfl, e⟩, hj, bk.refl⟩
theorem Sat.yv {A B : Ctx} {x : Item} (h : Sat (A ++ x :: B) w) : Sat (A ++ B) w := by
 refine h.tT (fun j k => (j < A.length ∧ k = j) ∨ (A.length ≤ j ∧ k = j + 1)) (fun j jt hj => ?_) (fun j k q hjk h1 h2 => by omega)
 by_cases e : j < A.length
 ·rw [List.getElem?_append_left e] at hj
  exact .inr ⟨j, jt, .inl ⟨e, rfl⟩, by rw [List.getElem?_append_left e]; exact hj, bk.refl⟩
 ·have e' : A.length ≤ j := by omega
  rw [List.getElem?_append_right e'] at hj
  refine .inr ⟨j + 1, jt, .inr ⟨e', rfl⟩, ?_, bk.refl⟩
  rw [List.getElem?_append_right (by omega)]
  have : j + 1 - A.length = (j - A.length) + 1 := by omega
  rw [this]
  simpa using hj
theorem Sat.Mu {A B : Ctx} {x jt : Item} {k : Nat} (h : Sat (A ++ x :: B.set k jd) w) (hk : B[k]? = some jt) (hl : bk x jt) : Sat (A ++ B) w := by
 have hlt := (List.getElem?_eq_some_iff.1 hk).1
 refine h.tT (fun j q => (j < A.length ∧ q = j) ∨ (j = A.length + k ∧ q = A.length) ∨ (A.length ≤ j ∧ j ≠ A.length + k ∧ q = j + 1)) (fun j kt hj => ?_) (fun j k q hjk h1 h2 => by omega)
 by_cases e : j < A.length
 ·rw [List.getElem?_append_left e] at hj
  exact .inr ⟨j, kt, .inl ⟨e, rfl⟩, by rw [List.getElem?_append_left e]; exact hj, bk.refl⟩
 ·have e' : A.length ≤ j := by omega
  rw [List.getElem?_append_right e'] at hj
  by_cases e2 : j = A.length + k
  ·subst e2
   rw [show A.length + k - A.length = k by omega, hk] at hj
   cases hj
   exact .inr ⟨A.length, x, .inr (.inl ⟨rfl, rfl⟩), by simp, hl⟩
  ·refine .inr ⟨j + 1, kt, .inr (.inr ⟨e', e2, rfl⟩), ?_, bk.refl⟩
   rw [List.getElem?_append_right (by omega)]
   have : j + 1 - A.length = (j - A.length) + 1 := by omega
   rw [this, List.getElem?_cons_succ, List.getElem?_set_ne (by omega)]
   exact hj
theorem Sat.le2 {A B : Ctx} {x y : Item} (h : Sat (A ++ x :: B) w) (hl : bk x y) : Sat (A ++ y :: B) w := by
 refine h.tT (fun j k => j = k) (fun j jt hj => ?_) (fun j k q hjk h1 h2 => by omega)
 by_cases e : j < A.length
 ·rw [List.getElem?_append_left e] at hj
  exact .inr ⟨j, jt, rfl, by rw [List.getElem?_append_left e]; exact hj, bk.refl⟩
 ·have e' : A.length ≤ j := by omega
  rw [List.getElem?_append_right e'] at hj
  by_cases e2 : j = A.length
  ·subst e2
   simp at hj
   subst hj
   exact .inr ⟨A.length, x, rfl, by simp, hl⟩
  ·refine .inr ⟨j, jt, rfl, ?_, bk.refl⟩
   rw [List.getElem?_append_right e']
   have : j - A.length = (j - A.length - 1) + 1 := by omega
   rw [this, List.getElem?_cons_succ] at hj ⊢
   exact hj
theorem Sat.leL {A B C : Ctx} (h : Sat (A ++ (B ++ C)) w) {B' : Ctx} (hl : dX bk B B') : Sat (A ++ (B' ++ C)) w := by
 induction hl generalizing A with
 | nil => exact h
 | @cons a b l m h1 _ ih =>
  have h2 : Sat (A ++ b :: (l ++ C)) w := h.le2 h1
  have h3 : Sat ((A ++ [b]) ++ (l ++ C)) w := by simpa using h2
  have := ih h3
  simpa using this
/-! things by places -/
def mkP : List (Option Nat) → Ctx → Ctx
 | [], Γ => Γ
 | none :: l, Γ => mkP l Γ
 | some i :: l, Γ => (mkP l Γ).set i jd
def Ndp : List (Option Nat) → Prop
 | [] => True
 | none :: l => Ndp l
 | some i :: l => some i ∉ l ∧ Ndp l
theorem Be : ∀ {l : List (Option Nat)} {Γ : Ctx}, (mkP l Γ).length = Γ.length
 | [], _ => rfl
 | none :: l, Γ => Be (l := l)
 | some j :: l, Γ => by
  show ((mkP l Γ).set j jd).length = _
  rw [List.length_set, Be]
theorem rQ : ∀ {l : List (Option Nat)} {Γ : Ctx} {i : Nat}, some i ∉ l → (mkP l Γ)[i]? = Γ[i]?
 | [], _, _, _ => rfl
 | none :: l, Γ, i, h => rQ (l := l) (fun h' => h (List.mem_cons_of_mem _ h'))
 | some j :: l, Γ, i, h => by
  have e : j ≠ i := fun e => h (by rw [e]; exact List.mem_cons_self ..)
  show ((mkP l Γ).set j jd)[i]? = _
  rw [List.getElem?_set_ne e]
  exact rQ (fun h' => h (List.mem_cons_of_mem _ h'))
theorem vV {x : Item} : ∀ {l : List (Option Nat)} {Γ : Ctx} {i : Nat}, some i ∉ l → (mkP l Γ).set i x = mkP l (Γ.set i x)
 | [], _, _, _ => rfl
 | none :: l, Γ, i, h => vV (l := l) (fun h' => h (List.mem_cons_of_mem _ h'))
 | some j :: l, Γ, i, h => by
  have e : j ≠ i := fun e => h (by rw [e]; exact List.mem_cons_self ..)
  show ((mkP l Γ).set j jd).set i x = (mkP l (Γ.set i x)).set j jd
  rw [List.set_comm _ _ e, vV (fun h' => h (List.mem_cons_of_mem _ h'))]
def PI (Γ : Ctx) (w : World) (o : Option Nat) (x : Bool × Item) : Prop := match o with
 | some i => ∃ jt, Γ[i]? = some jt ∧ bk jt x.2
 | none => x.2.own = [] ∧ x.2.P Γ.M w
abbrev cX (I : Its) : Ctx := I.map (·.2)
def fR (I : Its) : Ctx := I.map fun x => ifS x.1 jd x.2
theorem nT (h : Sat Γ w) : ∀ {L : List (Option Nat)} {I : Its}, dX (PI Γ w) L I → Ndp L → Sat (cX I ++ mkP L Γ) w ∧ ∀ b, Ctx.M (cX I ++ mkP L Γ) b → Γ.M b
 | _, _, .nil, _ => ⟨h, fun _ h => h⟩
 | _, _, .cons (a := none) (b := x) h1 hr, hd => by
  obtain ⟨ih, ihM⟩ := nT h hr hd
  refine ⟨ih.add h1.1 (x.2.cd h1.2 (Mv.weaken w ihM) (fun _ _ => rfl) (eb.refl w)), fun b hb => ?_⟩
  rcases Ctx.sQ.1 hb with hb | hb
  ·rw [h1.1] at hb; cases hb
  ·exact ihM b hb
 | _, _, .cons (a := some i) (b := x) (l := l) (m := m) h1 hr, hd => by
  obtain ⟨ih, ihM⟩ := nT h hr hd.2
  obtain ⟨jt, hj, hl⟩ := h1
  have hi : (cX m ++ mkP l Γ)[(cX m).length + i]? = some jt := by
   rw [List.getElem?_append_right (by omega), show (cX m).length + i - (cX m).length = i by omega, rQ hd.1]; exact hj
  have h2 := ih.pull hi hl
  rw [List.set_append_right _ _ (by omega), show (cX m).length + i - (cX m).length = i by omega] at h2
  refine ⟨h2, fun b hb => ?_⟩
  rcases Ctx.sQ.1 hb with hb | hb
  ·exact Ctx.kI hj (hl.1 b hb)
  ·obtain ⟨it, h3, h4⟩ := hb
   refine ihM b ?_
   rcases List.mem_append.1 h3 with h3 | h3
   ·exact ⟨it, List.mem_append_left _ h3, h4⟩
   ·rcases List.mem_or_eq_of_mem_set h3 with h3 | h3
    ·exact ⟨it, List.mem_append_right _ h3, h4⟩
    ·subst h3; cases h4
def qd : List (Option Nat) → Its → List (Option Nat)
 | o :: L, x :: I => (ifS x.1 o none) :: qd L I
 | _, _ => []
def sc (Γ : Ctx) (o : Option Nat) (x : Bool × Item) : Prop := match o with
 | some i => ∃ jt, Γ[i]? = some jt ∧ (x.1 = false → bk x.2 jt)
 | none => True
theorem sc.set {Γ : Ctx} {i : Nat} {y : Item} : ∀ {L : List (Option Nat)} {I : Its}, dX (sc Γ) L I → some i ∉ L → dX (sc (Γ.set i y)) L I
 | _, _, .nil, _ => .nil
 | _, _, .cons (a := none) h1 hr, hn => .cons trivial (sc.set hr (fun h => hn (List.mem_cons_of_mem _ h)))
 | _, _, .cons (a := some j) h1 hr, hn => by
  obtain ⟨jt, hj, hl⟩ := h1
  have e : i ≠ j := fun e => hn (by rw [e]; exact List.mem_cons_self ..)
  exact .cons ⟨jt, by rw [List.getElem?_set_ne e]; exact hj, hl⟩ (sc.set hr (fun h => hn (List.mem_cons_of_mem _ h)))
theorem AO {i : Nat} : ∀ {L : List (Option Nat)} {I : Its}, some i ∈ qd L I → some i ∈ L
 | [], _, h => by cases h
 | o :: L, [], h => by cases h
 | o :: L, x :: I, h => by
  rcases List.mem_cons.1 h with h | h
  ·cases hx : x.1
   ·rw [hx] at h; cases h
   ·rw [hx] at h; exact h ▸ List.mem_cons_self ..
  ·exact List.mem_cons_of_mem _ (AO h)
theorem va {A : Ctx} : ∀ {L : List (Option Nat)} {I : Its} {Γ : Ctx}, dX (sc Γ) L I → Ndp L → Sat (A ++ (fR I ++ mkP L Γ)) w → Sat (A ++ mkP (qd L I) Γ) w
 | _, _, _, .nil, _, h => h
 | _, _, _, .cons (a := none) (b := x) (l := l) (m := m) h1 hr, hd, h => by
  have h2 : Sat (A ++ (fR m ++ mkP l _)) w := Sat.yv h
  have := va hr hd h2
  cases hx : x.1 <;> simpa [qd, hx, mkP] using this
 | _, _, Γ, .cons (a := some i) (b := x) (l := l) (m := m) h1 hr, hd, h => by
  obtain ⟨jt, hj, hl⟩ := h1
  cases hx : x.1
  ·have e1 : fR (x :: m) ++ mkP (some i :: l) Γ = x.2 :: (fR m ++ mkP l Γ).set (m.length + i) jd := by
    show (ifS x.1 jd x.2) :: (fR m ++ (mkP l Γ).set i jd) = _
    rw [hx, List.set_append_right _ _ (by simp [fR])]
    simp [fR]
   rw [e1] at h
   have h2 := h.Mu (jt := jt) (by
    rw [List.getElem?_append_right (by simp [fR])]
    have : m.length + i - (fR m).length = i := by simp [fR]
    rw [this, rQ hd.1]; exact hj) (hl hx)
   have := va hr hd.2 h2
   simpa [qd, hx, mkP] using this
  ·have e1 : fR (x :: m) ++ mkP (some i :: l) Γ = jd :: (fR m ++ mkP l (Γ.set i jd)) := by
    show (ifS x.1 jd x.2) :: (fR m ++ (mkP l Γ).set i jd) = _
    rw [hx, vV hd.1]
   rw [e1] at h
   have h2 := Sat.yv h
   have := va (sc.set hr hd.1) hd.2 h2
   rw [← vV (fun h => hd.1 (AO h))] at this
   simpa [qd, hx, mkP] using this
end
/-! sources by places -/
def cK (G H : List Row) (s : Src) : Option Nat := match s with
 | .top i => (match G[i]? with
  | some r => ifS r.cS none (some i)
  | none => none)
 | .frz i => (match H[i]? with
  | some r => ifS r.cS none (some (G.length + i))
  | none => none)
 | _ => none
def iH (n : Nat) : List (Option Nat) → Bool
 | [] => false
 | o :: l => (match o with
  | some m => Nat.beq n m
  | none => false) || iH n l
theorem zM {n : Nat} : {l : List (Option Nat)} → (iH n l = true ↔ some n ∈ l)
 | [] => by simp [iH]
 | none :: l => by simp [iH, zM]
 | some m :: l => by
  simp only [iH, Bool.or_eq_true, List.mem_cons, Option.some.injEq]
  rw [zM, Nat.beq_eq]
def sf : List (Option Nat) → Bool
 | [] => true
 | o :: l => (match o with
  | some i => !(iH i l)
  | none => true) && sf l
theorem nS : {l : List (Option Nat)} → sf l = true → Ndp l
 | [], _ => trivial
 | none :: l, h => by
  simp only [sf, Bool.true_and] at h
  exact nS (l := l) h
 | some i :: l, h => by
  simp only [sf, Bool.and_eq_true, Bool.not_eq_true'] at h
  exact ⟨(fun h' => by rw [zM.2 h'] at h; cases h.1), nS h.2⟩
def OO (n : Nat) : List (Bool × Option Nat) → Bool
 | [] => true
 | (m, o) :: l => (match o with
  | some i => ifS m (Nat.blt i n) true
  | none => true) && OO n l
section
variable {ρ : Nms} {T : Tbl} {G H : List Row} {Φ : Ctx} {w : World}
theorem Src.pos {s : Src} {r : Row} (h : s.at_ G H r) (hp : r.cS = false) : ∃ i, cK G H s = some i ∧ (items ρ T G ++ (items ρ T H ++ Φ))[i]? = some (r.item ρ T) := by
 cases s with
 | top i =>
  have h : G[i]? = some r := h
  exact ⟨i, by simp only [cK, h, hp], iL h⟩
 | frz i =>
  have h : H[i]? = some r := h
  exact ⟨G.length + i, by simp only [cK, h, hp], Cl h⟩
 | nilI => exact h.elim
 | nilO => exact h.elim
 | nilM => exact h.elim
theorem Src.O9 {s : Src} {r : Row} (h : s.at_ G H r) (hp : r.cS = true) : cK G H s = none := by
 cases s with
 | top i =>
  have h : G[i]? = some r := h
  simp only [cK, h, hp]
 | frz i =>
  have h : H[i]? = some r := h
  simp only [cK, h, hp]
 | nilI => exact h.elim
 | nilO => exact h.elim
 | nilM => exact h.elim
theorem Src.OQ {s : Src} (h : ∀ r, ¬ s.at_ G H r) : cK G H s = none := by
 cases s with
 | top i =>
  cases hg : G[i]? with
  | none => simp only [cK, hg]
  | some r => exact (h r hg).elim
 | frz i =>
  cases hg : H[i]? with
  | none => simp only [cK, hg]
  | some r => exact (h r hg).elim
 | nilI => rfl
 | nilO => rfl
 | nilM => rfl
theorem vw (hs : Sat (items ρ T G ++ (items ρ T H ++ Φ)) w) : ∀ {S : List (Bool × Src)} {I : Its}, dX (SI ρ T G H) S I → dX (PI (items ρ T G ++ (items ρ T H ++ Φ)) w) (S.map fun x => cK G H x.2) I ∧ dX (sc (items ρ T G ++ (items ρ T H ++ Φ))) (S.map fun x => cK G H x.2) I
 | _, _, .nil => ⟨.nil, .nil⟩
 | _, _, .cons (a := a) (b := x) h1 hr => by
  obtain ⟨i1, i2⟩ := vw hs hr
  obtain ⟨e, h2⟩ := h1
  rcases h2 with ⟨k1, k2, k3⟩ | ⟨r, k1, k2, k3, k4⟩
  ·have hp := Src.OQ k3
   refine ⟨.cons ?_ i1, .cons ?_ i2⟩
   ·show PI _ _ (cK G H a.2) x; rw [hp]; exact ⟨k1, k2 _ _⟩
   ·show sc _ (cK G H a.2) x; rw [hp]; trivial
  ·cases hpe : r.cS
   ·obtain ⟨i, p1, p2⟩ := Src.pos (ρ := ρ) (T := T) (Φ := Φ) k1 hpe
    refine ⟨.cons ?_ i1, .cons ?_ i2⟩
    ·show PI _ _ (cK G H a.2) x; rw [p1]; exact ⟨_, p2, k2⟩
    ·show sc _ (cK G H a.2) x; rw [p1]; exact ⟨_, p2, fun _ => k4 hpe⟩
   ·have hp := Src.O9 k1 hpe
    refine ⟨.cons ?_ i1, .cons ?_ i2⟩
    ·show PI _ _ (cK G H a.2) x; rw [hp]; exact ⟨k3 hpe, k2.2 _ _ (Src.holds hs k1)⟩
    ·show sc _ (cK G H a.2) x; rw [hp]; trivial
def m7 (is : List (Option Nat)) : Nat → List Row → List Row
 | _, [] => []
 | k, r :: G => (ifS (iH k is) .gone r) :: m7 is (k + 1) G
def ju : List Row → List Row
 | [] => []
 | r :: G => (match r with
  | .gone => ju G
  | r => r :: ju G)
theorem tW {B : Ctx} : ∀ {G : List Row} {A : Ctx}, Sat (A ++ (items ρ T G ++ B)) w → Sat (A ++ (items ρ T (ju G) ++ B)) w
 | [], _, h => h
 | r :: G, A, h => by
  unfold ju
  split
  ·exact tW (G := G) (Sat.yv h)
  ·have h' : Sat ((A ++ [r.item ρ T]) ++ (items ρ T G ++ B)) w := by simpa [items] using h
   have := tW (G := G) h'
   simpa [items] using this
theorem yU {L : List (Option Nat)} : ∀ {G : List Row} {k : Nat}, items ρ T (m7 L k G) = (items ρ T G).mapIdx fun i it => ifS (iH (k + i) L) jd it
 | [], _ => rfl
 | r :: G, k => by
  simp only [m7, items, List.map_cons, List.mapIdx_cons]
  have := yU (L := L) (G := G) (k := k + 1)
  simp only [items] at this
  rw [this]
  congr 1
  ·simp only [Nat.add_zero]; cases iH k L <;> rfl
  ·congr 1
   funext i it
   rw [Nat.add_right_comm, Nat.add_assoc]
theorem CQ : ∀ {L : List (Option Nat)} {Γ : Ctx} {j : Nat}, (mkP L Γ)[j]? = (Γ[j]?).map fun it => ifS (iH j L) jd it
 | [], Γ, j => by
  show Γ[j]? = _
  cases Γ[j]? <;> rfl
 | none :: l, Γ, j => CQ (L := l)
 | some i :: l, Γ, j => by
  show ((mkP l Γ).set i jd)[j]? = _
  by_cases e : i = j
  ·subst e
   rw [List.getElem?_set]
   have hl : (mkP l Γ).length = Γ.length := Be
   have e1 : iH i (some i :: l) = true := by simp [iH]
   rw [e1]
   simp only [if_true, hl]
   by_cases hi : i < Γ.length
   ·rw [List.getElem?_eq_getElem hi]; simp [hi]
   ·rw [List.getElem?_eq_none (by omega)]; simp [hi]
  ·rw [List.getElem?_set_ne e, CQ (L := l)]
   have e2 : Nat.beq j i = false := by
    cases hb : Nat.beq j i
    ·rfl
    ·exact absurd (Nat.eq_of_beq_eq_true hb).symm e
   simp [iH, e2]
end
end Go.Proofs.YtdhgpnejphlfpaaGreatDoor
namespace Go.Proofs.YtdhgpnejphlfpaaGreatDoor
open Go.Lib
structure Ent where
 f : FuncId
 ps : List Pt
 r : Pt
 os : List (Bool × Nat × Pt)
 m : Tup (lX ps) → Option (Tup (hol r ++ gQ os))
def Kp : Ty → List (Option TypeId) → Nat × List (Option TypeId)
 | .p a b, o => match Kp a o with
  | (n, o) => match Kp b o with
   | (m, o) => (n + m, o)
 | .l _, o => (1, o.tail)
 | .ex, o => (1, o.tail)
 | _, o => (0, o)
mutual
def KZ : Pt → Nat
 | .sli _ | .own _ _ _ | .mp _ _ _ | .it => 1
 | .bx _ _ _ vs => Aa vs + 1
 | .agg l | .tup l => Aa l
 | .fn _ a b => Aa a + Aa b
 | .ifc _ p => KZ p
 | .dat t o => (Kp t o).1
 | _ => 0
def Aa : List Pt → Nat
 | [] => 0
 | p :: l => KZ p + Aa l
end
def ixN : List Pt → Nat → Nat
 | p :: l, i + 1 => KZ p + ixN l i
 | _, _ => 0
def AI (X : Bxs) (n : Nat) : List Value := match X with
 | [] => []
 | x :: X => ifS (Nat.beq x.1 n) x.2 (AI X n)
def xx (X : List (Nat × List AV)) (n : Nat) : List AV := match X with
 | [] => []
 | x :: X => ifS (Nat.beq x.1 n) x.2 (xx X n)
theorem BU {ρ : Nms} {n : Nat} : {X : List (Nat × List AV)} → AI (db ρ X) n = AV.ah ρ (xx X n)
 | [] => by simp [AI, xx, AV.ah]
 | x :: X => by
  show (ifS (Nat.beq x.1 n) (AV.ah ρ x.2) (AI (db ρ X) n)) = AV.ah ρ (ifS (Nat.beq x.1 n) x.2 (xx X n))
  cases Nat.beq x.1 n
  ·exact BU
  ·rfl
def fxS (ps : List Pt) (vs : List Value) (X : Bxs) (i : Nat) : Fx := (vs[i]?).map fun v => (v, AI X (ixN ps i))
def fxK (ps : List Pt) (vs : List AV) (X : List (Nat × List AV)) (i : Nat) : FxA := match vs[i]? with
 | some v => some (v, xx X (ixN ps i))
 | none => none
theorem Bt {ρ : Nms} : {l : List AV} → {i : Nat} → (AV.ah ρ l)[i]? = (l[i]?).map (AV.val ρ)
 | [], i => by simp [AV.ah]
 | v :: l, 0 => by simp [AV.ah]
 | v :: l, i + 1 => by simp only [AV.ah, List.getElem?_cons_succ]; exact Bt
theorem FF {ρ : Nms} {ps : List Pt} {vs : List AV} {X : List (Nat × List AV)} {i : Nat} : fxS ps (AV.ah ρ vs) (db ρ X) i = jV ρ (fxK ps vs X i) := by
 unfold fxS fxK
 rw [Bt]
 cases vs[i]? with
 | none => rfl
 | some v => simp [BU]
def Ent.Ok (P : Program) (Γg : Ctx) (e : Ent) : Prop := ia P e.f ∧ ∀ s r, e.m s = some r → ∀ (vs : List Value) (N : List Nm) (I : Its) (X : Bxs) (Φ : Ctx) (w : World),
 qp e.ps vs [] [] (unt _ s) I X N → Sat (cX I ++ Φ) w → (∀ it ∈ Γg, it ∈ Φ) →
 o6 P e.f vs w fun v w' => ∃ (N1 N2 : List Nm) (D1 D2 : List Dyn) (I1 I2 : Its) (X1 X2 : Bxs), Sem e.r v none none N D1 I1 X1 N1 ∧ ui (fxS e.ps vs X) (fun i => vs[i]?) e.os N1 D2 I2 X2 N2 ∧ D1 ++ D2 = unt _ r ∧
  Sat ((cX I1 ++ cX I2) ++ (fR I ++ Φ)) w'
def cellsOf (G H : List Row) (j : Nat) : List AV := match fE G H (yF j) with
 | some (_, .box _ _ cs) => cs
 | _ => []
def K6 : (t : Ty) → List AV → List (Option TypeId) → List Nat × List AV × List (Option TypeId)
 | .i _, vs, o | .bo, vs, o | .s, vs, o => ([], vs.tail, o)
 | .p a b, vs, o => match K6 a vs o with
  | (i, vs, o) => match K6 b vs o with
   | (j, vs, o) => (i ++ j, vs, o)
 | .l _, vs, o => (match o with
  | none :: _ => (match vs with
   | v :: _ => v.sls
   | [] => [])
  | _ => [], vs.tail, o.tail)
 | .ex, vs, o => (match o with
  | none :: _ => (match vs with
   | _ :: _ :: _ :: v :: _ => v.sls
   | _ => [])
  | _ => [], vs.drop 4, o.tail)
 | _, vs, o => ([], vs, o)
mutual
def mE (G H : List Row) : Pt → AV → List Nat
 | .sli _, v => v.sls
 | .bx _ _ _ vs, v => (match v with
  | .ptr j _ => dK G H vs (cellsOf G H j)
  | _ => [])
 | .agg l, v => (match v with
  | .agg vs => dK G H l vs
  | _ => [])
 | .tup l, v => (match v with
  | .tuple vs => dK G H l vs
  | _ => [])
 | .fn _ a b, v => (match v with
  | .fn _ a' b' => dK G H a a' ++ dK G H b b'
  | _ => [])
 | .ifc _ p, v => (match v with
  | .ifc _ u => mE G H p u
  | _ => [])
 | .dat t o, v => (match v with
  | .agg cs => (K6 t cs o).1
  | _ => [])
 | _, _ => []
def dK (G H : List Row) : List Pt → List AV → List Nat
 | [], _ => []
 | p :: l, vs => (match vs with
  | v :: vs => mE G H p (pO G H v) ++ dK G H l vs
  | [] => [])
end
def ur (T : Tbl) (g : GK) : List Row → List Row
 | [] => []
 | r :: G => (match r with
  | .sli (some k) id t l b => .sli (ifS (T.imp g (some k)) none (some k)) id t l b
  | r => r) :: ur T g G
def rF (g : GK) (r : Row) : Row := match g with
 | none => r
 | some g => (match r with
  | .sli none id t l b => .sli (some g) id t l b
  | .own id t _ l _ => .sli (some g) id t l false
  | r => r)
def slB : Row → Bool
 | .sli none _ _ _ _ | .own .. => true
 | _ => false
def Bx : List (Bool × Row) → Bool
 | [] => true
 | x :: l => slB x.2 && Bx l
def mQ (B : List (Option Nat)) (c : Nat) (n : Nat) : Nat := match B[n]? with
 | some (some j) => j
 | _ => c + n
def ltB (c : Nat) : List (Option Nat) → Bool
 | [] => true
 | o :: l => (match o with
  | some j => Nat.blt j c
  | none => true) && ltB c l
def zv (c : Nat) : List (Nat × List AV) → Bool
 | [] => true
 | x :: l => AV.bJ c x.2 && zv c l
def sT (G H : List Row) : List (Bool × Src) → List (Option Nat)
 | [] => []
 | x :: S => (ifS x.1 (cK G H x.2) none) :: sT G H S
def ltT (n : Nat) : List (Option Nat) → Bool
 | [] => true
 | o :: l => (match o with
  | some i => Nat.blt i n
  | none => true) && ltT n l
def AH : List (Option Nat) → Bool
 | [] => true
 | o :: l => (match o with
  | some _ => false
  | none => true) && AH l
def yk {R : Type} (_fr : Fr) (st : StB) (g : GK) (d : Option Tmp) (args : List AV) (e : Ent) (mr : MR) (G1 : List Row) (K : Go_ R) (r : Tup (hol e.r ++ gQ e.os)) : Option R :=
 match fill (mQ mr.B st.c) e.r none none mr.B.length (unt _ r) with
 | ⟨v, R1, k, D, _⟩ => match fO (mQ mr.B st.c) (fxK e.ps args mr.X) e.os k D with
  | ⟨_, R2, k, _⟩ => ifS (match g with | none => true | some _ => Bx R1) (K { st with c := st.c + k, E := dh d g v st.E, G := (R1 ++ R2).map (fun x => rF g x.2) ++ G1 }) none
def GP {R : Type} (T : Tbl) (fr : Fr) (st : StB) (g : GK) (d : Option Tmp) (args : List AV) (e : Ent) (K : Go_ R) : Option (Option R) :=
 match g with
 | none => (match mts (frz (dK st.G fr.H e.ps args) st.G) fr.H e.ps args [] [] with
  | some mr => ifS (sf (mr.S.map fun x => cK (frz (dK st.G fr.H e.ps args) st.G) fr.H x.2) && ltT (frz (dK st.G fr.H e.ps args) st.G).length (sT (frz (dK st.G fr.H e.ps args) st.G) fr.H mr.S) && ltB st.c mr.B && AV.bJ st.c args && zv st.c mr.X) (match tup (lX e.ps) mr.D with
   | some s => some ((e.m s).bind (yk fr st none d args e mr (ju (m7 (sT (frz (dK st.G fr.H e.ps args) st.G) fr.H mr.S) 0 (frz (dK st.G fr.H e.ps args) st.G))) K))
   | none => none) none
  | none => none)
 | some gk => (match mts (ur T (some gk) (frz (dK st.G fr.H e.ps args) st.G)) fr.H e.ps args [] [] with
  | some mr => ifS (sf (mr.S.map fun x => cK (ur T (some gk) (frz (dK st.G fr.H e.ps args) st.G)) fr.H x.2) && AH (sT (ur T (some gk) (frz (dK st.G fr.H e.ps args) st.G)) fr.H mr.S) && e.os.isEmpty && ltB st.c mr.B && AV.bJ st.c args && zv st.c mr.X) (match tup (lX e.ps) mr.D with
   | some s => some (ax (T.get (some gk)) (G9 _) (e.m s) (yk fr st (some gk) d args e mr (frz (dK st.G fr.H e.ps args) st.G) K))
   | none => none) none
  | none => none)
def zP {R : Type} (T : Tbl) (fr : Fr) (st : StB) (g : GK) (d : Option Tmp) (f : FuncId) (args : List AV) (K : Go_ R) : List Ent → Option R
 | [] => none
 | e :: tb => ifS (Nat.beq e.f f) (match GP T fr st g d args e K with
   | some r => r
   | none => zP T fr st g d f args K tb) (zP T fr st g d f args K tb)
section
variable {ρ : Nms} {T : Tbl} {G H : List Row} {Φ : Ctx} {w : World}
theorem Eh {s : Src} {i : Nat} (h : cK G H s = some i) : i < G.length + H.length := by
 cases s with
 | top j =>
  simp only [cK] at h
  split at h
  ·rename_i r hr
   obtain ⟨_, h2⟩ := Ha h
   cases h2
   have := (List.getElem?_eq_some_iff.1 hr).1
   omega
  ·cases h
 | frz j =>
  simp only [cK] at h
  split at h
  ·rename_i r hr
   obtain ⟨_, h2⟩ := Ha h
   cases h2
   have := (List.getElem?_eq_some_iff.1 hr).1
   omega
  ·cases h
 | nilI => cases h
 | nilO => cases h
 | nilM => cases h
theorem zF : ∀ {S : List (Bool × Src)} {I : Its}, dX (SI ρ T G H) S I → qd (S.map fun x => cK G H x.2) I = sT G H S
 | _, _, .nil => rfl
 | _, _, .cons (a := a) (b := x) h1 hr => by
  show (ifS x.1 (cK G H a.2) none) :: qd _ _ = (ifS a.1 (cK G H a.2) none) :: _
  rw [zF hr, h1.1]
theorem Bz {n : Nat} : ∀ {L : List (Option Nat)} {j : Nat}, ltT n L = true → iH j L = true → j < n
 | [], j, h, h' => by cases h'
 | none :: l, j, h, h' => by
  simp only [ltT, Bool.true_and] at h
  simp only [iH, Bool.false_or] at h'
  exact Bz h h'
 | some i :: l, j, h, h' => by
  simp only [ltT, Bool.and_eq_true, Nat.blt_eq] at h
  simp only [iH, Bool.or_eq_true] at h'
  rcases h' with h' | h'
  ·rw [Nat.eq_of_beq_eq_true h']; exact h.1
  ·exact Bz h.2 h'
theorem py {L : List (Option Nat)} {Δ : Ctx} (h : ltT G.length L = true) : mkP L (items ρ T G ++ Δ) = items ρ T (m7 L 0 G) ++ Δ := by
 apply List.ext_getElem?
 intro j
 rw [CQ, yU]
 by_cases hj : j < G.length
 ·rw [List.getElem?_append_left (by simpa [items] using hj), List.getElem?_append_left (by simpa [items] using hj), List.getElem?_mapIdx]
  simp
 ·have e : iH j L = false := by
   cases hm : iH j L
   ·rfl
   ·exact absurd (Bz h hm) hj
  rw [List.getElem?_append_right (by simp [items]; omega), List.getElem?_append_right (by simp [items]; omega), e]
  have e2 : (items ρ T G).length = ((items ρ T G).mapIdx fun i it => ifS (iH (0 + i) L) jd it).length := by simp
  rw [← e2]
  cases Δ[j - (items ρ T G).length]? <;> rfl
theorem DP : ∀ {L : List (Option Nat)} {Γ : Ctx}, AH L = true → mkP L Γ = Γ
 | [], _, _ => rfl
 | none :: l, Γ, h => by
  simp only [AH, Bool.true_and] at h
  exact DP (L := l) h
 | some i :: l, Γ, h => by simp [AH] at h
theorem Dh {g : GK} (hg : T.get g = true) {B : Ctx} : ∀ {G : List Row} {A : Ctx}, Sat (A ++ (items ρ T G ++ B)) w → Sat (A ++ (items ρ T (ur T g G) ++ B)) w
 | [], _, h => h
 | r :: G, A, h => by
  have step : ∀ r' : Row, bk (r.item ρ T) (r'.item ρ T) → Sat (A ++ (items ρ T (r' :: ur T g G) ++ B)) w := fun r' hl => by
   have h1 : Sat (A ++ r'.item ρ T :: (items ρ T G ++ B)) w := Sat.le2 h hl
   have h' : Sat ((A ++ [r'.item ρ T]) ++ (items ρ T G ++ B)) w := by simpa [items] using h1
   have := Dh hg (G := G) h'
   simpa [items] using this
  unfold ur
  split
  ·rename_i k id t l b
   refine step _ ?_
   cases hi : T.imp g (some k)
   ·exact bk.refl
   ·refine ⟨fun _ h => h, fun M w h _ => h (Tbl.kj hi hg)⟩
  ·exact step _ bk.refl
theorem F5 {g : GK} : ∀ {G : List Row}, dX bk (items ρ T (ur T g G)) (items ρ T G)
 | [] => .nil
 | r :: G => by
  show dX bk (items ρ T (ur T g (r :: G))) (r.item ρ T :: items ρ T G)
  unfold ur
  refine .cons ?_ F5
  split
  ·rename_i k id t l b
   cases hi : T.imp g (some k)
   ·exact bk.refl
   ·exact ⟨fun _ h => h, fun M w h _ => h Tbl.get_none⟩
  ·exact bk.refl
theorem DT {g : Nat × Bool} {B : Ctx} : ∀ {R : List (Bool × Row)} {A : Ctx}, Bx R = true → Sat (A ++ (items ρ T (R.map (·.2)) ++ B)) w → Sat (A ++ (items ρ T (R.map fun x => rF (some g) x.2) ++ B)) w
 | [], _, _, h => h
 | (m, r) :: R, A, hb, h => by
  simp only [Bx, Bool.and_eq_true] at hb
  have step : Sat (A ++ (rF (some g) r).item ρ T :: (items ρ T (R.map (·.2)) ++ B)) w := by
   have h0 : Sat (A ++ r.item ρ T :: (items ρ T (R.map (·.2)) ++ B)) w := h
   cases r with
   | sli k id t l b =>
    cases k with
    | none => exact h0.le2 ⟨fun _ h => h, fun M w h _ => h Tbl.get_none⟩
    | some k => simp [slB] at hb
   | own id t e l ver =>
    have hi : (A ++ (Row.own id t e l ver).item ρ T :: (items ρ T (R.map (·.2)) ++ B))[A.length]? = some (rZ t.rep e (ρ id).v l ((ρ ver).y = ⟨.l t, l⟩)) := by simp [Row.item]
    have h2 := h0.upd hi (new := (rF (some g) (Row.own id t e l ver)).item ρ T) ((Ext.refl w).chg _) (fun b hb => by cases hb) (fun M' m hn => fun _ => ⟨(h0.at_ hi).1.freeze (fun b hb => hn b hb (fun hb => by cases hb)) m, fun hb => by cases hb⟩)
    simpa using h2
   | _ => simp [slB] at hb
  have h' : Sat ((A ++ [(rF (some g) r).item ρ T]) ++ (items ρ T (R.map (·.2)) ++ B)) w := by simpa using step
  have := DT (g := g) hb.2 h'
  simpa [items] using this
theorem v5 {g : Nat × Bool} (hg : T.get (some g) = false) : ∀ {R : List (Bool × Row)}, Bx R = true → ∀ it ∈ items ρ T (R.map fun x => rF (some g) x.2), it.cS = true ∧ ∀ M w, it.P M w
 | [], _, it, h => by cases h
 | (m, r) :: R, hb, it, h => by
  simp only [Bx, Bool.and_eq_true] at hb
  rw [List.map_cons, items, List.map_cons] at h
  rcases List.mem_cons.1 h with rfl | h
  ·cases r with
   | sli k id t l b =>
    cases k with
    | none => exact ⟨rfl, fun M w h => by rw [hg] at h; cases h⟩
    | some k => simp [slB] at hb
   | own id t e l ver => exact ⟨rfl, fun M w h => by rw [hg] at h; cases h⟩
   | _ => simp [slB] at hb
  ·exact v5 hg hb.2 it h
theorem dX.rw {R : List (Bool × Row)} {I : Its} (h : dX (RwI ρ T) R I) : dX bk (cX I) (items ρ T (R.map (·.2))) := by
 induction h with
 | nil => exact .nil
 | cons h1 _ ih => exact .cons h1.2.1 ih
theorem AD {R : List (Bool × Row)} : (R.map fun x => rF none x.2) = R.map (·.2) := rfl
theorem BK {N N2 : List Nm} {B : List (Option Nat)} {c : Nat} (hN : NB ρ B N) (hp : Pre N N2) (hB : ltB c B = true) :
  pd (fun i => ifS (Nat.blt i c) (ρ i) ((N2[i - c]?).getD nm0)) (mQ B c) B.length N2 := by
 intro i a ha
 have hge : ∀ n, (ifS (Nat.blt (c + n) c) (ρ (c + n)) ((N2[c + n - c]?).getD nm0)) = (N2[n]?).getD nm0 := fun n => by
  have : Nat.blt (c + n) c = false := by
   cases hb : Nat.blt (c + n) c
   ·rfl
   ·simp only [Nat.blt_eq] at hb; omega
  rw [this, show c + n - c = n by omega]
 unfold mQ
 split
 ·rename_i j hj
  obtain ⟨a', h1, h2⟩ := hN.get hj
  have e1 := hp.at_ h1
  rw [ha] at e1
  cases e1
  have hlt : Nat.blt j c = true := by
   have key : ∀ (B : List (Option Nat)) (i : Nat), ltB c B = true → B[i]? = some (some j) → Nat.blt j c = true := fun B => by
    induction B with
    | nil => intro i _ h; simp at h
    | cons o l ih =>
     intro i h h'
     simp only [ltB, Bool.and_eq_true] at h
     cases i with
     | zero => simp at h'; subst h'; exact h.1
     | succ i => exact ih i h.2 (by simpa using h')
   exact key B i hB hj
  simp only [hlt]
  refine ⟨h2.1.symm, h2.2.1.symm, h2.2.2.symm, fun hle => ?_⟩
  have := (List.getElem?_eq_some_iff.1 hj).1
  omega
 ·simp only [hge, ha, Option.getD_some]
  exact ⟨trivial, trivial, trivial, fun _ => trivial⟩
theorem EH {ρ' : Nms} {c : Nat} (ha : aE c ρ ρ') : {X : List (Nat × List AV)} → zv c X = true → db ρ' X = db ρ X
 | [], _ => rfl
 | x :: X, h => by
  simp only [zv, Bool.and_eq_true] at h
  show (x.1, AV.ah ρ' x.2) :: db ρ' X = (x.1, AV.ah ρ x.2) :: db ρ X
  rw [AV.bH ha _ h.1, EH ha h.2]
end
section
variable {P : Program} {R : Type} {r : R} {K : Go_ R} {T : Tbl} {fr : Fr} {st : StB} {g : GK} {d : Option Tmp} {ρ : Nms} {Φ Γg : Ctx} {w : World} {ty : TypeId} {pos : String} {af : Array Edge} {gd : Option (Nat × Bool)}
theorem xR {e : Ent} {args : List AV} {mr : MR} {G1 : List Row} {q : Tup (hol e.r ++ gQ e.os)} {v : Value} {w' : World} {N N1 N2 : List Nm} {D1 D2 : List Dyn} {I1 I2 : Its} {X1 X2 : Bxs}
  (hl : st.low fr = true) (hG1 : bg st.c G1 = true) (hN : NB ρ mr.B N) (hB : ltB st.c mr.B = true) (hA : AV.bJ st.c args = true) (hX : zv st.c mr.X = true)
  (h1 : Sem e.r v none none N D1 I1 X1 N1) (h2 : ui (fxS e.ps (AV.ah ρ args) (db ρ mr.X)) (fun i => (AV.ah ρ args)[i]?) e.os N1 D2 I2 X2 N2) (hD : D1 ++ D2 = unt _ q)
  (hg : T.get g = true) (hs : Sat ((cX I1 ++ cX I2) ++ (items ρ T G1 ++ (items ρ T fr.H ++ Φ))) w') (hos : g = none ∨ e.os = []) (h : yk fr st g d args e mr G1 K q = some r) : aJ r K T fr st g d ρ Φ v w' := by
 have hp1 := pB _ _ _ _ _ _ _ _ _ h1
 have hp2 := zm _ _ _ _ _ _ h2
 have hnm := BK (N2 := N2) hN (hp1.trans hp2) hB
 have hag : aE st.c ρ (fun i => ifS (Nat.blt i st.c) (ρ i) ((N2[i - st.c]?).getD nm0)) := fun j hj => by
  have : Nat.blt j st.c = true := by simpa using hj
  simp only [this]
 generalize hρ : (fun i => ifS (Nat.blt i st.c) (ρ i) ((N2[i - st.c]?).getD nm0)) = ρ' at hnm hag
 have hlen : mr.B.length = N.length := hN.length
 obtain ⟨a1, a2, a3, a4, a5⟩ := uG (T := T) e.r v none none N D1 I1 X1 N1 h1 (hnm.pre hp2) (by omega) D2
 have h2' : ui (fun i => jV ρ' (fxK e.ps args mr.X i)) (fun i => (AV.ah ρ args)[i]?) e.os N1 D2 I2 X2 N2 := by
  have e1 : (fun i => jV ρ' (fxK e.ps args mr.X i)) = fxS e.ps (AV.ah ρ args) (db ρ mr.X) := by
   funext i
   rw [← AV.bH hag _ hA, ← EH hag hX, FF]
  rw [e1]; exact h2
 obtain ⟨b1, b2, b3, b4⟩ := zg (T := T) e.os N1 D2 I2 X2 N2 h2' hnm (Nat.le_trans (by omega) hp1.len) []
 unfold yk at h
 rw [← hD, hlen] at h
 generalize fill (mQ mr.B st.c) e.r none none N.length (D1 ++ D2) = L at a1 a2 a3 a4 a5 h
 obtain ⟨v', R1, k, DD, XX⟩ := L
 simp only at a1 a2 a3 a4 a5
 subst a2; subst a3
 dsimp only at h
 rw [List.append_nil] at b1 b2 b3 b4
 generalize fO (mQ mr.B st.c) (fxK e.ps args mr.X) e.os N1.length DD = L at b1 b2 b3 b4 h
 obtain ⟨E2, R2, k2, DD2⟩ := L
 simp only at b2 b3 b4
 dsimp only at h
 obtain ⟨c1, c2⟩ := aw h
 refine aJ.new (ρ' := ρ') hl c2 hag (by simp) rfl a1 ?_
 have hs2 : Sat ((items ρ' T (R1.map (·.2)) ++ items ρ' T (R2.map (·.2))) ++ (items ρ T G1 ++ (items ρ T fr.H ++ Φ))) w' := by
  have k1 := Sat.leL (A := []) (B := cX I1) (C := cX I2 ++ (items ρ T G1 ++ (items ρ T fr.H ++ Φ))) (by simpa using hs) a5.rw
  have k2 := Sat.leL (A := items ρ' T (R1.map (·.2))) (B := cX I2) (C := items ρ T G1 ++ (items ρ T fr.H ++ Φ)) k1 b4.rw
  simpa using k2
 have e3 := aX (T := T) hag hG1
 show Sat (items ρ' T ((R1 ++ R2).map (fun x => rF g x.2) ++ G1) ++ (items ρ T fr.H ++ Φ)) w'
 rw [aU, e3, List.map_append, aU]
 cases g with
 | none =>
  rw [AD, AD]
  simpa using hs2
 | some gk =>
  rcases hos with hos | hos
  ·cases hos
  ·have hR2 : R2 = [] := by
    have hI : I2 = [] := by rw [hos] at h2; exact h2.2.1
    rw [hI] at b4
    cases b4; rfl
   subst hR2
   have k3 := DT (g := gk) (A := []) (R := R1) (B := items ρ T G1 ++ (items ρ T fr.H ++ Φ)) c1 (by simpa using hs2)
   simpa using k3
theorem Kr {e : Ent} {fo : Operand} {xs : List Operand} {tys : Array TypeId} {a b vs : List AV} (hl : st.low fr = true) (hs : Sat (items ρ T st.G ++ (items ρ T fr.H ++ Φ)) w) (he : e.Ok P Γg) (hΓ : ∀ it ∈ Γg, it ∈ Φ)
  (hfo : opA T st.E fr.F g fo = some (.fn e.f a b)) (hxs : sE T st.E fr.F g xs = some vs) (h : GP T fr st g d (a ++ vs ++ b) e K = some (some r)) :
  Ok2 P T g (aq ρ T st.E fr.F) ⟨d, .call ⟨.value fo, xs.toArray, tys⟩, ty, pos, af, gd⟩ w (aJ r K T fr st g d ρ Φ) := by
 have hfo' := aC (ρ := ρ) hfo
 have hxs' := mc (ρ := ρ) hxs
 simp only [AV.val] at hfo'
 have hargs : AV.ah ρ (a ++ vs ++ b) = AV.ah ρ a ++ AV.ah ρ vs ++ AV.ah ρ b := by rw [df, df]
 generalize hag : a ++ vs ++ b = args at h hargs
 have hGl := pK (ids := dK st.G fr.H e.ps args) (StB.dN.1 hl).2.2.1
 replace hs := jL (ids := dK st.G fr.H e.ps args) hs
 have ent : T.get g = true → ∀ n act, Fits n (aq ρ T st.E fr.F) act → (execOp act.eval ⟨d, .call ⟨.value fo, xs.toArray, tys⟩, ty, pos, af, gd⟩).run P w = .ok (.enter e.f (AV.ah ρ args).toArray) w := fun hg n act hf => by
  have := tX (w := w) (dst := d) (ty := ty) (pos := pos) (af := af) (gd := gd) (tys := tys) he.1 hfo' hxs' hf hg
  rw [hargs]; exact this
 -- what is lent, taken and handed back
 have key : ∀ (Gu : List Row) (mr : MR) (s : Tup (lX e.ps)) (q : Tup (hol e.r ++ gQ e.os)), Sat (items ρ T Gu ++ (items ρ T fr.H ++ Φ)) w → mts Gu fr.H e.ps args [] [] = some mr → sf (mr.S.map fun x => cK Gu fr.H x.2) = true →
   tup (lX e.ps) mr.D = some s → e.m s = some q → o6 P e.f (AV.ah ρ args) w fun v w' => ∃ (N N1 N2 : List Nm) (D1 D2 : List Dyn) (I1 I2 : Its) (X1 X2 : Bxs), NB ρ mr.B N ∧ Sem e.r v none none N D1 I1 X1 N1 ∧
    ui (fxS e.ps (AV.ah ρ args) (db ρ mr.X)) (fun i => (AV.ah ρ args)[i]?) e.os N1 D2 I2 X2 N2 ∧ D1 ++ D2 = unt _ q ∧ Sat ((cX I1 ++ cX I2) ++ mkP (sT Gu fr.H mr.S) (items ρ T Gu ++ (items ρ T fr.H ++ Φ))) w' := fun Gu mr s q hs hm hnd htup hq => by
  obtain ⟨N, I, s1, n1, a1⟩ := qj hs e.ps args [] [] mr [] hm .nil
  rw [← pR _ htup] at s1
  obtain ⟨p1, p2⟩ := vw hs a1
  have hnd' := nS hnd
  obtain ⟨q1, _⟩ := nT hs p1 hnd'
  refine (he.2 s q hq (AV.ah ρ args) N I (db ρ mr.X) _ w (by simpa only [AV.ah] using s1) q1 (fun it hit => ?_)).mono ?_
  ·obtain ⟨k, hk⟩ := List.mem_iff_getElem?.1 (hΓ it hit)
   have hk2 : (items ρ T Gu ++ (items ρ T fr.H ++ Φ))[Gu.length + fr.H.length + k]? = some it := by
    rw [List.getElem?_append_right (by simp [items]; omega), List.getElem?_append_right (by simp [items]; omega)]
    have : Gu.length + fr.H.length + k - (items ρ T Gu).length - (items ρ T fr.H).length = k := by simp [items]; omega
    rw [this]; exact hk
   refine List.mem_of_getElem? (i := Gu.length + fr.H.length + k) ?_
   rw [rQ, hk2]
   intro hmem
   obtain ⟨x, _, hx⟩ := List.mem_map.1 hmem
   have := Eh hx
   omega
  ·intro v w' hv
   obtain ⟨N1, N2, D1, D2, I1, I2, X1, X2, c1, c2, c3, c4⟩ := hv
   have c5 := va p2 hnd' c4
   rw [zF a1] at c5
   exact ⟨N, N1, N2, D1, D2, I1, I2, X1, X2, n1, c1, c2, c3, c5⟩
 unfold GP at h
 cases g with
 | none =>
  dsimp only at h
  split at h
  ·rename_i mr hm
   obtain ⟨h1, h2⟩ := aw h
   simp only [Bool.and_eq_true] at h1
   obtain ⟨⟨⟨⟨h3, h4⟩, h5⟩, h6⟩, h7⟩ := h1
   split at h2
   ·rename_i s htup
    simp only [Option.some.injEq] at h2
    obtain ⟨q, hq, hk⟩ := rG h2
    refine .none_ (fun n act hf => .inr (.inr ⟨e.f, AV.ah ρ args, ent Tbl.get_none n act hf, (key _ mr s q hs hm h3 htup hq).mono fun v w' hv => ?_⟩))
    obtain ⟨N, N1, N2, D1, D2, I1, I2, X1, X2, n1, c1, c2, c3, c4⟩ := hv
    rw [py h4] at c4
    have c5 := tW c4
    refine xR hl ?_ n1 h5 h6 h7 c1 c2 c3 Tbl.get_none c5 (.inl rfl) hk
    have key2 : ∀ (L : List (Option Nat)) (G : List Row) (k : Nat), bg st.c G = true → bg st.c (ju (m7 L k G)) = true := fun L G => by
     induction G with
     | nil => intro k _; rfl
     | cons r G ih =>
      intro k hG
      simp only [bg, Bool.and_eq_true] at hG
      show bg st.c (ju ((ifS (iH k L) .gone r) :: m7 L (k + 1) G)) = true
      cases iH k L
      ·cases r <;> first | exact ih (k + 1) hG.2 | (simp only [ju, bg, Bool.and_eq_true]; exact ⟨hG.1, ih (k + 1) hG.2⟩)
      ·exact ih (k + 1) hG.2
    exact key2 _ _ _ hGl
   ·cases h2
  ·cases h
 | some gk =>
  dsimp only at h
  split at h
  ·rename_i mr hm
   obtain ⟨h1, h2⟩ := aw h
   simp only [Bool.and_eq_true] at h1
   obtain ⟨⟨⟨⟨⟨h3, h4⟩, h8⟩, h5⟩, h6⟩, h7⟩ := h1
   have hos : e.os = [] := by simpa using h8
   split at h2
   ·rename_i s htup
    simp only [Option.some.injEq] at h2
    obtain ⟨q, hq1, hq0, hk⟩ := AB h2
    refine ⟨fun hg => fun n act hf => .inr (.inr ⟨e.f, AV.ah ρ args, ent hg n act hf, (key _ mr s q (Dh (A := []) hg hs) hm h3 htup (hq1 hg)).mono fun v w' hv => ?_⟩), fun hg => ?_⟩
    ·obtain ⟨N, N1, N2, D1, D2, I1, I2, X1, X2, n1, c1, c2, c3, c4⟩ := hv
     rw [DP h4] at c4
     exact xR hl hGl n1 h5 h6 h7 c1 c2 c3 hg (Sat.leL c4 F5) (.inr hos) hk
    ·have e0 := hq0 hg
     subst e0
     unfold yk at hk
     generalize fill (mQ mr.B st.c) e.r none none mr.B.length (unt _ (G9 _)) = L at hk
     obtain ⟨v', R1, k, DD, XX⟩ := L
     dsimp only at hk
     have e2 : fO (mQ mr.B st.c) (fxK e.ps args mr.X) e.os k DD = ⟨[], [], k, DD⟩ := by rw [hos]; rfl
     rw [e2] at hk
     dsimp only at hk
     obtain ⟨d1, d2⟩ := aw hk
     refine ⟨_, aJ.old d2 (by simp) rfl rfl ?_⟩
     show Sat (items ρ T ((R1 ++ []).map (fun x : Bool × Row => rF (some gk) x.2) ++ _) ++ _) w
     rw [List.append_nil, aU, List.append_assoc]
     exact vc hs _ (fun it hit => ⟨(v5 hg d1 it hit).1, (v5 hg d1 it hit).2 _ _⟩)
   ·cases h2
  ·cases h
end
end Go.Proofs.YtdhgpnejphlfpaaGreatDoor
namespace Go.Proofs.YtdhgpnejphlfpaaGreatDoor
open Go.Lib
def z4 : (t : Ty) → List t.T → Option (List Value)
 | .s, xs => some (xs.map S)
 | .i k, xs => some (xs.map (.int k))
 | _, _ => none
def glI (p : Nat × Nat × Dyn) : Item := match p.2.2 with
 | ⟨.l t, xs⟩ => (match z4 t xs with
  | some cs => gl p.1 cs
  | none => jd)
 | _ => jd
def Cx.Γ (X : Cx) : Ctx := X.gls.map glI
def CI : List (Nat × Nat × Dyn) → Nat → Option Dyn
 | [], _ => none
 | p :: l, b => ifS (Nat.beq p.1 b) (some p.2.2) (CI l b)
theorem Eb : {l : List (Nat × Nat × Dyn)} → {b : Nat} → {d : Dyn} → CI l b = some d → ∃ p, p ∈ l ∧ p.1 = b ∧ p.2.2 = d
 | [], _, _, h => by cases h
 | p :: l, b, d, h => by
  unfold CI at h
  rcases fD h with ⟨h1, h2⟩ | ⟨_, h2⟩
  ·cases h2; exact ⟨p, List.mem_cons_self .., Nat.eq_of_beq_eq_true h1, rfl⟩
  ·obtain ⟨q, q1, q2⟩ := Eb h2
   exact ⟨q, List.mem_cons_of_mem _ q1, q2⟩
theorem H5 {M : Nat → Prop} {w : World} : {t : Ty} → {xs : List t.T} → {cs : List Value} → z4 t xs = some cs → ARd t.rep M w cs xs
 | .s, xs, _, h => by cases h; exact DB xs
 | .i k, xs, _, h => by cases h; exact Cd xs
 | .bo, _, _, h | .un, _, _, h | .n, _, _, h | .p _ _, _, _, h | .l _, _, _, h | .mp _ _, _, _, h | .ex, _, _, h => by cases h
structure GA where
 n : Nat
 e : TypeId
 b : Nat
 t : Ty
 xs : List t.T
 m : Nat
def gaA (X : Cx) (T : Tbl) (fr : Fr) (st : StB) (g : GK) (t : TypeId) (x : Operand) : Option GA := match X.P.underlying t with
 | some (.array n e) => (match tiA X.P e with
  | some z => (match opA T st.E fr.F g x with
   | some (.gp b) => (match CI X.gls b with
    | some ⟨.l u, xs⟩ => ifS ((z4 u xs).isSome && Nat.beq z.1 u.n' && Nat.beq n xs.length && Nat.blt 0 n) (some ⟨n, e, b, u, xs, z.1⟩) none
    | _ => none)
   | _ => none)
  | none => none)
 | _ => none
section
variable {X : Cx} {R : Type} {r : R} {K : Go_ R} {T : Tbl} {fr : Fr} {st : StB} {g : GK} {d : Tmp} {ρ : Nms} {Φ : Ctx} {w : World} {ty : TypeId} {pos : String} {af : Array Edge} {gd : Option (Nat × Bool)}
theorem IP {t : TypeId} {x : Operand} {q : GA} (hΓ : ∀ it ∈ X.Γ, it ∈ Φ) (hs : Sat (items ρ T st.G ++ (items ρ T fr.H ++ Φ)) w) (h : gaA X T fr st g t x = some q) :
  X.P.underlying t = some (.array q.n q.e) ∧ (∃ bytes z, TI X.P q.e q.m bytes z) ∧ Opd (aq ρ T st.E fr.F) (T.get g) x (.pointer (some ⟨q.b, 0, none⟩)) ∧ q.m = q.t.rep.n ∧ q.n = q.xs.length ∧ Nat.blt 0 q.n = true ∧
   SRd q.t.rep (Ctx.M (items ρ T st.G ++ (items ρ T fr.H ++ Φ))) w (sl (some ⟨q.b, 0, none⟩, q.xs.length, q.xs.length)) q.xs := by
 unfold gaA at h
 split at h
 ·rename_i n e ht
  split at h
  ·rename_i z hz
   obtain ⟨m, bytes, z⟩ := z
   split at h
   ·rename_i b hx
    split at h
    ·rename_i u xs hg
     obtain ⟨h1, h2⟩ := aw h
     cases h2
     simp only [Bool.and_eq_true] at h1
     obtain ⟨⟨⟨h3, h4⟩, h5⟩, h6⟩ := h1
     have hx' := aC (ρ := ρ) hx
     simp only [AV.val] at hx'
     obtain ⟨p, p1, p2, p3⟩ := Eb hg
     obtain ⟨b', k', d'⟩ := p
     simp only at p2 p3
     subst p2; subst p3
     cases hc : z4 u xs with
     | none => rw [hc] at h3; cases h3
     | some cs =>
      have hmem : gl b' cs ∈ Φ := by
       have := hΓ (glI (b', k', ⟨.l u, xs⟩)) (List.mem_map.2 ⟨_, p1, rfl⟩)
       unfold glI at this
       simp only [hc] at this
       exact this
      have hmem2 : gl b' cs ∈ items ρ T st.G ++ (items ρ T fr.H ++ Φ) := List.mem_append_right _ (List.mem_append_right _ hmem)
      obtain ⟨i, hi⟩ := List.mem_iff_getElem?.1 hmem2
      obtain ⟨g1, g2⟩ := hs.gl hi
      exact ⟨ht, ⟨bytes, z, fg hz⟩, hx', (Nat.eq_of_beq_eq_true h4).trans u.vy.symm, Nat.eq_of_beq_eq_true h5, h6, Ov g1 g2 (H5 hc)⟩
    ·cases h
   ·cases h
  ·cases h
 ·cases h
def Cw (X : Cx) (T : Tbl) (fr : Fr) (st : StB) (g : GK) (d : Tmp) (t : TypeId) (x y : Operand) (K : Go_ R) : Option R := match gaA X T fr st g t x with
 | some q => (match opA T st.E fr.F g y with
  | some (.int _ i) => NS T g st d q.t q.xs i K
  | _ => none)
 | none => none
theorem Ee {tt : TypeId} {x y : Operand} (hl : st.low fr = true) (hΓ : ∀ it ∈ X.Γ, it ∈ Φ) (hs : Sat (items ρ T st.G ++ (items ρ T fr.H ++ Φ)) w) (h : Cw X T fr st g d tt x y K = some r) :
  Okq X.P T g (aq ρ T st.E fr.F) ⟨some d, .indexAddr tt x y, ty, pos, af, gd⟩ w (aJ r K T fr st g (some d) ρ Φ) := by
 unfold Cw at h
 split at h
 ·rename_i q hq
  obtain ⟨ht, ⟨bytes, z, hti⟩, hx', hm, hn, _, hS⟩ := IP hΓ hs hq
  obtain ⟨n, e, b, t, l, m⟩ := q
  simp only at ht hti hx' hm hn hS h
  split at h
  ·rename_i k i hy
   have hy' := aC (ρ := ρ) hy
   simp only [AV.val] at hy'
   obtain ⟨x', b1, b2⟩ := wz h
   have key : ∃ (p : Addr) (ρ1 : Nms), aE st.c ρ ρ1 ∧ (ρ1 st.c).a = p ∧ (T.get g = true → mL (sl (some ⟨b, 0, none⟩, l.length, l.length)) i m p) ∧
     ∀ it ∈ items ρ1 T (.elm g st.c (mat t x' (st.c + 1)).1 :: ((mat t x' (st.c + 1)).2.1.map (oD g))), it.cS = true ∧ it.P (Ctx.M (items ρ T st.G ++ (items ρ T fr.H ++ Φ))) w := by
    cases hg : T.get g
    ·refine ⟨⟨0, 0, none⟩, ρ.set st.c nm0, Nms.bh, by rw [Nms.cj]; rfl, (fun h => by cases h), fun it hit => ?_⟩
     rw [items, List.map_cons] at hit
     rcases List.mem_cons.1 hit with rfl | hit
     ·exact ⟨rfl, fun h => by rw [hg] at h; cases h⟩
     ·obtain ⟨r1, hr1, rfl⟩ := List.mem_map.1 hit
      obtain ⟨r2, hr2, rfl⟩ := List.mem_map.1 hr1
      obtain ⟨j1, t1, l1, rfl⟩ := xr _ _ _ _ hr2
      exact nK (fun h => by rw [hg] at h; cases h)
    ·obtain ⟨e1, vs, e2, e3, e4⟩ := hS.atA (b1 hg)
     obtain ⟨ρ1, m1⟩ := uR (T := T) t x' (st.c + 1) vs e3 (ρ.set st.c { nm0 with a := elA (sl (some ⟨b, 0, none⟩, l.length, l.length)) i t.rep.n })
     have ha1 : (ρ1 st.c).a = elA (sl (some ⟨b, 0, none⟩, l.length, l.length)) i t.rep.n := by rw [m1.ag _ (Nat.lt_succ_self _), Nms.cj]
     refine ⟨elA (sl (some ⟨b, 0, none⟩, l.length, l.length)) i t.rep.n, ρ1, Nms.bh.trans m1.ag (Nat.le_succ _), ha1, fun _ => by rw [hm]; exact e1, fun it hit => ?_⟩
     rw [items, List.map_cons] at hit
     rcases List.mem_cons.1 hit with rfl | hit
     ·refine ⟨rfl, fun _ => ?_⟩
      show ¬ Ctx.M _ (ρ1 st.c).a.block ∧ aM w (ρ1 st.c).a _
      rw [ha1, m1.eq]
      exact ⟨e4, e2⟩
     ·obtain ⟨r1, hr1, rfl⟩ := List.mem_map.1 hit
      obtain ⟨r2, hr2, rfl⟩ := List.mem_map.1 hr1
      have hp2 := m1.rp _ hr2
      obtain ⟨j1, t1, l1, rfl⟩ := m1.rs _ hr2
      exact nK (fun _ => hp2)
   obtain ⟨p, ρ1, k1, k2, k3, k4⟩ := key
   have hs2 := vc hs _ k4
   have eG := aX (T := T) k1 (StB.dN.1 hl).2.2.1
   -- what stands there where g does not hold does not count
   have hrun : ∀ w', Run X.P (aq ρ T st.E fr.F) (T.get g) ⟨some d, .indexAddr tt x y, ty, pos, af, gd⟩ w' (.pointer (some ((⟨b, 0, none⟩ : Addr).add (i.toNat * m)))) := fun w' =>
    vB ht hti hx' hy' (fun hg => Ms (b1 hg) hn.symm)
   have hout : aJ r K T fr st g (some d) ρ Φ (.pointer (some p)) w := by
    refine aJ.new (ρ' := ρ1) hl b2 k1 (Nat.le_trans (Nat.le_succ _) (xG _ _ _)) rfl (by simp only [AV.val, k2]; simp [Addr.add]) ?_
    show Sat (items ρ1 T (Row.elm g st.c _ :: (_ ++ st.G)) ++ _) w
    have e8 : items ρ1 T (Row.elm g st.c (mat t x' (st.c + 1)).1 :: ((mat t x' (st.c + 1)).2.1.map (oD g) ++ st.G)) = items ρ1 T (.elm g st.c (mat t x' (st.c + 1)).1 :: ((mat t x' (st.c + 1)).2.1.map (oD g))) ++ items ρ1 T st.G := by
     simp [items]
    rw [e8, eG, List.append_assoc]
    exact hs2
   cases hg : T.get g
   ·exact ⟨_, fun w' => fun n a hf hg' => (by rw [hg] at hg'; cases hg'), hout⟩
   ·obtain ⟨a, len, cap, e1, _, _, e2⟩ := k3 hg
    have e3 : p = (⟨b, 0, none⟩ : Addr).add (i.toNat * m) := by
     injection e1 with e1 _ _
     cases e1
     exact e2
    subst e3
    exact ⟨_, hrun, hout⟩
  ·cases h
 ·cases h
def JT (X : Cx) (T : Tbl) (fr : Fr) (st : StB) (d : Tmp) (t : TypeId) (x : Operand) (lo hi mx : Option Operand) (K : Go_ R) : Option R := match lo, hi, mx with
 | none, none, none => (match gaA X T fr st none t x with
  | some q => K { st with c := st.c + 1, E := dh (some d) none (.sl st.c) st.E, G := .sli none st.c q.t q.xs false :: st.G }
  | none => none)
 | _, _, _ => none
theorem MJ {t : TypeId} {x : Operand} {lo hi mx : Option Operand} (hl : st.low fr = true) (hΓ : ∀ it ∈ X.Γ, it ∈ Φ) (hs : Sat (items ρ T st.G ++ (items ρ T fr.H ++ Φ)) w) (h : JT X T fr st d t x lo hi mx K = some r) :
  Ok2 X.P T none (aq ρ T st.E fr.F) ⟨some d, .slice t x lo hi mx, ty, pos, af, gd⟩ w (aJ r K T fr st none (some d) ρ Φ) := by
 unfold JT at h
 split at h
 ·split at h
  ·rename_i q hq
   obtain ⟨ht, ⟨bytes, z, hti⟩, hx', hm, hn, hpos, hS⟩ := IP hΓ hs hq
   rw [Tbl.get_none] at hx'
   refine .none_ (bb.gd (bb.run (GI ht hti hpos hx') ?_))
   refine aJ.push (x := { nm0 with v := (some ⟨q.b, 0, none⟩, q.n, q.n) }) hl h (by simp only [AV.val, Nms.cj]; rfl) (hs.add rfl ?_)
   intro _
   rw [Nms.cj]
   exact ⟨by rw [hn]; exact hS, fun h => by cases h⟩
  ·cases h
 ·cases h
end
end Go.Proofs.YtdhgpnejphlfpaaGreatDoor
namespace Go.Proofs.YtdhgpnejphlfpaaGreatDoor
open Go.Lib
def sEq (P : Program) (t : TypeId) (a b : AV) : Option Bool := match P.underlying t with
 | some (.int _) => (match a, b with
  | .int k x, .int k' y => ifS (gf k k') (some (x == y)) none
  | _, _ => none)
 | some .bool => (match a, b with
  | .bool x, .bool y => some (x == y)
  | _, _ => none)
 | some .string => (match a, b with
  | .str x, .str y => some (x == y)
  | _, _ => none)
 | _ => none
def fEq (P : Program) : List Field → Nat → List AV → List AV → Option (List Bool)
 | [], _, l1, l2 => ifS (l1.isEmpty && l2.isEmpty) (some []) none
 | f :: fs, k, l1, l2 => (match l1, l2 with
  | a :: l1, b :: l2 => ifS (f.name != "_" && Nat.beq f.offset k) (match sEq P f.type a b with
   | some r => (match fEq P fs (k + 1) l1 l2 with
    | some l => some (r :: l)
    | none => none)
   | none => none) none
  | _, _ => none)
def CU : Bool → List Bool → Bool
 | b, [] => b
 | b, c :: l => CU (b && c) l
def eqL : List Bool → Bool
 | [] => true
 | b :: l => CU b l
theorem Ft : ∀ {l : List Bool} {b : Bool}, CU b l = (b && l.foldr (· && ·) true)
 | [], b => by simp [CU]
 | c :: l, b => by simp only [CU, Ft, List.foldr_cons, Bool.and_assoc]
theorem NL : ∀ {l : List Bool}, eqL l = l.foldr (· && ·) true
 | [] => rfl
 | b :: l => by simp only [eqL, Ft, List.foldr_cons]
def JY (X : Cx) (T : Tbl) (E F : an) (g : GK) : Op → CV
 | .binOp op t x y _ => (match opA T E F g x with
  | some (.agg l1) => (match opA T E F g y with
   | some (.agg l2) => (match X.P.underlying t with
    | some (.struct fs) => ifS (!(X.P.eqGuardType X.P.depth t) && !(X.P.stoodInHeld t)) (match fEq X.P fs.toList 0 l1 l2 with
     | some bs => (match op with
      | .eql => pv (.bool (eqL bs))
      | .neq => pv (.bool (!(eqL bs)))
      | _ => none)
     | none => none) none
    | _ => none)
   | _ => none)
  | _ => none)
 | _ => none
def Km (X : Cx) (T : Tbl) (E F : an) (g : GK) : Op → CV
 | .typeAssert x _ t true => (match X.P.underlying t with
  | some dd => ifS (!(la dd)) (match opA T E F g x with
   | some (.ifc t' v) => ifS (Nat.beq t' t) (pv (.tuple [v, .bool true])) none
   | some (.raw .nilIface) => (match tiA X.P t with
    | some z => pv (.tuple [.raw z.2.2, .bool false])
    | none => none)
   | _ => none) none
  | none => none)
 | _ => none
def Ho (X : Cx) (T : Tbl) (E F : an) (g : GK) (op : Op) : CV := match Jm X T E F g op with
 | some cv => some cv
 | none => (match JY X T E F g op with
  | some cv => some cv
  | none => Km X T E F g op)
section
variable {X : Cx} {T : Tbl} {E F : an} {g : GK} {ρ : Nms} {w : World} {dst : Option Tmp} {ty : TypeId} {pos : String} {af : Array Edge} {gd : Option (Nat × Bool)}
theorem NZ {P : Program} {t : TypeId} {a b : AV} {r : Bool} (d : Nat) (h : sEq P t a b = some r) : (∃ td, P.underlying t = some td ∧ j6 td = false) ∧ (Op.equalIn (d + 1) t (a.val ρ) (b.val ρ)).run P w = .ok r w := by
 unfold sEq at h
 split at h
 ·rename_i k0 ht
  split at h
  ·rename_i k x k' y
   obtain ⟨h1, h2⟩ := aw h
   cases h2
   have e := kr h1
   subst e
   exact ⟨⟨_, ht, rfl⟩, by simp only [AV.val]; exact run_equalIn_int w d t _ _ _ _ ht⟩
  ·cases h
 ·rename_i ht
  split at h
  ·cases h
   exact ⟨⟨_, ht, rfl⟩, by simp only [AV.val]; exact run_equalIn_bool' w d t _ _ ht⟩
  ·cases h
 ·rename_i ht
  split at h
  ·cases h
   exact ⟨⟨_, ht, rfl⟩, by simp only [AV.val]; exact Co _ w d t _ _ ht⟩
  ·cases h
 ·cases h
theorem Jb {P : Program} {xs ys : List Value} (d : Nat) : ∀ {fs : List Field} {k : Nat} {l1 l2 : List AV} {bs : List Bool}, fEq P fs k l1 l2 = some bs → xs.drop k = AV.ah ρ l1 → ys.drop k = AV.ah ρ l2 →
  (Op.eqFields (d + 1) xs.toArray ys.toArray fs).run P w = .ok (bs.foldr (· && ·) true) w
 | [], k, l1, l2, bs, h, _, _ => by
  unfold fEq at h
  obtain ⟨_, h2⟩ := aw h
  cases h2
  exact ME
 | f :: fs, k, l1, l2, bs, h, hx, hy => by
  unfold fEq at h
  split at h
  ·rename_i a l1 b l2
   obtain ⟨h1, h2⟩ := aw h
   simp only [Bool.and_eq_true] at h1
   have ho := Nat.eq_of_beq_eq_true h1.2
   split at h2
   ·rename_i r hr
    split at h2
    ·rename_i l hl
     cases h2
     obtain ⟨⟨td, t1, t2⟩, t3⟩ := NZ (ρ := ρ) (w := w) d hr
     simp only [AV.ah] at hx hy
     have gx : xs[k]? = some (a.val ρ) := by rw [← List.head?_drop, hx]; rfl
     have gy : ys[k]? = some (b.val ρ) := by rw [← List.head?_drop, hy]; rfl
     refine Ju h1.1 (Gp t1 t2 (by rw [ho]; exact gx)) (Gp t1 t2 (by rw [ho]; exact gy)) t3 ?_
     refine Jb d hl ?_ ?_
     ·rw [← List.drop_drop, hx]; rfl
     ·rw [← List.drop_drop, hy]; rfl
    ·cases h2
   ·cases h2
  ·cases h
theorem Jx {op : Op} {cv : Option Bool × AV} (h : JY X T E F g op = some cv) : pF X.P (aq ρ T E F) ρ (T.get g) ⟨dst, op, ty, pos, af, gd⟩ w cv := by
 unfold JY at h
 split at h
 ·rename_i bop t x y t'
  split at h
  ·rename_i l1 hx
   split at h
   ·rename_i l2 hy
    split at h
    ·rename_i fs ht
     obtain ⟨h1, h2⟩ := aw h
     simp only [Bool.and_eq_true, Bool.not_eq_true'] at h1
     split at h2
     ·rename_i bs hbs
      have hx' := aC (ρ := ρ) hx
      have hy' := aC (ρ := ρ) hy
      simp only [AV.val] at hx' hy'
      have hf : X.P.fieldsOf t = fs := by simp [Program.fieldsOf, ht]
      have key : (Op.equalIn 10000 t (.agg (AV.ah ρ l1).toArray) (.agg (AV.ah ρ l2).toArray)).run X.P w = .ok (eqL bs) w := by
       rw [run_equalIn_struct w 9999 t _ _ (by rw [hf]; exact ht) h1.2, hf, NL]
       exact Jb 9998 hbs rfl rfl
      split at h2
      ·refine .pv h2 (cB hx' hy' ?_)
       rw [Sem.run_bind, run_eqGuard_agg w _ _ _ _ _ _ h1.1, Result.andThen_ok, run_eql_struct, key]
       simp only [AV.val, Result.andThen_ok]
      ·refine .pv h2 (cB hx' hy' ?_)
       rw [Sem.run_bind, run_eqGuard_agg w _ _ _ _ _ _ h1.1, Result.andThen_ok, run_neq_struct, key]
       simp only [AV.val, Result.andThen_ok]
      ·cases h2
     ·cases h2
    ·cases h
   ·cases h
  ·cases h
 ·cases h
theorem Lb {op : Op} {cv : Option Bool × AV} (h : Km X T E F g op = some cv) : pF X.P (aq ρ T E F) ρ (T.get g) ⟨dst, op, ty, pos, af, gd⟩ w cv := by
 unfold Km at h
 split at h
 ·rename_i x s t
  split at h
  ·rename_i dd ht
   obtain ⟨h1, h2⟩ := aw h
   have hd : la dd = false := by simpa using h1
   split at h2
   ·rename_i t' v hx
    obtain ⟨h3, h4⟩ := aw h2
    have := Nat.eq_of_beq_eq_true h3
    subst this
    have hx' := aC (ρ := ρ) hx
    simp only [AV.val] at hx'
    refine .pv h4 ?_
    simp only [AV.val, AV.ah]
    exact Cv ht hd hx'
   ·rename_i hx
    split at h2
    ·rename_i z hz
     obtain ⟨n, bytes, z⟩ := z
     have hx' := aC (ρ := ρ) hx
     simp only [AV.val] at hx'
     refine .pv h2 ?_
     simp only [AV.val, AV.ah]
     exact Cm ht hd (fg hz) hx'
    ·cases h2
   ·cases h2
  ·cases h
 ·cases h
theorem Dx {op : Op} {cv : Option Bool × AV} (hT : gV T E F) (h : Ho X T E F g op = some cv) : pF X.P (aq ρ T E F) ρ (T.get g) ⟨dst, op, ty, pos, af, gd⟩ w cv := by
 unfold Ho at h
 split at h
 ·rename_i cv' hcv
  cases h
  exact Lf hT hcv
 ·split at h
  ·rename_i cv' hcv
   cases h
   exact Jx hcv
  ·exact Lb h
end
end Go.Proofs.YtdhgpnejphlfpaaGreatDoor
namespace Go.Proofs.YtdhgpnejphlfpaaGreatDoor
open Go.Lib
abbrev gone {R : Type} (g : GK) (k : Option R) : Option R := match g with
 | none => k
 | some _ => none
def H3 {R : Type} (X : Cx) (T : Tbl) (fr : Fr) (st : StB) (t : TypeId) (x y : Operand) (K : Go_ R) : Option R := match opA T st.E fr.F none x with
 | some (.ptr id off) => (match opA T st.E fr.F none y with
  | some v => DN X.P st t id off v K
  | none => none)
 | some (.adr q off) => (match opA T st.E fr.F none y with
  | some v => DY X.P fr st t q off v K
  | none => none)
 | _ => none
def Lz {R : Type} (X : Cx) (T : Tbl) (fr : Fr) (st : StB) (g : GK) (d : Tmp) (t : TypeId) (x : Operand) (K : Go_ R) : Option R := match opA T st.E fr.F g x with
 | some (.adr q off) => GZ X T fr st g d t q off K
 | _ => none
def N5 {R : Type} (X : Cx) (T : Tbl) (fr : Fr) (st : StB) (g : GK) (b : Builtin) (d : Option Tmp) (xs : List Operand) (ts : List TypeId) (K : Go_ R) : Option R := match b, xs, ts, d with
 | .append, [x, y], [t, u], some d => gone g (ifS (Nat.beq t u) (JB X T fr st d t x y K) none)
 | _, _, _, _ => none
def Kz {R : Type} (X : Cx) (tb : List Ent) (T : Tbl) (fr : Fr) (st : StB) (g : GK) (d : Option Tmp) (c : Callee) (xs : List Operand) (ts : List TypeId) (K : Go_ R) : Option R := match c with
 | .builtin b => N5 X T fr st g b d xs ts K
 | .value fo => (match opA T st.E fr.F g fo with
  | some (.fn f a b) => (match sE T st.E fr.F g xs with
   | some vs => zP T fr st g d f (a ++ vs ++ b) K tb
   | none => none)
  | _ => none)
 | _ => none
noncomputable def opN {R : Type} (X : Cx) (tb : List Ent) (T : Tbl) (fr : Fr) (st : StB) (g : GK) (op : Op) (dst : Option Tmp) (K : Go_ R) : Option R := match op, dst with
 | .indexAddr t x y, some d => (match jo X.P t with
  | some _ => He X T fr st g d t x y K
  | none => (match opA T st.E fr.F g x with
   | some (.gp _) => Cw X T fr st g d t x y K
   | _ => gone g (Jj X T fr st d t x y K)))
 | .slice t x lo hi mx, some d => (match jo X.P t with
  | some _ => HD X T fr st g d t x lo hi mx K
  | none => gone g (JT X T fr st d t x lo hi mx K))
 | .alloc t, some d => gone g (Ec X st d t K)
 | .box t x, some d => gone g (JF T fr st d t x K)
 | .store t x y, none => gone g (H3 X T fr st t x y K)
 | .load t x, some d => Lz X T fr st g d t x K
 | .buildSlice t n ps, some d => Kl X T fr st g d t n ps.toList K
 | .makeSlice t x y, some d => gone g (Gx X T fr st d t x y K)
 | .makeMap t none, some d => gone g (HB X st d t K)
 | .mapUpdate t x y z, none => gone g (GY X T fr st t x y z K)
 | .range t x, some d => gone g (J4 X T fr st d t x K)
 | .next x true, some d => gone g (Jl T fr st d x K)
 | .convert s dt x, some d => KO X T fr st g d s dt x K
 | .binOp op t x y _, some d => gone g (Ky X T fr st d op t x y K)
 | .call c, d => Kz X tb T fr st g d c.callee c.args.toList c.argTypes.toList K
 | _, _ => none
noncomputable def opD {R : Type} (X : Cx) (tb : List Ent) (T : Tbl) (fr : Fr) (st : StB) (g : GK) (o : Oper) (K : Go_ R) : Option R :=
 match Ho X T st.E fr.F g o.op with
 | some cv => wD cv.1 (g.map fun _ => T.get g) (K { st with E := dh o.dst g cv.2 st.E })
 | none => match GX X T st.E fr.F st.G fr.H g o.op with
  | some cv => wD cv.1 (g.map fun _ => T.get g) (K { st with E := dh o.dst g cv.2 st.E })
  | none => ifS (st.low fr) (opN X tb T fr st g o.op o.dst K) none
section
variable {X : Cx} {tb : List Ent} {R : Type} {r : R} {K : Go_ R} {T : Tbl} {fr : Fr} {st : StB} {g : GK} {ρ : Nms} {Φ : Ctx} {w : World} {ty : TypeId} {pos : String} {af : Array Edge} {gd : Option (Nat × Bool)}
theorem fI {k : Option R} (h : gone g k = some r) : g = none ∧ k = some r := by
 cases g with
 | none => exact ⟨rfl, h⟩
 | some _ => cases h
theorem zr {d : Option Tmp} {f : FuncId} {fo : Operand} {xs : List Operand} {tys : Array TypeId} {a b vs : List AV} (hl : st.low fr = true) (hs : Sat (items ρ T st.G ++ (items ρ T fr.H ++ Φ)) w) (hΓ : ∀ it ∈ X.Γ, it ∈ Φ)
  (hfo : opA T st.E fr.F g fo = some (.fn f a b)) (hxs : sE T st.E fr.F g xs = some vs) : ∀ {tb : List Ent}, (∀ e ∈ tb, e.Ok X.P X.Γ) → zP T fr st g d f (a ++ vs ++ b) K tb = some r →
  Ok2 X.P T g (aq ρ T st.E fr.F) ⟨d, .call ⟨.value fo, xs.toArray, tys⟩, ty, pos, af, gd⟩ w (aJ r K T fr st g d ρ Φ)
 | [], _, h => by cases h
 | e :: tb, htb, h => by
  unfold zP at h
  rcases fD h with ⟨h1, h2⟩ | ⟨_, h2⟩
  ·split at h2
   ·rename_i r' hr'
    subst h2
    have := Nat.eq_of_beq_eq_true h1
    subst this
    exact Kr hl hs (htb e (List.mem_cons_self ..)) hΓ hfo hxs hr'
   ·exact zr hl hs hΓ hfo hxs (fun e he => htb e (List.mem_cons_of_mem _ he)) h2
  ·exact zr hl hs hΓ hfo hxs (fun e he => htb e (List.mem_cons_of_mem _ he)) h2
theorem Na {d : Option Tmp} {c : Callee} {xs : Array Operand} {ts : Array TypeId} (hl : st.low fr = true) (hs : Sat (items ρ T st.G ++ (items ρ T fr.H ++ Φ)) w) (hΓ : ∀ it ∈ X.Γ, it ∈ Φ) (htb : ∀ e ∈ tb, e.Ok X.P X.Γ)
  (h : Kz X tb T fr st g d c xs.toList ts.toList K = some r) : Ok2 X.P T g (aq ρ T st.E fr.F) ⟨d, .call ⟨c, xs, ts⟩, ty, pos, af, gd⟩ w (aJ r K T fr st g d ρ Φ) := by
 obtain ⟨xs⟩ := xs
 obtain ⟨ts⟩ := ts
 unfold Kz at h
 split at h
 ·unfold N5 at h
  split at h
  ·rename_i x y t u d' e1 e2
   simp only at e1 e2; subst e1; subst e2
   obtain ⟨rfl, h1⟩ := fI h
   obtain ⟨h2, h3⟩ := aw h1
   have := Nat.eq_of_beq_eq_true h2
   subst this
   exact MB hl hs h3
  ·cases h
 ·split at h
  ·rename_i f a b hfo
   split at h
   ·rename_i vs hxs
    exact zr hl hs hΓ hfo hxs htb h
   ·cases h
  ·cases h
 ·cases h
theorem NU {op : Op} {dst : Option Tmp} (hl : st.low fr = true) (hs : Sat (items ρ T st.G ++ (items ρ T fr.H ++ Φ)) w) (hΓ : ∀ it ∈ X.Γ, it ∈ Φ) (htb : ∀ e ∈ tb, e.Ok X.P X.Γ)
  (h : opN X tb T fr st g op dst K = some r) : Ok2 X.P T g (aq ρ T st.E fr.F) ⟨dst, op, ty, pos, af, gd⟩ w (aJ r K T fr st g dst ρ Φ) := by
 unfold opN at h
 split at h
 ·split at h
  ·exact (FE hl hs h).ok2
  ·split at h
   ·exact (Ee hl hΓ hs h).ok2
   ·obtain ⟨rfl, h1⟩ := fI h; exact MU hs h1
 ·split at h
  ·exact (F4 hl hs h).ok2
  ·obtain ⟨rfl, h1⟩ := fI h; exact MJ hl hΓ hs h1
 ·obtain ⟨rfl, h1⟩ := fI h; exact Iy hl hs h1
 ·obtain ⟨rfl, h1⟩ := fI h; exact L4 hl hs h1
 ·obtain ⟨rfl, h1⟩ := fI h
  unfold H3 at h1
  split at h1
  ·rename_i id off hx
   split at h1
   ·rename_i v hv; exact .none_ (IM hs hx hv h1)
   ·cases h1
  ·rename_i id off hx
   split at h1
   ·rename_i v hv; exact .none_ (I5 hl hs hx hv h1)
   ·cases h1
  ·cases h1
 ·unfold Lz at h
  split at h
  ·rename_i q off hx; exact KC hl hs hx h
  ·cases h
 ·exact Md hl hs h
 ·obtain ⟨rfl, h1⟩ := fI h; exact KE hl hs h1
 ·obtain ⟨rfl, h1⟩ := fI h; exact J8 hl hs h1
 ·obtain ⟨rfl, h1⟩ := fI h; exact KN hs h1
 ·obtain ⟨rfl, h1⟩ := fI h; exact MI hl hs h1
 ·obtain ⟨rfl, h1⟩ := fI h; exact MK hs h1
 ·exact MA hl hs h
 ·obtain ⟨rfl, h1⟩ := fI h; exact LP hs h1
 ·exact Na hl hs hΓ htb h
 ·cases h
theorem NR {o : Oper} (hT : gV T st.E fr.F) (hs : Sat (items ρ T st.G ++ (items ρ T fr.H ++ Φ)) w) (hΓ : ∀ it ∈ X.Γ, it ∈ Φ) (htb : ∀ e ∈ tb, e.Ok X.P X.Γ)
  (h : opD X tb T fr st g o K = some r) : Ok2 X.P T g (aq ρ T st.E fr.F) o w (aJ r K T fr st g o.dst ρ Φ) := by
 obtain ⟨dst, op, ty, pos, af, gd⟩ := o
 unfold opD at h
 simp only at h
 split at h
 ·rename_i cv hcv
  obtain ⟨h1, h2⟩ := lQ h
  exact Okq.ok2 ⟨_, fun w' => Dx hT hcv h1, aJ.old h2 (Nat.le_refl _) rfl rfl hs⟩
 ·split at h
  ·rename_i cv hcv
   obtain ⟨h1, h2⟩ := lQ h
   have hr := CW (dst := dst) (ty := ty) (pos := pos) (af := af) (gd := gd) hs hcv h1
   have hout : aJ r K T fr st g dst ρ Φ (cv.2.val ρ) w := aJ.old h2 (Nat.le_refl _) rfl rfl hs
   exact ⟨fun hg => bb.run (by rwa [hg] at hr) hout, fun _ => ⟨_, hout⟩⟩
  ·obtain ⟨h1, h2⟩ := aw h
   exact NU h1 hs hΓ htb h2
end
/-! guards -/
def Row.gd : Row → GK
 | .sli g _ _ _ _ | .elm g _ _ | .kn g _ _ _ _ _ _ => g
 | _ => none
theorem Row.ze {ρ : Nms} {T T' : Tbl} {r : Row} (h : T'.get r.gd = T.get r.gd) : r.item ρ T' = r.item ρ T := by
 cases r <;> simp only [Row.gd] at h <;> simp only [Row.item, h]
def sN (k : Nat × Bool) (g : GK) : Bool := !(GK.eq (some k) g)
def vH (k : Nat × Bool) : an → Bool
 | [] => true
 | x :: E => sN k x.2.1 && vH k E
def zj (k : Nat × Bool) : List Row → Bool
 | [] => true
 | r :: G => sN k r.gd && zj k G
def G4 (k : Nat × Bool) : Tbl → Bool
 | [] => true
 | x :: T => sN k (some x.1) && sN k x.2.1 && G4 k T
theorem pI {k : Nat × Bool} {par : GK} {rj : Nat} {b : Bool} {T : Tbl} {g : GK} (h : sN k g = true) : Tbl.get ((k, par, rj, b) :: T) g = T.get g := Tbl.zp h
theorem zy {ρ : Nms} {k : Nat × Bool} {par : GK} {rj : Nat} {b : Bool} {T : Tbl} : {E : an} → vH k E = true → an.env ρ ((k, par, rj, b) :: T) E = an.env ρ T E
 | [], _ => rfl
 | (t, g, v) :: E, h => by
  simp only [vH, Bool.and_eq_true] at h
  simp only [an.env]
  rw [pI h.1, zy h.2]
theorem wo {ρ : Nms} {k : Nat × Bool} {par : GK} {rj : Nat} {b : Bool} {T : Tbl} : {G : List Row} → zj k G = true → items ρ ((k, par, rj, b) :: T) G = items ρ T G
 | [], _ => rfl
 | r :: G, h => by
  simp only [zj, Bool.and_eq_true] at h
  simp only [items, List.map_cons]
  rw [Row.ze (pI h.1)]
  have := wo (ρ := ρ) (par := par) (rj := rj) (b := b) (T := T) h.2
  simp only [items] at this
  rw [this]
theorem xA {k : Nat × Bool} : {E : an} → vH k E = true → {t : Nat} → {x : GK × AV} → aK E t = some x → sN k x.1 = true
 | [], _, _, _, h => by cases h
 | (r, g, v) :: E, h, t, x, hx => by
  simp only [vH, Bool.and_eq_true] at h
  unfold aK at hx
  rcases fD hx with ⟨_, h2⟩ | ⟨_, h2⟩
  ·cases h2; exact h.1
  ·exact xA h.2 h2
def Hd (k : Nat × Bool) : Tbl → Bool
 | [] => false
 | x :: T => GK.eq (some k) (some x.1) || Hd k T
def rA (d : Option Tmp) : Tbl → Bool
 | [] => true
 | x :: T => (match d with
  | none => true
  | some d => !(Nat.beq d x.2.2.1)) && rA d T
def mY (ops : List Oper) (n : Nat) (T : Tbl) : Prop := ∀ x, x ∈ T → (ops[x.1.1]?).bind (·.dst) = some x.2.2.1 ∧ Nat.blt x.2.2.1 n = true
def FT (T : Tbl) (fr : Fr) : Prop := (∀ x, x ∈ fr.F → T.get x.2.1 = Tbl.get [] x.2.1) ∧ ∀ r, r ∈ fr.H → T.get r.gd = Tbl.get [] r.gd
def stepG {R : Type} (ops : List Oper) (T : Tbl) (fr : Fr) (st : StB) (o : Oper) (run : Tbl → GK → Option R) : Option R :=
 ifS (jl o && A6 fr.n o.dst) (match o.guard with
 | none => ifS ( rA o.dst T ) ( run T none ) none
 | some k => ifS ( Hd k T ) ( ifS ( rA o.dst T ) ( run T (some k) ) none ) <| match ops[k.1]? with
  | some oj => (match oj.dst with
   | some rj => (match fj st.E fr.F rj with
    | some (par, .bool b) => ifS ( Nat.blt rj fr.n && vH k st.E && vH k fr.F && zj k st.G && zj k fr.H && G4 k T && rA o.dst ((k, par, rj, b) :: T) ) ( run ((k, par, rj, b) :: T) (some k) ) none
    | _ => none)
   | none => none)
  | none => none) none
structure Ie (ops : List Oper) (fr0 fr : Fr) (st : StB) (ρ : Nms) (o : Oper) (T T' : Tbl) (g : GK) : Prop where
 pl : jl o = true
 ds : A6 fr.n o.dst = true
 t1 : gV T' st.E fr.F
 t2 : mY ops fr.n T'
 ft : FT T' fr0
 ak : rA o.dst T' = true
 ee : an.env ρ T' st.E = an.env ρ T st.E
 ef : an.env ρ T' fr.F = an.env ρ T fr.F
 eg : items ρ T' st.G = items ρ T st.G
 eh : items ρ T' fr.H = items ρ T fr.H
 gg : o.guard = g
 gk : ∀ k, g = some k → ∃ rj par b, (ops[k.1]?).bind (·.dst) = some rj ∧ look (aq ρ T' st.E fr.F) rj = some (T'.get par, .bool b) ∧ Nat.blt rj fr.n = true ∧ (T'.get par && (b == k.2)) = T'.get g
theorem FG {k : Nat × Bool} : {T : Tbl} → Hd k T = true → ∃ x, x ∈ T ∧ x.1 = k
 | [], h => by cases h
 | x :: T, h => by
  simp only [Hd, Bool.or_eq_true] at h
  rcases h with h | h
  ·have := GK.eq_eq h
   cases this
   exact ⟨x, List.mem_cons_self .., rfl⟩
  ·obtain ⟨y, h1, h2⟩ := FG h
   exact ⟨y, List.mem_cons_of_mem _ h1, h2⟩
theorem Fj {k : Nat × Bool} : {T : Tbl} → G4 k T = true → ∀ x, x ∈ T → sN k (some x.1) = true ∧ sN k x.2.1 = true
 | [], _, x, h => by cases h
 | y :: T, h, x, hx => by
  simp only [G4, Bool.and_eq_true] at h
  rcases List.mem_cons.1 hx with rfl | hx
  ·exact h.1
  ·exact Fj h.2 x hx
theorem Fw {k : Nat × Bool} : {E : an} → vH k E = true → ∀ x, x ∈ E → sN k x.2.1 = true
 | [], _, x, h => by cases h
 | y :: T, h, x, hx => by
  simp only [vH, Bool.and_eq_true] at h
  rcases List.mem_cons.1 hx with rfl | hx
  ·exact h.1
  ·exact Fw h.2 x hx
theorem Fp {k : Nat × Bool} : {E : List Row} → zj k E = true → ∀ x, x ∈ E → sN k x.gd = true
 | [], _, x, h => by cases h
 | y :: T, h, x, hx => by
  simp only [zj, Bool.and_eq_true] at h
  rcases List.mem_cons.1 hx with rfl | hx
  ·exact h.1
  ·exact Fp h.2 x hx
theorem DS {R : Type} {r : R} {ops : List Oper} {T : Tbl} {fr0 fr : Fr} {st : StB} {o : Oper} {run : Tbl → GK → Option R} {ρ : Nms} (h1 : gV T st.E fr.F) (h2 : mY ops fr.n T) (hF0 : fr0.F = fr.F) (hH0 : ∀ r, r ∈ fr0.H → r ∈ fr.H) (hf : FT T fr0) (h : stepG ops T fr st o run = some r) :
  ∃ T' g, run T' g = some r ∧ Ie ops fr0 fr st ρ o T T' g := by
 unfold stepG at h
 obtain ⟨h3, h4⟩ := aw h
 simp only [Bool.and_eq_true] at h3
 have old : ∀ k x, x ∈ T → x.1 = k → ∃ rj par b, (ops[k.1]?).bind (·.dst) = some rj ∧ look (aq ρ T st.E fr.F) rj = some (T.get par, .bool b) ∧ Nat.blt rj fr.n = true ∧ (T.get par && (b == k.2)) = T.get (some k) := fun k x hx hk => by
  subst hk
  obtain ⟨a1, a2⟩ := h1 x hx
  obtain ⟨a3, a4⟩ := h2 x hx
  exact ⟨x.2.2.1, x.2.1, x.2.2.2, a3, by rw [ky, a1]; simp [AV.val], a4, by rw [a2, FJ]⟩
 split at h4
 ·rename_i hg
  obtain ⟨h5, h6⟩ := aw h4
  exact ⟨T, none, h6, ⟨h3.1, h3.2, h1, h2, hf, h5, rfl, rfl, rfl, rfl, hg, fun k hk => by cases hk⟩⟩
 ·rename_i k hg
  rcases fD h4 with ⟨h5, h6⟩ | ⟨h5, h6⟩
  ·obtain ⟨h7, h8⟩ := aw h6
   obtain ⟨x, hx, hk⟩ := FG h5
   exact ⟨T, some k, h8, ⟨h3.1, h3.2, h1, h2, hf, h7, rfl, rfl, rfl, rfl, hg, fun k' hk' => by cases hk'; exact old k x hx hk⟩⟩
  ·split at h6
   ·rename_i oj hoj
    split at h6
    ·rename_i rj hrj
     split at h6
     ·rename_i par b hlk
      obtain ⟨h7, h8⟩ := aw h6
      simp only [Bool.and_eq_true] at h7
      obtain ⟨⟨⟨⟨⟨⟨b1, b2⟩, b3⟩, b4⟩, b5⟩, b6⟩, b7⟩ := h7
      have hpar : sN k par = true := by
       unfold fj at hlk
       split at hlk
       ·rename_i x hx; cases hlk; exact xA b2 hx
       ·exact xA b3 hlk
      have hself : Tbl.get ((k, par, rj, b) :: T) (some k) = (Tbl.get ((k, par, rj, b) :: T) par && xZ k.2 b) := by
       rw [Tbl.Jq, pI hpar]
      have ee := zy (ρ := ρ) (par := par) (rj := rj) (b := b) (T := T) b2
      have ef := zy (ρ := ρ) (par := par) (rj := rj) (b := b) (T := T) b3
      refine ⟨(k, par, rj, b) :: T, some k, h8, ⟨h3.1, h3.2, fun x hx => ?_, fun x hx => ?_, ⟨fun x hx => ?_, fun x hx => ?_⟩, b7, ee, ef, wo b4, wo b5, hg, fun k' hk' => ?_⟩⟩
      ·rcases List.mem_cons.1 hx with rfl | hx
       ·exact ⟨hlk, hself⟩
       ·obtain ⟨a1, a2⟩ := h1 x hx
        obtain ⟨a3, a4⟩ := Fj b6 x hx
        exact ⟨a1, by rw [pI a3, pI a4]; exact a2⟩
      ·rcases List.mem_cons.1 hx with rfl | hx
       ·exact ⟨by simp [hoj, hrj], b1⟩
       ·exact h2 x hx
      ·rw [pI (Fw b3 x (hF0 ▸ hx))]; exact hf.1 x hx
      ·rw [pI (Fp b5 x (hH0 x hx))]; exact hf.2 x hx
      ·cases hk'
       refine ⟨rj, par, b, by simp [hoj, hrj], ?_, b1, by rw [hself, FJ]⟩
       rw [ky, hlk]; simp [AV.val]
     ·cases h6
    ·cases h6
   ·cases h6
theorem B0 {d : Option Tmp} : {T : Tbl} → rA d T = true → ∀ x, x ∈ T → ∀ (g : GK) (v : AV) (E F : an), fj (dh d g v E) F x.2.2.1 = fj E F x.2.2.1
 | [], _, x, h => by cases h
 | y :: T, h, x, hx => fun g v E F => by
  simp only [rA, Bool.and_eq_true] at h
  rcases List.mem_cons.1 hx with rfl | hx
  ·cases d with
   | none => rfl
   | some d =>
    have h1 := h.1
    simp only [Bool.not_eq_true'] at h1
    unfold fj
    simp only [dh, aK, h1]
  ·exact B0 h.2 x hx g v E F
theorem gV.out {T : Tbl} {E F : an} (h : gV T E F) {d : Option Tmp} (ha : rA d T = true) (g : GK) (v : AV) : gV T (dh d g v E) F := fun x hx => by
 rw [B0 ha x hx]; exact h x hx
theorem yy {ρ : Nms} {T : Tbl} {d : Option Tmp} {g : GK} {v : AV} {E F : an} : aq ρ T (dh d g v E) F = pg d (T.get g) (v.val ρ) (aq ρ T E F) := by
 cases d <;> rfl
section
variable {X : Cx} {tb : List Ent} {σ : Option Nat} {Q : ba} {D : List Deferred} {ops : List Oper} {rest : List Oper} {R : Type} {r : R} {T : Tbl} {fr : Fr} {st : StB} {ρ : Nms} {Φ : Ctx} {w : World}
theorem II {fr0 : Fr} {o : Oper} {K : Tbl → Go_ R} (h1 : gV T st.E fr.F) (h2 : mY ops fr.n T) (hF0 : fr0.F = fr.F) (hH0 : ∀ r, r ∈ fr0.H → r ∈ fr.H) (hf : FT T fr0) (hs : Sat (items ρ T st.G ++ (items ρ T fr.H ++ Φ)) w) (hΓ : ∀ it ∈ X.Γ, it ∈ Φ) (htb : ∀ e ∈ tb, e.Ok X.P X.Γ)
  (h : stepG ops T fr st o (fun T g => opD X tb T fr st g o (K T)) = some r)
  (next : ∀ T' st' ρ' w', gV T' st'.E fr.F → mY ops fr.n T' → FT T' fr0 → aE st.c ρ ρ' → st.c ≤ st'.c → K T' st' = some r → items ρ' T' fr.H = items ρ T fr.H → Sat (items ρ' T' st'.G ++ (items ρ' T' fr.H ++ Φ)) w' → WL X.P σ ops.toArray Q fr.n D rest (aq ρ' T' st'.E fr.F) w') :
  WL X.P σ ops.toArray Q fr.n D (o :: rest) (aq ρ T st.E fr.F) w := by
 obtain ⟨T', g, hk, so⟩ := DS (ρ := ρ) h1 h2 hF0 hH0 hf h
 have hs' : Sat (items ρ T' st.G ++ (items ρ T' fr.H ++ Φ)) w := by rw [so.eg, so.eh]; exact hs
 have he : aq ρ T st.E fr.F = aq ρ T' st.E fr.F := by rw [aq, aq, so.ee, so.ef]
 rw [he]
 have hop := NR so.t1 hs' hΓ htb hk
 have fin : ∀ v w', aJ r (K T') T' fr st g o.dst ρ Φ v w' → WL X.P σ ops.toArray Q fr.n D rest (pg o.dst (T'.get g) v (aq ρ T' st.E fr.F)) w' := fun v w' hv => by
  obtain ⟨ρ', st', av, k1, k2, k3, k4, k5, k6, k7, k8⟩ := hv
  have := next T' st' ρ' w' (by rw [k4]; exact so.t1.out so.ak g av) so.t2 so.ft k2 k3 k1 (k7.trans so.eh) k8
  rw [k4, yy, k5, k6] at this
  exact this
 cases hg : g with
 | none =>
  subst hg
  have := fin
  rw [Tbl.get_none] at this
  exact Nf (hop.1 Tbl.get_none) so.pl so.gg so.ds this
 | some k =>
  obtain ⟨rj, par, b, g1, g2, g3, g4⟩ := so.gk k hg
  subst hg
  exact Kk hop.1 hop.2 so.pl so.gg (by simpa using g1) g2 g3 g4 so.ds fin
end
/-! regions in their order -/
def nN {α : Type} : Option α → Bool
 | none => true
 | some _ => false
def kf (E0 : an) : an → an
 | [] => []
 | x :: E => (match aK E0 x.1 with
  | some (none, _) => ifS (nN x.2.1) (x :: kf E0 E) (kf E0 E)
  | _ => kf E0 E)
def oy : List Row → List Row
 | [] => []
 | r :: G => ifS (nN r.gd) (r :: oy G) (oy G)
def ry (T : Tbl) (st : StB) : StB := match T with
 | [] => st
 | _ :: _ => { st with E := kf st.E st.E, G := oy st.G }
theorem gN {t' t : Nat} {g : GK} {v : AV} {E : an} (h : Nat.beq t' t = true) : aK ((t', g, v) :: E) t = some (g, v) := by simp only [aK, h]
theorem ek {t' t : Nat} {g : GK} {v : AV} {E : an} (h : Nat.beq t' t = false) : aK ((t', g, v) :: E) t = aK E t := by simp only [aK, h]
theorem uf {E0 : an} {t : Nat} : {E : an} → {x : GK × AV} → aK (kf E0 E) t = some x → x.1 = none ∧ (∃ v, aK E0 t = some (none, v)) ∧ ((∃ v, aK E t = some (none, v)) → aK E t = some x)
 | [], x, h => by cases h
 | (t', g', v') :: E, x, h => by
  unfold kf at h
  have cd : aK (kf E0 E) t = some x → (∀ v, Nat.beq t' t = true → aK E0 t' ≠ some (none, v) ∨ g' ≠ none) → x.1 = none ∧ (∃ v, aK E0 t = some (none, v)) ∧ ((∃ v, aK ((t', g', v') :: E) t = some (none, v)) → aK ((t', g', v') :: E) t = some x) := fun h' hn => by
   obtain ⟨h1, h2, h3⟩ := uf h'
   refine ⟨h1, h2, fun hv => ?_⟩
   cases hb : Nat.beq t' t
   ·rw [ek hb] at hv ⊢; exact h3 hv
   ·exfalso
    obtain ⟨v0, hv0⟩ := h2
    obtain ⟨v1, hv1⟩ := hv
    rw [gN hb] at hv1
    simp only [Option.some.injEq, Prod.mk.injEq] at hv1
    have e := Nat.eq_of_beq_eq_true hb
    rcases hn v0 hb with h4 | h4
    ·rw [e] at h4; exact h4 hv0
    ·exact h4 hv1.1
  dsimp only at h
  split at h
  ·rename_i v hv
   cases h1 : nN g'
   ·rw [h1] at h
    exact cd h (fun v _ => .inr (fun e => by rw [e] at h1; cases h1))
   ·rw [h1] at h
    have h2 : aK ((t', g', v') :: kf E0 E) t = some x := h
    cases hb : Nat.beq t' t
    ·rw [ek hb] at h2 ⊢
     exact uf (E := E) h2
    ·rw [gN hb] at h2 ⊢
     cases h2
     have e := Nat.eq_of_beq_eq_true hb
     refine ⟨?_, ⟨v, by rw [← e]; exact hv⟩, fun _ => rfl⟩
     cases hy : g' with
     | none => rfl
     | some _ => rw [hy] at h1; cases h1
  ·rename_i hn
   exact cd h (fun v hb => .inl (fun e => hn v e))
theorem za {E0 : an} {t : Nat} {v0 : AV} (h0 : aK E0 t = some (none, v0)) : {E : an} → {v : AV} → aK E t = some (none, v) → aK (kf E0 E) t = some (none, v)
 | [], v, h => by cases h
 | (t', g', v') :: E, v, h => by
  unfold kf
  cases hb : Nat.beq t' t
  ·rw [ek hb] at h
   have ih := za h0 h
   dsimp only
   split
   ·cases nN g'
    ·exact ih
    ·show aK ((t', g', v') :: kf E0 E) t = _
     rw [ek hb]; exact ih
   ·exact ih
  ·rw [gN hb] at h
   cases h
   have e := Nat.eq_of_beq_eq_true hb
   subst e
   dsimp only
   rw [h0]
   exact gN hb
def CE (F E0 : an) : an → Bool
 | [] => true
 | x :: E => (match aK E0 x.1 with
  | some (none, _) => true
  | _ => nN (aK F x.1)) && CE F E0 E
theorem Dz {F E0 : an} {t : Nat} : {E : an} → {x : GK × AV} → CE F E0 E = true → aK E t = some x → (∃ v, aK E0 t = some (none, v)) ∨ aK F t = none
 | [], x, _, h => by cases h
 | (t', g', v') :: E, x, hb, h => by
  simp only [CE, Bool.and_eq_true] at hb
  cases hq : Nat.beq t' t
  ·rw [ek hq] at h; exact Dz hb.2 h
  ·have e := Nat.eq_of_beq_eq_true hq
   subst e
   have h1 := hb.1
   split at h1
   ·rename_i v hv; exact .inl ⟨v, hv⟩
   ·cases hF : aK F t' with
    | none => exact .inr rfl
    | some y => rw [hF] at h1; cases h1
def zW (T : Tbl) (fr : Fr) (st : StB) : Bool := match T with
 | [] => true
 | _ :: _ => CE fr.F st.E st.E
theorem JP {ρ : Nms} {T : Tbl} {E : an} (h : ∀ x, x ∈ E → T.get x.2.1 = Tbl.get [] x.2.1) : an.env ρ T E = an.env ρ [] E := by
 induction E with
 | nil => rfl
 | cons x E ih =>
  obtain ⟨t, g, v⟩ := x
  simp only [an.env]
  rw [h _ (List.mem_cons_self ..), ih (fun x hx => h x (List.mem_cons_of_mem _ hx))]
theorem Af {ρ : Nms} {T : Tbl} {G : List Row} (h : ∀ r, r ∈ G → T.get r.gd = Tbl.get [] r.gd) : items ρ T G = items ρ [] G :=
 List.map_congr_left fun r hr => Row.ze (h r hr)
theorem ux : {G : List Row} → ∀ r, r ∈ oy G → r.gd = none
 | [], r, h => by cases h
 | y :: G, r, h => by
  unfold oy at h
  cases hy : nN y.gd
  ·rw [hy] at h; exact ux r h
  ·rw [hy] at h
   rcases List.mem_cons.1 h with rfl | h
   ·cases hg : r.gd with
    | none => rfl
    | some _ => rw [hg] at hy; cases hy
   ·exact ux r h
theorem wj {ρ : Nms} {T : Tbl} {w : World} {B : Ctx} : ∀ {G : List Row} {A : Ctx}, Sat (A ++ (items ρ T G ++ B)) w → Sat (A ++ (items ρ T (oy G) ++ B)) w
 | [], _, h => h
 | r :: G, A, h => by
  unfold oy
  cases nN r.gd
  ·exact wj (G := G) (Sat.yv h)
  ·have h' : Sat ((A ++ [r.item ρ T]) ++ (items ρ T G ++ B)) w := by simpa [items] using h
   have := wj (G := G) h'
   simpa [items] using this
theorem zw {ρ : Nms} {T : Tbl} {fr : Fr} {st : StB} {Φ : Ctx} {w : World} (hB : zW T fr st = true) (hf : FT T fr) (hs : Sat (items ρ T st.G ++ (items ρ T fr.H ++ Φ)) w) :
  (ry T st).c = st.c ∧ j4 (aq ρ [] (ry T st).E fr.F) (aq ρ T st.E fr.F) ∧ Sat (items ρ [] (ry T st).G ++ (items ρ [] fr.H ++ Φ)) w := by
 cases T with
 | nil => exact ⟨rfl, j4.refl, hs⟩
 | cons x T =>
  refine ⟨rfl, fun t p hp => ?_, ?_⟩
  ·have eF : an.env ρ (x :: T) fr.F = an.env ρ [] fr.F := JP hf.1
   rw [aq, y8] at hp ⊢
   rw [eF]
   cases hl : look (an.env ρ [] (ry (x :: T) st).E) t with
   | none =>
    rw [hl] at hp
    -- nothing kept: nothing told, or under a guard
    have : look (an.env ρ (x :: T) st.E) t = none := by
     rw [ng] at hl hp ⊢
     cases hE : aK st.E t with
     | none => rfl
     | some y =>
      exfalso
      have hk : aK (kf st.E st.E) t = none := by
       cases hk : aK (kf st.E st.E) t with
       | none => rfl
       | some z =>
        have : aK (ry (x :: T) st).E t = some z := hk
        rw [this] at hl; cases hl
      rcases Dz hB hE with ⟨v, hv⟩ | hF
      ·rw [za hv hv] at hk; cases hk
      ·rw [hF] at hp; cases hp
    rw [this]; exact hp
   | some q =>
    rw [hl] at hp
    cases hp
    rw [ng] at hl
    cases hk : aK (ry (x :: T) st).E t with
    | none => rw [hk] at hl; cases hl
    | some y =>
     rw [hk] at hl
     obtain ⟨h1, h2, h3⟩ := uf hk
     have h4 := h3 h2
     rw [ng, h4]
     simp only [Option.map_some, Option.some.injEq] at hl ⊢
     rw [← hl, h1, Tbl.get_none, Tbl.get_none]
  ·have h1 := wj (A := []) hs
   have e1 : items ρ (x :: T) (oy st.G) = items ρ [] (oy st.G) := Af fun r hr => by rw [ux r hr, Tbl.get_none, Tbl.get_none]
   have e2 : items ρ (x :: T) fr.H = items ρ [] fr.H := Af hf.2
   rw [List.nil_append, e1, e2] at h1
   exact h1
end Go.Proofs.YtdhgpnejphlfpaaGreatDoor
namespace Go.Proofs.YtdhgpnejphlfpaaGreatDoor
open Go.Lib
def OkT : Bool → Pt → List (Bool × Nat × Pt) → Type
 | true, _, _ => Empty
 | false, r, os => Tup (hol r ++ gQ os)
abbrev Nw {R : Type} : (nv : Bool) → (r : Pt) → (os : List (Bool × Nat × Pt)) → OkT nv r os → (Tup (hol r ++ gQ os) → Option R) → Option R
 | true, _, _, x, _ => Empty.elim x
 | false, _, _, x, K => K x
def isOk : (nv : Bool) → (r : Pt) → (os : List (Bool × Nat × Pt)) → OkT nv r os → Tup (hol r ++ gQ os) → Prop
 | true, _, _, _, _ => False
 | false, _, _, x, q => x = q
theorem L3 {R : Type} {r' : R} : {nv : Bool} → {r : Pt} → {os : List (Bool × Nat × Pt)} → {x : OkT nv r os} → {q : Tup (hol r ++ gQ os)} → {K : Tup (hol r ++ gQ os) → Option R} → isOk nv r os x q → Nw nv r os x K = some r' → K q = some r'
 | true, _, _, _, _, _, h, _ => h.elim
 | false, _, _, _, _, _, rfl, h => h
structure bK where
 f : FuncId
 ps : List Pt
 pp : Pt
 nv : Bool
 r : Pt
 os : List (Bool × Nat × Pt)
 m : Tup (lX ps) → Option (Except (Tup (hol pp)) (OkT nv r os))
def bK.oe (e : bK) : Ent := ⟨e.f, e.ps, e.r, e.os, fun _ => none⟩
def bK.S (e : bK) (vs : List Value) (N : List Nm) (I : Its) (X : Bxs) (Φ : Ctx) (r : Except (Tup (hol e.pp)) (OkT e.nv e.r e.os)) (v : Value) (w' : World) : Prop :=
 ∃ x q, r = .ok x ∧ isOk e.nv e.r e.os x q ∧ ∃ (N1 N2 : List Nm) (D1 D2 : List Dyn) (I1 I2 : Its) (X1 X2 : Bxs), Sem e.r v none none N D1 I1 X1 N1 ∧ ui (fxS e.ps vs X) (fun i => vs[i]?) e.os N1 D2 I2 X2 N2 ∧ D1 ++ D2 = unt _ q ∧
  Sat ((cX I1 ++ cX I2) ++ (fR I ++ Φ)) w'
def bK.Sp (e : bK) (I : Its) (Φ : Ctx) (r : Except (Tup (hol e.pp)) (OkT e.nv e.r e.os)) (c : List PanicEntry) (w' : World) : Prop :=
 ∃ p, r = .error p ∧ ∃ (v : Value) (N1 : List Nm) (I1 : Its) (X1 : Bxs), c = pan v ∧ Sem e.pp v none none [] (unt _ p) I1 X1 N1 ∧ Sat (cX I1 ++ (fR I ++ Φ)) w'
def bK.Ok (P : Program) (Γg : Ctx) (e : bK) : Prop := ia P e.f ∧ ∀ s r, e.m s = some r → ∀ (vs : List Value) (N : List Nm) (I : Its) (X : Bxs) (Φ : Ctx) (w : World),
 qp e.ps vs [] [] (unt _ s) I X N → Sat (cX I ++ Φ) w → (∀ it ∈ Γg, it ∈ Φ) → jv P e.f vs w (e.S vs N I X Φ r) (e.Sp I Φ r)
def EL {R : Type} (st : StB) (e : bK) (G1 : List Row) (KP : AV → StB → Option R) (p : Tup (hol e.pp)) : Option R :=
 match fill (mQ [] st.c) e.pp none none 0 (unt _ p) with
 | ⟨v, R1, k, _, _⟩ => KP v { st with c := st.c + k, G := R1.map (·.2) ++ G1 }
def EB {R : Type} (fr : Fr) (st : StB) (d : Option Tmp) (args : List AV) (e : bK) (KP : AV → StB → Option R) (K : Go_ R) : Option (Option R) :=
 match mts (frz (dK st.G fr.H e.ps args) st.G) fr.H e.ps args [] [] with
  | some mr => ifS (sf (mr.S.map fun x => cK (frz (dK st.G fr.H e.ps args) st.G) fr.H x.2) && ltT (frz (dK st.G fr.H e.ps args) st.G).length (sT (frz (dK st.G fr.H e.ps args) st.G) fr.H mr.S) && ltB st.c mr.B && AV.bJ st.c args && zv st.c mr.X) (match tup (lX e.ps) mr.D with
   | some s => some (Hc (e.m s) (EL st e (ju (m7 (sT (frz (dK st.G fr.H e.ps args) st.G) fr.H mr.S) 0 (frz (dK st.G fr.H e.ps args) st.G))) KP)
     (fun x => Nw e.nv e.r e.os x (yk fr st none d args e.oe mr (ju (m7 (sT (frz (dK st.G fr.H e.ps args) st.G) fr.H mr.S) 0 (frz (dK st.G fr.H e.ps args) st.G))) K)))
   | none => none) none
  | none => none
def xm {R : Type} (fr : Fr) (st : StB) (d : Option Tmp) (f : FuncId) (args : List AV) (KP : AV → StB → Option R) (K : Go_ R) : List bK → Option (Option R)
 | [] => none
 | e :: tp => ifS (Nat.beq e.f f) (match EB fr st d args e KP K with
   | some r => some r
   | none => xm fr st d f args KP K tp) (xm fr st d f args KP K tp)
def Hk {R : Type} (tp : List bK) (T : Tbl) (fr : Fr) (st : StB) (o : Oper) (KP : AV → StB → Option R) (K : Go_ R) : Option (Option R) := match o.guard with
 | some _ => none
 | none => (match o.op with
  | .panic x => (match opA T st.E fr.F none x with
   | some (.ifc t v) => some (KP (.ifc t v) st)
   | _ => none)
  | .call c => (match c.callee with
   | .value fo => (match opA T st.E fr.F none fo with
    | some (.fn f a b) => (match sE T st.E fr.F none c.args.toList with
     | some vs => ifS (rA o.dst T && A6 fr.n o.dst && st.low fr) (xm fr st o.dst f (a ++ vs ++ b) KP K tp) none
     | none => none)
    | _ => none)
   | _ => none)
  | _ => none)
section
variable {P : Program} {R : Type} {r : R} {K : Go_ R} {KP : AV → StB → Option R} {T : Tbl} {fr : Fr} {st : StB} {d : Option Tmp} {ρ : Nms} {Φ Γg : Ctx} {w : World}
def GF (r : R) (KP : AV → StB → Option R) (T : Tbl) (fr : Fr) (st : StB) (ρ : Nms) (Φ : Ctx) (v : Value) (w' : World) : Prop :=
 ∃ (ρ' : Nms) (st' : StB) (av : AV), KP av st' = some r ∧ aE st.c ρ ρ' ∧ st.c ≤ st'.c ∧ st'.E = st.E ∧ av.val ρ' = v ∧ Sat (items ρ' T st'.G ++ (items ρ' T fr.H ++ Φ)) w' ∧ aq ρ' T st.E fr.F = aq ρ T st.E fr.F
theorem Gy {e : bK} {G1 : List Row} {p : Tup (hol e.pp)} {v : Value} {w' : World} {N1 : List Nm} {I1 : Its} {X1 : Bxs}
  (hl : st.low fr = true) (hG1 : bg st.c G1 = true) (h1 : Sem e.pp v none none [] (unt _ p) I1 X1 N1)
  (hs : Sat (cX I1 ++ (items ρ T G1 ++ (items ρ T fr.H ++ Φ))) w') (h : EL st e G1 KP p = some r) : GF r KP T fr st ρ Φ v w' := by
 have hp1 := pB _ _ _ _ _ _ _ _ _ h1
 have hnm := BK (ρ := ρ) (c := st.c) (N := []) (B := []) (N2 := N1) .nil hp1 rfl
 have hag : aE st.c ρ (fun i => ifS (Nat.blt i st.c) (ρ i) ((N1[i - st.c]?).getD nm0)) := fun j hj => by
  have : Nat.blt j st.c = true := by simpa using hj
  simp only [this]
 generalize hρ : (fun i => ifS (Nat.blt i st.c) (ρ i) ((N1[i - st.c]?).getD nm0)) = ρ' at hnm hag
 obtain ⟨a1, a2, a3, a4, a5⟩ := uG (T := T) e.pp v none none [] (unt _ p) I1 X1 N1 h1 hnm (by simp) []
 rw [List.append_nil, List.length_nil] at a1 a2 a3 a4 a5
 unfold EL at h
 generalize fill (mQ [] st.c) e.pp none none 0 (unt _ p) = L at a1 a2 a3 a4 a5 h
 obtain ⟨v', R1, k, DD, XX⟩ := L
 simp only at a1 a2 a3 a4 a5
 dsimp only at h
 have e3 := aX (T := T) hag hG1
 have e4 := aX (T := T) hag (StB.dN.1 hl).2.2.2
 refine ⟨ρ', _, v', h, hag, Nat.le_add_right _ _, rfl, a1, ?_, q8 hl hag⟩
 show Sat (items ρ' T (R1.map (·.2) ++ G1) ++ (items ρ' T fr.H ++ Φ)) w'
 rw [aU, e3, e4, List.append_assoc]
 exact Sat.leL (A := []) (B := cX I1) (C := items ρ T G1 ++ (items ρ T fr.H ++ Φ)) (by simpa using hs) a5.rw
theorem Ib {e : bK} {args : List AV} (hl : st.low fr = true) (hs : Sat (items ρ T st.G ++ (items ρ T fr.H ++ Φ)) w) (he : e.Ok P Γg) (hΓ : ∀ it ∈ Γg, it ∈ Φ) (h : EB fr st d args e KP K = some (some r)) :
  jv P e.f (AV.ah ρ args) w (aJ r K T fr st none d ρ Φ) (fun c w' => ∃ v, c = pan v ∧ GF r KP T fr st ρ Φ v w') := by
 have hGl := pK (ids := dK st.G fr.H e.ps args) (StB.dN.1 hl).2.2.1
 replace hs := jL (ids := dK st.G fr.H e.ps args) hs
 unfold EB at h
 generalize frz (dK st.G fr.H e.ps args) st.G = Gu at hGl hs h
 split at h
 ·rename_i mr hm
  obtain ⟨h1, h2⟩ := aw h
  simp only [Bool.and_eq_true] at h1
  obtain ⟨⟨⟨⟨h3, h4⟩, h5⟩, h6⟩, h7⟩ := h1
  split at h2
  ·rename_i s htup
   simp only [Option.some.injEq] at h2
   obtain ⟨N, I, s1, n1, a1⟩ := qj hs e.ps args [] [] mr [] hm .nil
   rw [← pR _ htup] at s1
   obtain ⟨p1, p2⟩ := vw hs a1
   have hnd' := nS h3
   obtain ⟨q1, _⟩ := nT hs p1 hnd'
   have key2 : ∀ (L : List (Option Nat)) (G : List Row) (k : Nat), bg st.c G = true → bg st.c (ju (m7 L k G)) = true := fun L G => by
    induction G with
    | nil => intro k _; rfl
    | cons r G ih =>
     intro k hG
     simp only [bg, Bool.and_eq_true] at hG
     show bg st.c (ju ((ifS (iH k L) .gone r) :: m7 L (k + 1) G)) = true
     cases iH k L
     ·cases r <;> first | exact ih (k + 1) hG.2 | (simp only [ju, bg, Bool.and_eq_true]; exact ⟨hG.1, ih (k + 1) hG.2⟩)
     ·exact ih (k + 1) hG.2
   have hlow := key2 (sT Gu fr.H mr.S) Gu 0 hGl
   have hsub : ∀ it ∈ Γg, it ∈ mkP (mr.S.map fun x => cK Gu fr.H x.2) (items ρ T Gu ++ (items ρ T fr.H ++ Φ)) := fun it hit => by
    obtain ⟨k, hk⟩ := List.mem_iff_getElem?.1 (hΓ it hit)
    have hk2 : (items ρ T Gu ++ (items ρ T fr.H ++ Φ))[Gu.length + fr.H.length + k]? = some it := by
     rw [List.getElem?_append_right (by simp [items]; omega), List.getElem?_append_right (by simp [items]; omega)]
     have : Gu.length + fr.H.length + k - (items ρ T Gu).length - (items ρ T fr.H).length = k := by simp [items]; omega
     rw [this]; exact hk
    refine List.mem_of_getElem? (i := Gu.length + fr.H.length + k) ?_
    rw [rQ, hk2]
    intro hmem
    obtain ⟨x, _, hx⟩ := List.mem_map.1 hmem
    have := Eh hx
    omega
   have call := fun rr hr => he.2 s rr hr (AV.ah ρ args) N I (db ρ mr.X) _ w (by simpa only [AV.ah] using s1) q1 hsub
   have backs : ∀ {A : Ctx} {w' : World}, Sat (A ++ (fR I ++ mkP (mr.S.map fun x => cK Gu fr.H x.2) (items ρ T Gu ++ (items ρ T fr.H ++ Φ)))) w' → Sat (A ++ (items ρ T (ju (m7 (sT Gu fr.H mr.S) 0 Gu)) ++ (items ρ T fr.H ++ Φ))) w' := fun {A w'} c4 => by
    have c5 := va p2 hnd' c4
    rw [zF a1, py h4] at c5
    exact tW c5
   rcases Gz h2 with ⟨p, hq, hk⟩ | ⟨q, hq, hk⟩
   ·refine (call _ hq).mono (fun v w' hv => ?_) (fun c w' hv => ?_)
    ·obtain ⟨x', q', hq', _⟩ := hv; cases hq'
    ·obtain ⟨p', hp', v, N1, I1, X1, c1, c2, c3⟩ := hv
     cases hp'
     exact ⟨v, c1, Gy hl hlow c2 (backs c3) hk⟩
   ·refine (call _ hq).mono (fun v w' hv => ?_) (fun c w' hv => ?_)
    ·obtain ⟨x', q', hq', hi, N1, N2, D1, D2, I1, I2, X1, X2, c1, c2, c3, c4⟩ := hv
     cases hq'
     exact xR (e := e.oe) hl hlow n1 h5 h6 h7 c1 c2 c3 Tbl.get_none (backs c4) (.inl rfl) (L3 hi hk)
    ·obtain ⟨p', hp', _⟩ := hv; cases hp'
  ·cases h2
 ·cases h
theorem xu {f : FuncId} {args : List AV} (hl : st.low fr = true) (hs : Sat (items ρ T st.G ++ (items ρ T fr.H ++ Φ)) w) (hΓ : ∀ it ∈ Γg, it ∈ Φ) : ∀ {tp : List bK}, (∀ e ∈ tp, e.Ok P Γg) → xm fr st d f args KP K tp = some (some r) →
  ia P f ∧ jv P f (AV.ah ρ args) w (aJ r K T fr st none d ρ Φ) (fun c w' => ∃ v, c = pan v ∧ GF r KP T fr st ρ Φ v w')
 | [], _, h => by cases h
 | e :: tp, htp, h => by
  unfold xm at h
  rcases fD h with ⟨h1, h2⟩ | ⟨_, h2⟩
  ·split at h2
   ·rename_i r' hr'
    cases h2
    have := Nat.eq_of_beq_eq_true h1
    subst this
    exact ⟨(htp e (List.mem_cons_self ..)).1, Ib hl hs (htp e (List.mem_cons_self ..)) hΓ hr'⟩
   ·exact xu hl hs hΓ (fun e he => htp e (List.mem_cons_of_mem _ he)) h2
  ·exact xu hl hs hΓ (fun e he => htp e (List.mem_cons_of_mem _ he)) h2
variable {σ : Option Nat} {Q : ba} {D : List Deferred} {ops rest : List Oper} {tp : List bK}
theorem Lv {o : Oper} (h1 : gV T st.E fr.F) (hs : Sat (items ρ T st.G ++ (items ρ T fr.H ++ Φ)) w) (hΓ : ∀ it ∈ Γg, it ∈ Φ) (htp : ∀ e ∈ tp, e.Ok P Γg)
  (h : Hk tp T fr st o KP K = some (some r))
  (next : ∀ st' ρ' w', gV T st'.E fr.F → aE st.c ρ ρ' → st.c ≤ st'.c → K st' = some r → items ρ' T fr.H = items ρ T fr.H → Sat (items ρ' T st'.G ++ (items ρ' T fr.H ++ Φ)) w' → WL P σ ops.toArray Q fr.n D rest (aq ρ' T st'.E fr.F) w')
  (pnext : ∀ v st' ρ' w', aE st.c ρ ρ' → st.c ≤ st'.c → KP v st' = some r → st'.E = st.E → aq ρ' T st.E fr.F = aq ρ T st.E fr.F → Sat (items ρ' T st'.G ++ (items ρ' T fr.H ++ Φ)) w' → At Q (.panic (pan (v.val ρ'))) fr.n D (aq ρ' T st'.E fr.F) w') :
  WL P σ ops.toArray Q fr.n D (o :: rest) (aq ρ T st.E fr.F) w := by
 obtain ⟨dst, op, ty, pos, af, gd⟩ := o
 unfold Hk at h
 split at h
 ·cases h
 rename_i hgd
 simp only at hgd
 subst hgd
 split at h
 ·rename_i x hop
  simp only at hop
  subst hop
  split at h
  ·rename_i t v hx
   have hk := Option.some.inj h
   have hx' := aC (ρ := ρ) hx
   rw [Tbl.get_none] at hx'
   simp only [AV.val] at hx'
   refine Kq hx' ?_
   have := pnext (.ifc t v) st ρ w .refl (Nat.le_refl _) hk rfl rfl hs
   simp only [AV.val] at this
   exact this
  ·cases h
 ·rename_i c hop
  simp only at hop
  subst hop
  obtain ⟨callee, xs, tys⟩ := c
  obtain ⟨xs⟩ := xs
  simp only at h
  split at h
  ·rename_i fo
   split at h
   ·rename_i f a b hfo
    split at h
    ·rename_i vs hxs
     obtain ⟨h2, h3⟩ := aw h
     simp only [Bool.and_eq_true] at h2
     obtain ⟨⟨hak, hd⟩, hl⟩ := h2
     obtain ⟨hen, hc⟩ := xu hl hs hΓ htp h3
     have hfo' := aC (ρ := ρ) hfo
     have hxs' := mc (ρ := ρ) hxs
     rw [Tbl.get_none] at hfo' hxs'
     simp only [AV.val] at hfo'
     have hargs : AV.ah ρ (a ++ vs ++ b) = AV.ah ρ a ++ AV.ah ρ vs ++ AV.ah ρ b := by rw [df, df]
     have fin : ∀ v w', aJ r K T fr st none dst ρ Φ v w' → WL P σ ops.toArray Q fr.n D rest (pg dst true v (aq ρ T st.E fr.F)) w' := fun v w' hv => by
      obtain ⟨ρ', st', av, k1, k2, k3, k4, k5, k6, k7, k8⟩ := hv
      have := next st' ρ' w' (by rw [k4]; exact h1.out hak none av) k2 k3 k1 k7 k8
      rw [k4, yy, k5, k6, Tbl.get_none] at this
      exact this
     have pfin : ∀ c w', (∃ v, c = pan v ∧ GF r KP T fr st ρ Φ v w') → At Q (.panic c) fr.n D (aq ρ T st.E fr.F) w' := fun c w' hv => by
      obtain ⟨v, rfl, ρ', st', av, k1, k2, k3, k4, k5, k6, k7⟩ := hv
      have := pnext av st' ρ' w' k2 k3 k1 k4 k7 k6
      rw [k5, k4, k7] at this
      exact this
     cases dst with
     | none => exact IW hen hfo' hxs' hargs hc fin pfin
     | some dd => exact JZ hen hfo' hxs' hargs hd hc fin pfin
    ·cases h
   ·cases h
  ·cases h
 ·cases h
end
end Go.Proofs.YtdhgpnejphlfpaaGreatDoor
namespace Go.Proofs.YtdhgpnejphlfpaaGreatDoor
open Go.Lib
abbrev GG {R : Type} (fr : Fr) (KP : AV → StB → Option R) (T : Tbl) (v : AV) (st : StB) : Option R := ifS (zW T fr st) (KP v (ry T st)) none
noncomputable def sd {R : Type} (X : Cx) (tb : List Ent) (tp : List bK) (KP : AV → StB → Option R) (ops : List Oper) (fr : Fr) : List Oper → Tbl → StB → Go_ R → Option R
 | [], T, st, K => ifS (zW T fr st) (K (ry T st)) none
 | o :: l, T, st, K => match Hk tp T fr st o (GG fr KP T) (fun st => sd X tb tp KP ops fr l T st K) with
  | some q => q
  | none => stepG ops T fr st o fun T g => opD X tb T fr st g o fun st => sd X tb tp KP ops fr l T st K
section
variable {R : Type} {X : Cx} {tb : List Ent} {tp : List bK} {KP : AV → StB → Option R} {σ : Option Nat} {Q : ba} {D : List Deferred} {ops : List Oper} {r : R} {fr : Fr} {Φ : Ctx} {K : Go_ R}
theorem Gg {T : Tbl} {v : AV} {st : StB} {ρ : Nms} {w : World} (hf : FT T fr) (h : GG fr KP T v st = some r) (hs : Sat (items ρ T st.G ++ (items ρ T fr.H ++ Φ)) w) :
  ∃ st', KP v st' = some r ∧ st'.c = st.c ∧ j4 (aq ρ [] st'.E fr.F) (aq ρ T st.E fr.F) ∧ Sat (items ρ [] st'.G ++ (items ρ [] fr.H ++ Φ)) w := by
 unfold GG at h
 obtain ⟨h3, h4⟩ := aw h
 obtain ⟨k1, k2, k3⟩ := zw h3 hf hs
 exact ⟨_, h4, k1, k2, k3⟩
theorem vW {rest : List Oper} (hΓ : ∀ it ∈ X.Γ, it ∈ Φ) (htb : ∀ e ∈ tb, e.Ok X.P X.Γ) (htp : ∀ e ∈ tp, e.Ok X.P X.Γ) : ∀ {l : List Oper} {T : Tbl} {st : StB} {ρ : Nms} {w : World}, gV T st.E fr.F → mY ops fr.n T → FT T fr → Sat (items ρ T st.G ++ (items ρ T fr.H ++ Φ)) w →
  sd X tb tp KP ops fr l T st K = some r →
  (∀ st' ρ' w', aE st.c ρ ρ' → st.c ≤ st'.c → K st' = some r → Sat (items ρ' [] st'.G ++ (items ρ' [] fr.H ++ Φ)) w' → WL X.P σ ops.toArray Q fr.n D rest (aq ρ' [] st'.E fr.F) w') →
  (∀ v st' ρ' w', aE st.c ρ ρ' → st.c ≤ st'.c → KP v st' = some r → Sat (items ρ' [] st'.G ++ (items ρ' [] fr.H ++ Φ)) w' → At Q (.panic (pan (v.val ρ'))) fr.n D (aq ρ' [] st'.E fr.F) w') →
  WL X.P σ ops.toArray Q fr.n D (l ++ rest) (aq ρ T st.E fr.F) w
 | [], T, st, ρ, w, h1, h2, hf, hs, h, next, pnext => by
  unfold sd at h
  obtain ⟨h3, h4⟩ := aw h
  obtain ⟨k1, k2, k3⟩ := zw h3 hf hs
  exact fun a hf hd => next _ ρ w .refl (by rw [k1]; exact Nat.le_refl _) h4 k3 a (hf.px k2) hd
 | o :: l, T, st, ρ, w, h1, h2, hf, hs, h, next, pnext => by
  unfold sd at h
  split at h
  ·rename_i q hq
   subst h
   refine Lv h1 hs hΓ htp hq (fun st' ρ' w' a1 a4 a5 a6 a7 a8 => ?_) (fun v st' ρ' w' a1 a2 a3 ae1 ae2 a4 => ?_)
   ·exact vW hΓ htb htp a1 h2 hf a8 a6 (fun st2 ρ2 w2 b1 b2 b3 b4 => next st2 ρ2 w2 (a4.trans b1 a5) (Nat.le_trans a5 b2) b3 b4) (fun v st2 ρ2 w2 b1 b2 b3 b4 => pnext v st2 ρ2 w2 (a4.trans b1 a5) (Nat.le_trans a5 b2) b3 b4)
   ·obtain ⟨st2, k1, k2, k4, k3⟩ := Gg hf a3 a4
    exact (pnext v st2 ρ' w' a1 (by omega) k1 k3).px _ k4
  ·exact II (K := fun T st => sd X tb tp KP ops fr l T st K) h1 h2 rfl (fun _ h => h) hf hs hΓ htb h (fun T' st' ρ' w' a1 a2 a3 a4 a5 a6 a7 a8 =>
    vW hΓ htb htp a1 a2 a3 a8 a6 (fun st2 ρ2 w2 b1 b2 b3 b4 => next st2 ρ2 w2 (a4.trans b1 a5) (Nat.le_trans a5 b2) b3 b4) (fun v st2 ρ2 w2 b1 b2 b3 b4 => pnext v st2 ρ2 w2 (a4.trans b1 a5) (Nat.le_trans a5 b2) b3 b4))
theorem FM (hΓ : ∀ it ∈ X.Γ, it ∈ Φ) (htb : ∀ e ∈ tb, e.Ok X.P X.Γ) (htp : ∀ e ∈ tp, e.Ok X.P X.Γ) {l : List Oper} {T : Tbl} {st : StB} {ρ : Nms} {w : World} (h1 : gV T st.E fr.F) (h2 : mY ops fr.n T) (hf : FT T fr) (hs : Sat (items ρ T st.G ++ (items ρ T fr.H ++ Φ)) w)
  (h : sd X tb tp KP ops fr l T st K = some r)
  (next : ∀ st' ρ' w', aE st.c ρ ρ' → st.c ≤ st'.c → K st' = some r → Sat (items ρ' [] st'.G ++ (items ρ' [] fr.H ++ Φ)) w' → At Q .normal fr.n D (aq ρ' [] st'.E fr.F) w')
  (pnext : ∀ v st' ρ' w', aE st.c ρ ρ' → st.c ≤ st'.c → KP v st' = some r → Sat (items ρ' [] st'.G ++ (items ρ' [] fr.H ++ Φ)) w' → At Q (.panic (pan (v.val ρ'))) fr.n D (aq ρ' [] st'.E fr.F) w') :
  WL X.P σ ops.toArray Q fr.n D l (aq ρ T st.E fr.F) w := by
 have := vW (σ := σ) (Q := Q) (D := D) (rest := []) hΓ htb htp h1 h2 hf hs h (fun st' ρ' w' a1 a2 a3 a4 => EE (next st' ρ' w' a1 a2 a3 a4)) pnext
 rwa [List.append_nil] at this
end
def jr (c : Nat) : List AV → List AV × List Row × Nat
 | [] => ([], [], c)
 | v :: vs => match v with
  | .nv u => match jr c vs with
   | (cs, R, c) => (.nv u :: cs, R, c)
  | v => match jr (c + 1) vs with
   | (cs, R, c') => (.nv c :: cs, .eq c v :: R, c')
structure LI (c : Nat) (vs : List AV) (ρ ρ' : Nms) (x : List AV × List Row × Nat) : Prop where
 ag : aE c ρ ρ'
 le : c ≤ x.2.2
 eq : AV.ah ρ' x.1 = AV.ah ρ vs
 lw : AV.bJ x.2.2 x.1 = true
 rl : bg x.2.2 x.2.1 = true
 rp : ∀ r ∈ x.2.1, (r.item ρ' []).cS = true ∧ ∀ M w, (r.item ρ' []).P M w
 rg : ∀ r ∈ x.2.1, r.gd = none
theorem qa {c d : Nat} (hcd : c ≤ d) : {G : List Row} → bg c G = true → bg d G = true
 | [], _ => rfl
 | r :: G, h => by
  simp only [bg, Bool.and_eq_true] at h ⊢
  exact ⟨Row.eB hcd h.1, qa hcd h.2⟩
theorem mW {c : Nat} : {G H : List Row} → bg c G = true → bg c H = true → bg c (G ++ H) = true
 | [], _, _, h => h
 | r :: G, H, h, k => by
  simp only [List.cons_append, bg, Bool.and_eq_true] at h ⊢
  exact ⟨h.1, mW h.2 k⟩
theorem vQ : {vs : List AV} → {c : Nat} → {ρ : Nms} → AV.bJ c vs = true → ∃ ρ', LI c vs ρ ρ' (jr c vs)
 | [], c, ρ, h => ⟨ρ, .refl, Nat.le_refl _, rfl, rfl, rfl, (fun _ h => by cases h), fun _ h => by cases h⟩
 | v :: vs, c, ρ, h => by
  simp only [AV.bJ, Bool.and_eq_true] at h
  have other : (∀ u, v ≠ .nv u) → jr c (v :: vs) = (match jr (c + 1) vs with | (cs, R, c') => (.nv c :: cs, .eq c v :: R, c')) → ∃ ρ', LI c (v :: vs) ρ ρ' (jr c (v :: vs)) := fun _ e => by
   have a1 : aE c ρ (ρ.set c { nm0 with x := v.val ρ }) := Nms.bh
   obtain ⟨ρ', l⟩ := vQ (c := c + 1) (ρ := ρ.set c { nm0 with x := v.val ρ }) (AV.iC (Nat.le_succ c) _ h.2)
   rw [e]
   generalize jr (c + 1) vs = L at l
   obtain ⟨cs, R, c'⟩ := L
   have hag : aE c ρ ρ' := a1.trans l.ag (Nat.le_succ _)
   have hx : (ρ' c).x = v.val ρ := by rw [l.ag _ (Nat.lt_succ_self _), Nms.cj]
   have hle : c + 1 ≤ c' := l.le
   refine ⟨ρ', hag, Nat.le_trans (Nat.le_succ _) l.le, ?_, ?_, ?_, ?_, ?_⟩
   ·simp only [AV.ah, AV.val, hx]
    rw [l.eq, AV.bH a1 _ h.2]
   ·simp only [AV.bJ, AV.low, Bool.and_eq_true, Nat.blt_eq]
    exact ⟨by omega, l.lw⟩
   ·simp only [bg, Row.low, Bool.and_eq_true, Nat.blt_eq]
    exact ⟨⟨by omega, AV.eB (by omega) _ h.1⟩, l.rl⟩
   ·intro r hr
    rcases List.mem_cons.1 hr with rfl | hr
    ·exact ⟨rfl, fun M w => by show (ρ' c).x = v.val ρ'; rw [hx, AV.js hag _ h.1]⟩
    ·exact l.rp r hr
   ·intro r hr
    rcases List.mem_cons.1 hr with rfl | hr
    ·rfl
    ·exact l.rg r hr
  cases v with
  | nv u =>
   obtain ⟨ρ', l⟩ := vQ (c := c) (ρ := ρ) h.2
   unfold jr
   dsimp only
   generalize jr c vs = L at l
   obtain ⟨cs, R, c'⟩ := L
   refine ⟨ρ', l.ag, l.le, ?_, ?_, l.rl, l.rp, l.rg⟩
   ·simp only [AV.ah]
    rw [l.eq, AV.js l.ag _ h.1]
   ·simp only [AV.bJ, Bool.and_eq_true]
    exact ⟨AV.eB l.le _ h.1, l.lw⟩
  | _ => exact other (fun u h => by cases h) rfl
/-! regions that draw their order -/
noncomputable def HI {R : Type} (X : Cx) (T : Tbl) (fr : Fr) (st : StB) (g : GK) (op : Op) (dst : Option Tmp) (K : Go_ R) : Option R := match op, dst with
 | .indexAddr t x y, some d => (match jo X.P t with
  | some _ => He X T fr st g d t x y K
  | none => Cw X T fr st g d t x y K)
 | .slice t x lo hi mx, some d => HD X T fr st g d t x lo hi mx K
 | _, _ => none
noncomputable def Da {R : Type} (X : Cx) (T : Tbl) (fr : Fr) (st : StB) (g : GK) (o : Oper) (K : Go_ R) : Option R :=
 match Ho X T st.E fr.F g o.op with
 | some cv => wD cv.1 (g.map fun _ => T.get g) (K { st with E := dh o.dst g cv.2 st.E })
 | none => match GX X T st.E fr.F [] fr.H g o.op with
  | some cv => wD cv.1 (g.map fun _ => T.get g) (K { st with E := dh o.dst g cv.2 st.E })
  | none => ifS (st.low fr) (HI X T fr st g o.op o.dst K) none
def aZ (p : Row → Bool) : List Row → List Row
 | [] => []
 | r :: G => ifS (p r) (r :: aZ p G) (aZ p G)
def cV (r : Row) : Bool := !r.cS
theorem Sat.move {A B C : Ctx} {x : Item} {w : World} (h : Sat (A ++ x :: (B ++ C)) w) : Sat (A ++ (B ++ x :: C)) w := by
 refine h.tT (fun j k => (j < A.length ∧ k = j) ∨ (A.length ≤ j ∧ j < A.length + B.length ∧ k = j + 1) ∨ (j = A.length + B.length ∧ k = A.length) ∨ (A.length + B.length < j ∧ k = j)) (fun j jt hj => ?_) (fun j k q hjk h1 h2 => by omega)
 by_cases e : j < A.length
 ·rw [List.getElem?_append_left e] at hj
  exact .inr ⟨j, jt, .inl ⟨e, rfl⟩, by rw [List.getElem?_append_left e]; exact hj, bk.refl⟩
 ·rw [List.getElem?_append_right (by omega)] at hj
  by_cases e2 : j < A.length + B.length
  ·rw [List.getElem?_append_left (by omega)] at hj
   refine .inr ⟨j + 1, jt, .inr (.inl ⟨by omega, e2, rfl⟩), ?_, bk.refl⟩
   rw [List.getElem?_append_right (by omega)]
   have : j + 1 - A.length = (j - A.length) + 1 := by omega
   rw [this, List.getElem?_cons_succ, List.getElem?_append_left (by omega)]
   exact hj
  ·rw [List.getElem?_append_right (by omega)] at hj
   by_cases e3 : j = A.length + B.length
   ·subst e3
    rw [show A.length + B.length - A.length - B.length = 0 by omega] at hj
    simp at hj
    subst hj
    exact .inr ⟨A.length, x, .inr (.inr (.inl ⟨rfl, rfl⟩)), by simp, bk.refl⟩
   ·refine .inr ⟨j, jt, .inr (.inr (.inr ⟨by omega, rfl⟩)), ?_, bk.refl⟩
    rw [List.getElem?_append_right (by omega)]
    have e4 : j - A.length - B.length = (j - A.length - B.length - 1) + 1 := by omega
    rw [e4, List.getElem?_cons_succ] at hj
    have e5 : j - A.length = (j - A.length - 1) + 1 := by omega
    rw [e5, List.getElem?_cons_succ, List.getElem?_append_right (by omega)]
    have e6 : j - A.length - 1 - B.length = j - A.length - B.length - 1 := by omega
    rw [e6]; exact hj
theorem Sat.vq {w : World} {B : Ctx} : ∀ {A : Ctx}, Sat (A ++ B) w → Sat B w
 | [], h => h
 | _x :: A, h => Sat.vq (A := A) (Sat.yv (A := []) h)
section
variable {ρ : Nms} {T : Tbl} {w : World}
theorem pT {p : Row → Bool} {H : List Row} {Φ : Ctx} : ∀ {G : List Row} {A : Ctx}, Sat (A ++ (items ρ T G ++ (items ρ T H ++ Φ))) w → Sat (A ++ (items ρ T (aZ p G) ++ (items ρ T (aZ (fun r => !(p r)) G ++ H) ++ Φ))) w
 | [], _, h => h
 | r :: G, A, h => by
  unfold aZ
  cases hp : p r
  ·have h1 : Sat ((A ++ [r.item ρ T]) ++ (items ρ T G ++ (items ρ T H ++ Φ))) w := by simpa [items] using h
   have h2 := pT (p := p) (G := G) h1
   have h3 : Sat (A ++ r.item ρ T :: (items ρ T (aZ p G) ++ (items ρ T (aZ (fun r => !(p r)) G ++ H) ++ Φ))) w := by simpa using h2
   exact h3.move
  ·have h1 : Sat ((A ++ [r.item ρ T]) ++ (items ρ T G ++ (items ρ T H ++ Φ))) w := by simpa [items] using h
   have h2 := pT (p := p) (G := G) h1
   simpa [items] using h2
end
abbrev frM (fr : Fr) (A : List Row) (st : StB) : Fr := ⟨fr.F, aZ (fun r => !(cV r)) st.G ++ (A ++ fr.H), fr.n⟩
abbrev stM (st : StB) : StB := { st with G := aZ cV st.G }
abbrev Pdg := Nat × Nat × Nat × List Nat
def yD : List AV → Option (List Nat)
 | [] => some []
 | v :: l => (match v with
  | .nv u => (match yD l with
   | some us => some (u :: us)
   | none => none)
  | _ => none)
def G2 : List AV → List Nat → Bool
 | _, [] => true
 | l, n :: ns => (match l with
  | .nv u :: l => Nat.beq u n && G2 l ns
  | _ => false)
def pdB (G : List Row) : List Pdg → Bool
 | [] => true
 | x :: Pd => (match m8 (yF x.2.1) G with
  | some (_, .box _ _ cs) => G2 (cs.drop x.2.2.1) x.2.2.2
  | _ => false) && pdB G Pd
def eK (ops : List Oper) (k : Nat) : List Pdg → List Pdg
 | [] => []
 | x :: Pd => ifS (waits .any ops.toArray k x.1) (eK ops k Pd) (x :: eK ops k Pd)
def szA (P : Program) (t : TypeId) : Option Nat := match P.underlying t with
 | some d => ifS (j6 d) (match tiA P t with
  | some z => some z.1
  | none => none) (some 1)
 | none => none
def G3 {R : Type} (X : Cx) (T : Tbl) (fr : Fr) (st : StB) (g : GK) (k : Nat) (o : Oper) (K : List Row → Pdg → StB → Option R) : Option (Option R) := match o.op, o.dst with
 | .load t x, some d => (match opA T st.E fr.F g x with
  | some (.ptr id off) => (match m8 (yF id) st.G with
   | some (j, .box _ bt cs) => some (match szA X.P t with
    | some n => (match lS X.P t ((cs.drop off).map (pO st.G fr.H)) with
     | some v => (match yD (jr st.c ((cs.drop off).take n)).1 with
      | some us => ifS (st.low fr && v.low st.c && Nat.ble (off + n) cs.length) (
        K (jr st.c ((cs.drop off).take n)).2.1 (k, id, off, us) { st with c := (jr st.c ((cs.drop off).take n)).2.2, E := dh (some d) g v st.E, G := st.G.set j (.box id bt (nJ cs off (jr st.c ((cs.drop off).take n)).1)) } ) none
      | none => none)
     | none => none)
    | none => none)
   | _ => none)
  | _ => none)
 | _, _ => none
noncomputable def Aj {R : Type} (X : Cx) (tb : List Ent) (tp : List bK) (KP : AV → StB → Option R) (ops : List Oper) (fr : Fr) (A : List Row) (T : Tbl) (st : StB) (o : Oper) (K : Tbl → Go_ R) : Option R :=
 match Hk tp T (frM fr A st) (stM st) o (fun v st' => GG fr KP T v { st' with G := st'.G ++ (aZ (fun r => !(cV r)) st.G ++ A) }) (K T) with
 | some q => q
 | none => stepG ops T (frM fr A st) (stM st) o fun T g => opD X tb T (frM fr A st) (stM st) g o (K T)
noncomputable def nj {R : Type} (X : Cx) (tb : List Ent) (tp : List bK) (KP : AV → StB → Option R) (ops : List Oper) (fr : Fr) : OT → List Row → List Pdg → Tbl → StB → Go_ R → Option R
 | .nil, A, _, T, st, K => ifS (zW T fr { st with G := st.G ++ A }) (K (ry T { st with G := st.G ++ A })) none
 | .q k _ rest, A, Pd, T, st, K => (match ops[k]? with
  | some o => stepG ops T (frM fr A st) (stM st) o fun T g => match G3 X T (frM fr A st) (stM st) g k o (fun R p st' => nj X tb tp KP ops fr rest (R ++ (aZ (fun r => !(cV r)) st.G ++ A)) (p :: Pd) T st' K) with
   | some q => q
   | none => Da X T (frM fr A st) (stM st) g o fun st' => nj X tb tp KP ops fr rest (aZ (fun r => !(cV r)) st.G ++ A) Pd T st' K
  | none => none)
 | .l k _ rest, A, Pd, T, st, K => (match ops[k]? with
  | some o => Aj X tb tp KP ops fr A T st o fun T st' => ifS (pdB st'.G (eK ops k Pd)) (nj X tb tp KP ops fr rest (aZ (fun r => !(cV r)) st.G ++ A) (eK ops k Pd) T st' K) none
  | none => none)
 | .l2 _ k₁ r₁ k₂ r₂, A, Pd, T, st, K => both
  (match ops[k₁]? with
  | some o => Aj X tb tp KP ops fr A T st o fun T st' => ifS (pdB st'.G (eK ops k₁ Pd)) (nj X tb tp KP ops fr r₁ (aZ (fun r => !(cV r)) st.G ++ A) (eK ops k₁ Pd) T st' K) none
  | none => none)
  (match ops[k₂]? with
  | some o => Aj X tb tp KP ops fr A T st o fun T st' => ifS (pdB st'.G (eK ops k₂ Pd)) (nj X tb tp KP ops fr r₂ (aZ (fun r => !(cV r)) st.G ++ A) (eK ops k₂ Pd) T st' K) none
  | none => none)
section
variable {R : Type} {X : Cx} {tb : List Ent} {tp : List bK} {KP : AV → StB → Option R} {σ : Option Nat} {Q : ba} {D : List Deferred} {ops : List Oper} {r : R} {fr : Fr} {Φ : Ctx} {K : Go_ R}
theorem IC {T : Tbl} {st : StB} {g : GK} {o : Oper} {ρ : Nms} {w : World} (hΓ : ∀ it ∈ X.Γ, it ∈ Φ) (hT : gV T st.E fr.F) (hs : Sat (items ρ T st.G ++ (items ρ T fr.H ++ Φ)) w) (h : Da X T fr st g o K = some r) :
  ∃ (v : Value) (J : World → Prop), (∀ w', (∃ Φ', Sat (items ρ T fr.H ++ Φ') w') → J w') ∧ (∀ w', J w' → Run X.P (aq ρ T st.E fr.F) (T.get g) o w' v) ∧ aJ r K T fr st g o.dst ρ Φ v w := by
 obtain ⟨dst, op, ty, pos, af, gd⟩ := o
 unfold Da at h
 simp only at h
 have okq : ∀ {O : Value → World → Prop}, Okq X.P T g (aq ρ T st.E fr.F) ⟨dst, op, ty, pos, af, gd⟩ w O → ∃ (v : Value) (J : World → Prop), (∀ w', (∃ Φ', Sat (items ρ T fr.H ++ Φ') w') → J w') ∧ (∀ w', J w' → Run X.P (aq ρ T st.E fr.F) (T.get g) ⟨dst, op, ty, pos, af, gd⟩ w' v) ∧ O v w := fun h => by
  obtain ⟨v, h1, h2⟩ := h
  exact ⟨v, fun _ => True, fun _ _ => trivial, fun w' _ => h1 w', h2⟩
 split at h
 ·rename_i cv hcv
  obtain ⟨h1, h2⟩ := lQ h
  exact okq ⟨_, fun w' => Dx hT hcv h1, aJ.old h2 (Nat.le_refl _) rfl rfl hs⟩
 ·split at h
  ·rename_i cv hcv
   obtain ⟨h1, h2⟩ := lQ h
   refine ⟨_, fun w' => ∃ Φ', Sat (items ρ T fr.H ++ Φ') w', fun _ h => h, fun w' hw => ?_, aJ.old h2 (Nat.le_refl _) rfl rfl hs⟩
   obtain ⟨Φ', hΦ⟩ := hw
   exact CW (G := []) (Φ := Φ') hΦ hcv h1
  ·obtain ⟨h1, h2⟩ := aw h
   unfold HI at h2
   split at h2
   ·split at h2
    ·exact okq (FE h1 hs h2)
    ·exact okq (Ee h1 hΓ hs h2)
   ·exact okq (F4 h1 hs h2)
   ·cases h2
def BF (ρ : Nms) (x : Pdg) (w : World) : Prop := ∃ cs t, er w (ρ x.2.1).b t cs ∧ (cs.drop x.2.2.1).take x.2.2.2.length = x.2.2.2.map fun u => (ρ u).x
def Hh (c : Nat) (Pd : List Pdg) : Prop := ∀ x, x ∈ Pd → x.2.1 < c ∧ ∀ u, u ∈ x.2.2.2 → u < c
theorem zK {ρ ρ' : Nms} {c : Nat} (ha : aE c ρ ρ') {x : Pdg} (hx : x.2.1 < c ∧ ∀ u, u ∈ x.2.2.2 → u < c) {w : World} : BF ρ' x w ↔ BF ρ x w := by
 unfold BF
 rw [ha _ hx.1]
 have : (x.2.2.2.map fun u => (ρ' u).x) = x.2.2.2.map fun u => (ρ u).x := List.map_congr_left fun u hu => by rw [ha _ (hx.2 u hu)]
 rw [this]
theorem Cj {ρ : Nms} : ∀ {l : List AV} {us : List Nat}, G2 l us = true → (AV.ah ρ l).take us.length = us.map fun u => (ρ u).x
 | l, [], _ => by simp
 | l, n :: ns, h => by
  unfold G2 at h
  split at h
  ·rename_i u l'
   simp only [Bool.and_eq_true] at h
   have e := Nat.eq_of_beq_eq_true h.1
   subst e
   simp only [AV.ah, AV.val, List.length_cons, List.take_succ_cons, List.map_cons]
   rw [Cj h.2]
  ·cases h
theorem AF {ρ : Nms} : ∀ {l : List AV} {us : List Nat}, yD l = some us → AV.ah ρ l = us.map (fun u => (ρ u).x) ∧ us.length = l.length
 | [], us, h => by cases h; simp [AV.ah]
 | v :: l, us, h => by
  unfold yD at h
  split at h
  ·rename_i u
   split at h
   ·rename_i us' hus
    cases h
    obtain ⟨h1, h2⟩ := AF (ρ := ρ) hus
    simp [AV.ah, AV.val, h1, h2]
   ·cases h
  ·cases h
theorem BE {c : Nat} : ∀ {l : List AV} {us : List Nat}, yD l = some us → AV.bJ c l = true → ∀ u, u ∈ us → u < c
 | [], us, h, _, u, hu => by cases h; cases hu
 | v :: l, us, h, hl, u, hu => by
  unfold yD at h
  split at h
  ·rename_i u'
   split at h
   ·rename_i us' hus
    cases h
    simp only [AV.bJ, AV.low, Bool.and_eq_true, Nat.blt_eq] at hl
    rcases List.mem_cons.1 hu with rfl | hu
    ·exact hl.1
    ·exact BE hus hl.2 u hu
   ·cases h
  ·cases h
theorem IN {ρ : Nms} {T : Tbl} {G : List Row} {B : Ctx} {w : World} (hs : Sat (items ρ T G ++ B) w) : ∀ {Pd : List Pdg}, pdB G Pd = true → ∀ x, x ∈ Pd → BF ρ x w
 | [], _, x, hx => by cases hx
 | y :: Pd, h, x, hx => by
  simp only [pdB, Bool.and_eq_true] at h
  rcases List.mem_cons.1 hx with rfl | hx
  ·have h1 := h.1
   split at h1
   ·rename_i j id t cs hf
    obtain ⟨f1, f2⟩ := kM hf
    have : id = x.2.1 := Nat.eq_of_beq_eq_true f2
    subst this
    have hb : er w (ρ x.2.1).b t (AV.ah ρ cs) := hs.at_ (iL f1)
    refine ⟨_, t, hb, ?_⟩
    rw [← AV.fJ]
    exact Cj h1
   ·cases h1
  ·exact IN hs h.2 x hx
theorem oN {k : Nat} : ∀ {Pd : List Pdg} {x : Pdg}, x ∈ eK ops k Pd ↔ x ∈ Pd ∧ waits .any ops.toArray k x.1 = false
 | [], x => by simp [eK]
 | y :: Pd, x => by
  unfold eK
  cases hw : waits .any ops.toArray k y.1
  ·show x ∈ y :: eK ops k Pd ↔ _
   rw [List.mem_cons, List.mem_cons, oN]
   constructor
   ·rintro (rfl | ⟨h1, h2⟩)
    ·exact ⟨.inl rfl, hw⟩
    ·exact ⟨.inr h1, h2⟩
   ·rintro ⟨rfl | h1, h2⟩
    ·exact .inl rfl
    ·exact .inr ⟨h1, h2⟩
  ·show x ∈ eK ops k Pd ↔ _
   rw [List.mem_cons, oN]
   constructor
   ·rintro ⟨h1, h2⟩; exact ⟨.inr h1, h2⟩
   ·rintro ⟨rfl | h1, h2⟩
    ·rw [hw] at h2; cases h2
    ·exact ⟨h1, h2⟩
theorem LU {pend : iq} {w : World} (h : ∀ p, p ∈ pend → p.2 w) : oJ pend w := by
 induction pend with
 | nil => trivial
 | cons p l ih => exact ⟨h p (List.mem_cons_self ..), ih fun q hq => h q (List.mem_cons_of_mem _ hq)⟩
theorem Nc {P : Program} {ρ : Nms} {Ev : Env} {g : Bool} {t : TypeId} {x : Operand} {n : Nat} {l : List AV} {v : AV} {ad : Addr} {w : World} {dst : Option Tmp} {ty : TypeId} {pos : String} {af : Array Edge} {gd : Option (Nat × Bool)}
  (hx : Opd Ev g x (.pointer (some ad))) (hn : szA P t = some n) (hv : lS P t l = some v) (hl : n ≤ l.length) (hc : aM w ad ((AV.ah ρ l).take n)) : Run P Ev g ⟨dst, .load t x, ty, pos, af, gd⟩ w (v.val ρ) := by
 have h' : lS P t (l.drop 0) = some v := by simpa using hv
 obtain ⟨d, n', bytes, z, c1, c2, c3⟩ := o7 (X := ⟨P, [], []⟩) (ρ := ρ) h'
 have c1 : P.underlying t = some d := c1
 unfold szA at hn
 rw [c1] at hn
 rcases fD hn with ⟨hd, h2⟩ | ⟨hd, h2⟩
 ·split at h2
  ·rename_i z2 hz2
   obtain ⟨m, b2, z2⟩ := z2
   cases h2
   unfold lS at hv
   rw [c1] at hv
   rcases fD hv with ⟨_, h3⟩ | ⟨h3, _⟩
   ·rw [hz2] at h3
    obtain ⟨_, h5⟩ := aw h3
    cases h5
    simp only [AV.val, AV.jn]
    exact xC c1 hd (fg hz2) hx (fun _ => hc) (by rw [List.length_take, AV.aW]; exact Nat.min_eq_left hl)
   ·rw [hd] at h3; cases h3
  ·cases h2
 ·cases h2
  rw [hd] at c3
  simp only [Bool.false_eq_true, if_false] at c3
  refine xj c1 hd hx (fun _ => ?_)
  have e : (AV.ah ρ l).take 1 = [v.val ρ] := by
   cases hq : AV.ah ρ l with
   | nil => rw [hq] at c3; cases c3
   | cons a l => rw [hq] at c3; cases c3; rfl
  rw [e] at hc; exact hc
theorem EZ {l : List Value} {off n : Nat} (h : off + n ≤ l.length) : ki l off ((l.drop off).take n) = l := by
 unfold ki
 have e1 : ((l.drop off).take n).length = n := by rw [List.length_take, List.length_drop]; omega
 rw [e1]
 have e2 : (l.drop off).take n ++ l.drop (off + n) = l.drop off := by
  rw [← List.drop_drop, List.take_append_drop]
 rw [List.append_assoc, e2, List.take_append_drop]
theorem JA {T : Tbl} {st : StB} {g : GK} {k : Nat} {o : Oper} {ρ : Nms} {w : World} {KQ : List Row → Pdg → StB → Option R} (hs : Sat (items ρ T st.G ++ (items ρ T fr.H ++ Φ)) w) (h : G3 X T fr st g k o KQ = some (some r)) :
  ∃ (v : Value) (ρ' : Nms) (st' : StB) (av : AV) (Rq : List Row) (p : Pdg), KQ Rq p st' = some r ∧ aE st.c ρ ρ' ∧ st.c ≤ st'.c ∧ st'.E = dh o.dst g av st.E ∧ av.val ρ' = v ∧ aq ρ' T st.E fr.F = aq ρ T st.E fr.F ∧ items ρ' T fr.H = items ρ T fr.H ∧
   Sat (items ρ' T st'.G ++ (items ρ' T (Rq ++ fr.H) ++ Φ)) w ∧ p.1 = k ∧ BF ρ' p w ∧ (p.2.1 < st'.c ∧ ∀ u, u ∈ p.2.2.2 → u < st'.c) ∧ (∀ w', BF ρ' p w' → Run X.P (aq ρ T st.E fr.F) (T.get g) o w' v) := by
 obtain ⟨dst, op, ty, pos, af, gd⟩ := o
 unfold G3 at h
 simp only at h
 split at h
 ·rename_i t x d
  split at h
  ·rename_i id off hx
   split at h
   ·rename_i j id' bt cs hf
    simp only [Option.some.injEq] at h
    split at h
    ·rename_i n hn
     split at h
     ·rename_i v hv
      split at h
      ·rename_i us hus
       obtain ⟨h1, h2⟩ := aw h
       simp only [Bool.and_eq_true, Nat.ble_eq] at h1
       obtain ⟨⟨hl, hvl⟩, hle⟩ := h1
       obtain ⟨l1, l2, l3, l4⟩ := StB.dN.1 hl
       obtain ⟨f1, f2⟩ := kM hf
       have : id' = id := Nat.eq_of_beq_eq_true f2
       subst this
       have hj : j < st.G.length := (List.getElem?_eq_some_iff.1 f1).1
       have hrow := rM l3 f1
       simp only [Row.low, Bool.and_eq_true, Nat.blt_eq] at hrow
       have hsub : ∀ {l : List AV} {c m q : Nat}, AV.bJ c l = true → AV.bJ c ((l.drop m).take q) = true := fun {l c m q} h => by
        have dr : ∀ (l : List AV) (m : Nat), AV.bJ c l = true → AV.bJ c (l.drop m) = true := fun l => by
         induction l with
         | nil => intro m h; simp [AV.bJ]
         | cons a l ih =>
          intro m h
          cases m with
          | zero => exact h
          | succ m => simp only [AV.bJ, Bool.and_eq_true] at h; exact ih m h.2
        have tk : ∀ (l : List AV) (m : Nat), AV.bJ c l = true → AV.bJ c (l.take m) = true := fun l => by
         induction l with
         | nil => intro m h; simp [AV.bJ]
         | cons a l ih =>
          intro m h
          cases m with
          | zero => rfl
          | succ m => simp only [AV.bJ, Bool.and_eq_true, List.take_succ_cons] at h ⊢; exact ⟨h.1, ih m h.2⟩
        exact tk _ _ (dr _ _ h)
       obtain ⟨ρ', lk⟩ := vQ (ρ := ρ) (hsub (m := off) (q := n) hrow.2)
       obtain ⟨i1, i2⟩ := AF (ρ := ρ') hus
       have hil := BE hus lk.lw
       generalize jr st.c ((cs.drop off).take n) = L at h2 lk hus i1 i2 hil
       obtain ⟨ls, Rq, c'⟩ := L
       have hcc : st.c ≤ c' := lk.le
       have hag : aE st.c ρ ρ' := lk.ag
       have heq : AV.ah ρ' ls = AV.ah ρ ((cs.drop off).take n) := lk.eq
       have hb : er w (ρ id').b bt (AV.ah ρ cs) := hs.at_ (iL f1)
       have hcsl : AV.ah ρ' cs = AV.ah ρ cs := AV.bH hag _ hrow.2
       have hval : v.val ρ' = v.val ρ := AV.js hag _ hvl
       have hus2 : us.length = n := by
        have e1 : (AV.ah ρ' ls).length = n := by rw [heq, AV.aW, List.length_take, List.length_drop]; omega
        rw [i2, ← AV.aW (ρ := ρ') (l := ls)]; exact e1
       have eG := aX (T := T) hag l3
       have eH := aX (T := T) hag l4
       have e3 : (us.map fun u => (ρ' u).x) = ((AV.ah ρ cs).drop off).take n := by rw [← i1, heq, AV.jn, AV.fJ]
       refine ⟨v.val ρ, ρ', _, v, Rq, (k, id', off, us), h2, hag, hcc, rfl, hval, q8 hl hag, eH, ?_, rfl, ⟨AV.ah ρ cs, bt, ?_, ?_⟩, ⟨Nat.lt_of_lt_of_le hrow.1 hcc, hil⟩, fun w' hw => ?_⟩
       ·show Sat (items ρ' T (st.G.set j _) ++ (items ρ' T (Rq ++ fr.H) ++ Φ)) w
        rw [iB hj, eG]
        have e4 : (Row.box id' bt (nJ cs off ls)).item ρ' T = (Row.box id' bt cs).item ρ T := by
         simp only [Row.item]
         rw [hag _ hrow.1, ← pU, hcsl, heq, AV.jn, AV.fJ, EZ (by rw [AV.aW]; exact hle)]
        have hi := iL (ρ := ρ) (T := T) (Φ := items ρ' T (Rq ++ fr.H) ++ Φ) f1
        have e5 : (items ρ T st.G ++ (items ρ' T (Rq ++ fr.H) ++ Φ)).set j ((Row.box id' bt (nJ cs off ls)).item ρ' T) = items ρ T st.G ++ (items ρ' T (Rq ++ fr.H) ++ Φ) := by
         rw [e4]
         apply List.ext_getElem?
         intro q
         by_cases hq : q = j
         ·subst hq
          rw [List.getElem?_set_self (List.getElem?_eq_some_iff.1 hi).1, hi]
         ·rw [List.getElem?_set_ne (fun h => hq h.symm)]
        rw [e5, aU, eH, List.append_assoc]
        have ins : ∀ (L : List Item) (A B : Ctx), Sat (A ++ B) w → (∀ it ∈ L, it.own = [] ∧ ∀ M w, it.P M w) → Sat (A ++ (L ++ B)) w := fun L => by
         induction L with
         | nil => intro A B h _; exact h
         | cons x L ih =>
          intro A B h hL
          have h1 := ih A B h (fun it hit => hL it (List.mem_cons_of_mem _ hit))
          have hx := hL x (List.mem_cons_self ..)
          refine h1.tT (fun j k => (j < A.length ∧ k = j) ∨ (A.length < j ∧ k + 1 = j)) (fun j jt hj => ?_) (fun j k q hjk h1 h2 => by omega)
          by_cases e : j < A.length
          ·rw [List.getElem?_append_left e] at hj
           exact .inr ⟨j, jt, .inl ⟨e, rfl⟩, by rw [List.getElem?_append_left e]; exact hj, bk.refl⟩
          ·rw [List.getElem?_append_right (by omega)] at hj
           by_cases e2 : j = A.length
           ·subst e2
            simp at hj
            subst hj
            exact .inl hx
           ·refine .inr ⟨j - 1, jt, .inr ⟨by omega, by omega⟩, ?_, bk.refl⟩
            rw [List.getElem?_append_right (by omega)]
            have : j - A.length = (j - 1 - A.length) + 1 := by omega
            rw [this, List.cons_append, List.getElem?_cons_succ] at hj
            exact hj
        refine ins (items ρ' T Rq) (items ρ T st.G) (items ρ T fr.H ++ Φ) hs (fun it hit => ?_)
        obtain ⟨rw_, hr1, rfl⟩ := List.mem_map.1 hit
        have h9 := lk.rp rw_ hr1
        have h10 : rw_.item ρ' T = rw_.item ρ' [] := by
         have hgd : rw_.gd = none := lk.rg rw_ hr1
         exact Row.ze (by rw [hgd, Tbl.get_none, Tbl.get_none])
        rw [h10]
        exact ⟨(rw_.item ρ' []).hp h9.1, h9.2⟩
       ·show er w (ρ' id').b bt _
        rw [hag _ hrow.1]; exact hb
       ·show ((AV.ah ρ cs).drop off).take us.length = us.map fun u => (ρ' u).x
        rw [hus2, e3]
       ·obtain ⟨csv, t2, b1, b2⟩ := hw
        have b1 : er w' (ρ' id').b t2 csv := b1
        have b2 : (csv.drop off).take us.length = us.map fun u => (ρ' u).x := b2
        rw [hag _ hrow.1] at b1
        rw [hus2, e3] at b2
        have hx' := aC (ρ := ρ) hx
        simp only [AV.val] at hx'
        have e6 : AV.ah ρ ((cs.drop off).map (pO st.G fr.H)) = (AV.ah ρ cs).drop off := by rw [xw hs, AV.fJ]
        refine Nc hx' hn hv (by rw [List.length_map, List.length_drop]; omega) ?_
        rw [e6]
        refine b1.part off ?_
        have : (((AV.ah ρ cs).drop off).take n).length = n := by rw [List.length_take, List.length_drop, AV.aW]; omega
        rw [this]; exact b2
      ·cases h
     ·cases h
    ·cases h
   ·cases h
  ·cases h
 ·cases h
theorem BC {order : OT} {k mk_ : Nat} {pend : iq} {o : Oper} {T T' : Tbl} {g : GK} {fr1 : Fr} {st1 : StB} {ρ : Nms} {w : World} {v : Value} {J : World → Prop} (hn : fr1.n = fr.n) (so : Ie ops fr fr1 st1 ρ o T T' g) (ho : ops[k]? = some o) (hJw : J w)
  (hr : ∀ w', J w' → Run X.P (aq ρ T' st1.E fr1.F) (T'.get g) o w' v) (hnext : WD X.P σ ops.toArray Q fr.n D order ((k, J) :: pend) (pg o.dst (T'.get g) v (aq ρ T' st1.E fr1.F)) w) :
  WD X.P σ ops.toArray Q fr.n D (.q k mk_ order) pend (aq ρ T' st1.E fr1.F) w := by
 have ho' : ops.toArray[k]? = some o := by simpa using ho
 have hds := so.ds
 rw [hn] at hds
 intro a hfit hD
 simp only [wpD, ho']
 cases hg : g with
 | none =>
  subst hg
  rw [Tbl.get_none] at hr hnext
  refine ⟨v, J, hJw, .inl ⟨by simp [Region.wanted, so.gg], fun w' hw' => hr w' hw' _ a hfit rfl⟩, ?_⟩
  exact hnext _ (hfit.pg hds) (by rw [jO]; exact hD)
 | some gk =>
  obtain ⟨rj, par, b, g1, g2, g3, g4⟩ := so.gk gk hg
  rw [hn] at g3
  subst hg
  have hw := xv (ops := ops.toArray) so.gg (by simpa using g1) g2 hfit g3
  rw [g4] at hw
  cases hT : T'.get (some gk)
  ·rw [hT] at hw hnext
   refine ⟨undef, J, hJw, .inr ⟨hw, rfl⟩, ?_⟩
   exact hnext _ (hfit.pg (g := false) (v := v) hds) (by rw [jO]; exact hD)
  ·rw [hT] at hw hr hnext
   refine ⟨v, J, hJw, .inl ⟨hw, fun w' hw' => hr w' hw' _ a hfit rfl⟩, ?_⟩
   exact hnext _ (hfit.pg hds) (by rw [jO]; exact hD)
def HP (ρ : Nms) (T : Tbl) (fr : Fr) (A : List Row) (Pd : List Pdg) (pend : iq) : Prop := ∀ p, p ∈ pend → ∀ w', (∃ Φ', Sat (items ρ T (A ++ fr.H) ++ Φ') w') → (∀ x, x ∈ Pd → x.1 = p.1 → BF ρ x w') → p.2 w'
theorem Mq (hΓ : ∀ it ∈ X.Γ, it ∈ Φ) (htb : ∀ e ∈ tb, e.Ok X.P X.Γ) (htp : ∀ e ∈ tp, e.Ok X.P X.Γ) : ∀ {order : OT} {A : List Row} {Pd : List Pdg} {T : Tbl} {st : StB} {ρ : Nms} {w : World} {pend : iq}, gV T st.E fr.F → mY ops fr.n T → FT T fr → Hh st.c Pd → Sat (items ρ T st.G ++ (items ρ T (A ++ fr.H) ++ Φ)) w →
  HP ρ T fr A Pd pend → nj X tb tp KP ops fr order A Pd T st K = some r →
  (∀ st' ρ' w', aE st.c ρ ρ' → st.c ≤ st'.c → K st' = some r → Sat (items ρ' [] st'.G ++ (items ρ' [] fr.H ++ Φ)) w' → At Q .normal fr.n D (aq ρ' [] st'.E fr.F) w') →
  (∀ v st' ρ' w', aE st.c ρ ρ' → st.c ≤ st'.c → KP v st' = some r → Sat (items ρ' [] st'.G ++ (items ρ' [] fr.H ++ Φ)) w' → AtP Q (pan (v.val ρ')) D w') →
  WD X.P σ ops.toArray Q fr.n D order pend (aq ρ T st.E fr.F) w := by
 intro order
 -- a loud operation, the rest by induction
 have loud : ∀ (rest : OT) (k mk : Nat), (∀ {A : List Row} {Pd : List Pdg} {T : Tbl} {st : StB} {ρ : Nms} {w : World} {pend : iq}, gV T st.E fr.F → mY ops fr.n T → FT T fr → Hh st.c Pd → Sat (items ρ T st.G ++ (items ρ T (A ++ fr.H) ++ Φ)) w →
   HP ρ T fr A Pd pend → nj X tb tp KP ops fr rest A Pd T st K = some r →
   (∀ st' ρ' w', aE st.c ρ ρ' → st.c ≤ st'.c → K st' = some r → Sat (items ρ' [] st'.G ++ (items ρ' [] fr.H ++ Φ)) w' → At Q .normal fr.n D (aq ρ' [] st'.E fr.F) w') →
   (∀ v st' ρ' w', aE st.c ρ ρ' → st.c ≤ st'.c → KP v st' = some r → Sat (items ρ' [] st'.G ++ (items ρ' [] fr.H ++ Φ)) w' → AtP Q (pan (v.val ρ')) D w') →
   WD X.P σ ops.toArray Q fr.n D rest pend (aq ρ T st.E fr.F) w) →
   ∀ {A : List Row} {Pd : List Pdg} {T : Tbl} {st : StB} {ρ : Nms} {w : World} {pend : iq}, gV T st.E fr.F → mY ops fr.n T → FT T fr → Hh st.c Pd → Sat (items ρ T st.G ++ (items ρ T (A ++ fr.H) ++ Φ)) w →
   HP ρ T fr A Pd pend →
   (match ops[k]? with
    | some o => Aj X tb tp KP ops fr A T st o fun T st' => ifS (pdB st'.G (eK ops k Pd)) (nj X tb tp KP ops fr rest (aZ (fun r => !(cV r)) st.G ++ A) (eK ops k Pd) T st' K) none
    | none => none) = some r →
   (∀ st' ρ' w', aE st.c ρ ρ' → st.c ≤ st'.c → K st' = some r → Sat (items ρ' [] st'.G ++ (items ρ' [] fr.H ++ Φ)) w' → At Q .normal fr.n D (aq ρ' [] st'.E fr.F) w') →
   (∀ v st' ρ' w', aE st.c ρ ρ' → st.c ≤ st'.c → KP v st' = some r → Sat (items ρ' [] st'.G ++ (items ρ' [] fr.H ++ Φ)) w' → AtP Q (pan (v.val ρ')) D w') →
   WD X.P σ ops.toArray Q fr.n D (.l k mk rest) pend (aq ρ T st.E fr.F) w := by
  intro rest k mk ih A Pd T st ρ w pend h1 h2 hf hpd hs hp h next pnext
  split at h
  ·rename_i o ho
   have hs1 := pT (A := []) (p := cV) hs
   refine Mw (k := k) (mk := mk) (o := o) (by simpa using ho) rfl ?_
   have fin : ∀ T' st' ρ' w', gV T' st'.E (frM fr A st).F → mY ops (frM fr A st).n T' → FT T' fr → aE (stM st).c ρ ρ' → (stM st).c ≤ st'.c → (ifS (pdB st'.G (eK ops k Pd)) (nj X tb tp KP ops fr rest (aZ (fun r => !(cV r)) st.G ++ A) (eK ops k Pd) T' st' K) none) = some r → items ρ' T' (frM fr A st).H = items ρ T (frM fr A st).H → Sat (items ρ' T' st'.G ++ (items ρ' T' (frM fr A st).H ++ Φ)) w' →
     WL X.P σ ops.toArray (QK X.P σ ops.toArray Q fr.n D rest (still .any ops.toArray k pend)) fr.n D [] (aq ρ' T' st'.E (frM fr A st).F) w' := by
    intro T' st' ρ' w' a1 a2 a3 a4 a5 a6 a7 a8
    obtain ⟨a9, a10⟩ := aw a6
    have e1 : aZ (fun r => !(cV r)) st.G ++ (A ++ fr.H) = (aZ (fun r => !(cV r)) st.G ++ A) ++ fr.H := by rw [List.append_assoc]
    have hs8 : Sat (items ρ' T' st'.G ++ (items ρ' T' ((aZ (fun r => !(cV r)) st.G ++ A) ++ fr.H) ++ Φ)) w' := by rw [← e1]; exact a8
    have conv : ∀ w2, (∃ Φ', Sat (items ρ' T' ((aZ (fun r => !(cV r)) st.G ++ A) ++ fr.H) ++ Φ') w2) → ∃ Φ', Sat (items ρ T (A ++ fr.H) ++ Φ') w2 := fun w2 hw => by
     obtain ⟨Φ', hΦ⟩ := hw
     refine ⟨Φ', ?_⟩
     rw [← e1] at hΦ
     have hΦ2 : Sat (items ρ T (aZ (fun r => !(cV r)) st.G ++ (A ++ fr.H)) ++ Φ') w2 := by rw [← a7]; exact hΦ
     rw [aU, List.append_assoc] at hΦ2
     exact hΦ2.vq
    have mem : ∀ p, p ∈ still .any ops.toArray k pend → p ∈ pend ∧ ∀ x, x ∈ Pd → x.1 = p.1 → x ∈ eK ops k Pd := fun p hpm => by
     unfold still at hpm
     rw [List.mem_filter] at hpm
     exact ⟨hpm.1, fun x hx he => oN.2 ⟨hx, by rw [he]; simpa using hpm.2⟩⟩
    have HP' : HP ρ' T' fr (aZ (fun r => !(cV r)) st.G ++ A) (eK ops k Pd) (still .any ops.toArray k pend) := fun p hpm w2 hw hB => by
     obtain ⟨m1, m2⟩ := mem p hpm
     exact hp p m1 w2 (conv w2 hw) (fun x hx he => (zK a4 (hpd x hx)).1 (hB x (m2 x hx he) he))
    have hBF := IN (B := items ρ' T' ((aZ (fun r => !(cV r)) st.G ++ A) ++ fr.H) ++ Φ) hs8 a9
    refine EE (OC (LU fun p hpm => HP' p hpm w' ⟨Φ, hs8.vq⟩ (fun x hx _ => hBF x hx)) ?_)
    exact ih a1 a2 a3 (fun x hx => ⟨Nat.lt_of_lt_of_le (hpd x (oN.1 hx).1).1 a5, fun u hu => Nat.lt_of_lt_of_le ((hpd x (oN.1 hx).1).2 u hu) a5⟩) hs8 HP' a10 (fun st2 ρ2 w2 b1 b2 b3 b4 => next st2 ρ2 w2 (a4.trans b1 a5) (Nat.le_trans a5 b2) b3 b4) (fun v st2 ρ2 w2 b1 b2 b3 b4 => pnext v st2 ρ2 w2 (a4.trans b1 a5) (Nat.le_trans a5 b2) b3 b4)
   unfold Aj at h
   split at h
   ·rename_i q hq
    subst h
    refine Lv (fr := frM fr A st) (st := stM st) h1 hs1 hΓ htp hq (fun st' ρ' w' a1 a4 a5 a6 a7 a8 => fin T st' ρ' w' a1 h2 hf a4 a5 a6 a7 a8) (fun v st' ρ' w' a1 a2 a3 ae1 ae2 a4 => ?_)
    have a4' : Sat (items ρ' T ({ st' with G := st'.G ++ (aZ (fun r => !(cV r)) st.G ++ A) } : StB).G ++ (items ρ' T fr.H ++ Φ)) w' := by
     have e2 : (frM fr A st).H = (aZ (fun r => !(cV r)) st.G ++ A) ++ fr.H := by rw [List.append_assoc]
     rw [e2, aU, List.append_assoc] at a4
     show Sat (items ρ' T (st'.G ++ (aZ (fun r => !(cV r)) st.G ++ A)) ++ _) w'
     rw [aU, List.append_assoc]
     exact a4
    obtain ⟨st2, k1, k2, _, k3⟩ := Gg (fr := fr) hf a3 a4'
    have k2' : st2.c = st'.c := k2
    have := pnext v st2 ρ' w' a1 (by rw [k2']; exact a2) k1 k3
    exact Fh this
   ·exact II (fr := frM fr A st) (st := stM st) (fr0 := fr) (K := fun T st' => ifS (pdB st'.G (eK ops k Pd)) (nj X tb tp KP ops fr rest (aZ (fun r => !(cV r)) st.G ++ A) (eK ops k Pd) T st' K) none) h1 h2 rfl (fun r hr => List.mem_append_right _ (List.mem_append_right _ hr)) hf hs1 hΓ htb h fin
  ·cases h
 induction order with
 | nil =>
  intro A Pd T st ρ w pend h1 h2 hf hpd hs hp h next pnext
  unfold nj at h
  obtain ⟨h3, h4⟩ := aw h
  have hs' : Sat (items ρ T ({ st with G := st.G ++ A } : StB).G ++ (items ρ T fr.H ++ Φ)) w := by
   show Sat (items ρ T (st.G ++ A) ++ _) w
   rw [aU, List.append_assoc]
   rw [aU, List.append_assoc] at hs
   exact hs
  obtain ⟨k1, k2, k3⟩ := zw h3 hf hs'
  exact Nx ((next _ ρ w .refl (by rw [k1]; exact Nat.le_refl _) h4 k3).px _ k2)
 | q k m rest ih =>
  intro A Pd T st ρ w pend h1 h2 hf hpd hs hp h next pnext
  unfold nj at h
  split at h
  ·rename_i o ho
   have hs1 := pT (A := []) (p := cV) hs
   obtain ⟨T', g, hk, so⟩ := DS (ρ := ρ) (fr0 := fr) (fr := frM fr A st) (st := stM st) h1 h2 rfl (fun r hr => List.mem_append_right _ (List.mem_append_right _ hr)) hf h
   have hs' : Sat (items ρ T' (stM st).G ++ (items ρ T' (frM fr A st).H ++ Φ)) w := by rw [so.eg, so.eh]; exact hs1
   have he : aq ρ T st.E fr.F = aq ρ T' st.E fr.F := by
    have e1 := so.ee
    have e2 := so.ef
    rw [aq, aq, e1, e2]
   rw [he]
   have e1 : aZ (fun r => !(cV r)) st.G ++ (A ++ fr.H) = (aZ (fun r => !(cV r)) st.G ++ A) ++ fr.H := by rw [List.append_assoc]
   -- from what stands then to what stands now
   have conv0 : ∀ w2 Φ', Sat (items ρ T' (aZ (fun r => !(cV r)) st.G ++ (A ++ fr.H)) ++ Φ') w2 → ∃ Φ', Sat (items ρ T (A ++ fr.H) ++ Φ') w2 := fun w2 Φ' hΦ => by
    refine ⟨Φ', ?_⟩
    have hΦ2 : Sat (items ρ T (aZ (fun r => !(cV r)) st.G ++ (A ++ fr.H)) ++ Φ') w2 := by rw [← so.eh]; exact hΦ
    rw [aU, List.append_assoc] at hΦ2
    exact hΦ2.vq
   split at hk
   ·rename_i q hq
    subst hk
    obtain ⟨v, ρ', st', av, Rq, p, k1, k2, k3, k4, k5, k6, k7, k8, k9, k10, k11, k12⟩ := JA (fr := frM fr A st) (st := stM st) hs' hq
    have e2 : Rq ++ (aZ (fun r => !(cV r)) st.G ++ (A ++ fr.H)) = (Rq ++ (aZ (fun r => !(cV r)) st.G ++ A)) ++ fr.H := by simp
    refine BC (fr1 := frM fr A st) (st1 := stM st) (J := BF ρ' p) rfl so ho k10 k12 ?_
    have := ih (A := Rq ++ (aZ (fun r => !(cV r)) st.G ++ A)) (Pd := p :: Pd) (T := T') (st := st') (ρ := ρ') (w := w) (pend := (k, BF ρ' p) :: pend) (by rw [k4]; exact so.t1.out so.ak g av) so.t2 so.ft (fun x hx => ?_) (by rw [← e2]; exact k8) (fun q hqm w2 hw hB => ?_) k1 (fun st2 ρ2 w2 b1 b2 b3 b4 => next st2 ρ2 w2 (k2.trans b1 k3) (Nat.le_trans k3 b2) b3 b4) (fun v st2 ρ2 w2 b1 b2 b3 b4 => pnext v st2 ρ2 w2 (k2.trans b1 k3) (Nat.le_trans k3 b2) b3 b4)
    ·rw [k4, yy, k5, k6] at this
     exact this
    ·rcases List.mem_cons.1 hx with rfl | hx
     ·exact k11
     ·exact ⟨Nat.lt_of_lt_of_le (hpd x hx).1 k3, fun u hu => Nat.lt_of_lt_of_le ((hpd x hx).2 u hu) k3⟩
    ·rcases List.mem_cons.1 hqm with rfl | hqm
     ·exact hB p (List.mem_cons_self ..) k9
     ·obtain ⟨Φ', hΦ⟩ := hw
      rw [← e2, aU, List.append_assoc] at hΦ
      have hΦ1 := hΦ.vq
      have hΦ2 : Sat (items ρ T' (aZ (fun r => !(cV r)) st.G ++ (A ++ fr.H)) ++ Φ') w2 := by rw [← k7]; exact hΦ1
      exact hp q hqm w2 (conv0 w2 Φ' hΦ2) (fun x hx he => (zK k2 (hpd x hx)).1 (hB x (List.mem_cons_of_mem _ hx) he))
   ·obtain ⟨v, J, hJ, hr, hO⟩ := IC (fr := frM fr A st) (st := stM st) hΓ so.t1 hs' hk
    obtain ⟨ρ', st', av, k1, k2, k3, k4, k5, k6, k7, k8⟩ := hO
    refine BC (fr1 := frM fr A st) (st1 := stM st) rfl so ho (hJ w ⟨Φ, hs'.vq⟩) hr ?_
    have := ih (A := aZ (fun r => !(cV r)) st.G ++ A) (Pd := Pd) (T := T') (st := st') (ρ := ρ') (w := w) (pend := (k, J) :: pend) (by rw [k4]; exact so.t1.out so.ak g av) so.t2 so.ft (fun x hx => ⟨Nat.lt_of_lt_of_le (hpd x hx).1 k3, fun u hu => Nat.lt_of_lt_of_le ((hpd x hx).2 u hu) k3⟩) (by rw [← e1]; exact k8) (fun q hqm w2 hw hB => ?_) k1 (fun st2 ρ2 w2 b1 b2 b3 b4 => next st2 ρ2 w2 (k2.trans b1 k3) (Nat.le_trans k3 b2) b3 b4) (fun v st2 ρ2 w2 b1 b2 b3 b4 => pnext v st2 ρ2 w2 (k2.trans b1 k3) (Nat.le_trans k3 b2) b3 b4)
    ·rw [k4, yy, k5, k6] at this
     exact this
    ·obtain ⟨Φ', hΦ⟩ := hw
     rw [← e1] at hΦ
     have hΦ1 : Sat (items ρ T' (aZ (fun r => !(cV r)) st.G ++ (A ++ fr.H)) ++ Φ') w2 := by rw [← k7]; exact hΦ
     rcases List.mem_cons.1 hqm with rfl | hqm
     ·exact hJ w2 ⟨Φ', hΦ1⟩
     ·exact hp q hqm w2 (conv0 w2 Φ' hΦ1) (fun x hx he => (zK k2 (hpd x hx)).1 (hB x hx he))
  ·cases h
 | l k m rest ih =>
  intro A Pd T st ρ w pend h1 h2 hf hpd hs hp h next pnext
  unfold nj at h
  exact loud rest k m (fun {A Pd T st ρ w pend} => ih) h1 h2 hf hpd hs hp h next pnext
 | l2 m k1 r1 k2 r2 ih1 ih2 =>
  intro A Pd T st ρ w pend h1 h2 hf hpd hs hp h next pnext
  unfold nj at h
  obtain ⟨h3, h4⟩ := BS h
  exact Lc (loud r1 k1 m (fun {A Pd T st ρ w pend} => ih1) h1 h2 hf hpd hs hp h3 next pnext) (loud r2 k2 m (fun {A Pd T st ρ w pend} => ih2) h1 h2 hf hpd hs hp h4 next pnext)
end
end Go.Proofs.YtdhgpnejphlfpaaGreatDoor
namespace Go.Proofs.YtdhgpnejphlfpaaGreatDoor
open Go.Lib
/-! what a piece of code assigns -/
def fL : Code → Nat
 | .region _ ops _ => ops.toList.foldl (fun m o => match o.dst with | some d => Nat.lor m (Nat.shiftLeft 1 d) | none => m) 0
 | .seq a b => Nat.lor (fL a) (fL b)
 | .cond _ a b => Nat.lor (fL a) (fL b)
 | .block _ c => fL c
 | .loop c => fL c
 | .scope c => fL c
 | .rangeFunc _ ps a b => Nat.lor (ps.toList.foldl (fun m d => Nat.lor m (Nat.shiftLeft 1 d)) 0) (Nat.lor (fL a) (fL b))
 | _ => 0
def zh (t : Nat) : List (Bool × Nat × Pt) → Bool
 | [] => false
 | x :: l => (!x.1 && Nat.beq x.2.1 t) || zh t l
def o9 (m : Nat) (vs : List (Bool × Nat × Pt)) (t : Nat) : Bool := !(Nat.testBit m t) && !(zh t vs)
def jU (m : Nat) (vs : List (Bool × Nat × Pt)) : an → an
 | [] => []
 | x :: E => ifS ( o9 m vs x.1 ) ( x :: jU m vs E ) ( jU m vs E )
def kF (m : Nat) (vs : List (Bool × Nat × Pt)) : an → an
 | [] => []
 | x :: E => ifS ( o9 m vs x.1 ) ( kF m vs E ) ( x :: kF m vs E )
theorem BT {m : Nat} {vs : List (Bool × Nat × Pt)} {t : Nat} : {E : an} → aK E t = ifS (o9 m vs t) (aK (jU m vs E) t) (aK (kF m vs E) t) ∧ aK (ifS (o9 m vs t) (kF m vs E) (jU m vs E)) t = none
 | [] => by cases o9 m vs t <;> exact ⟨rfl, rfl⟩
 | (t', g, v) :: E => by
  obtain ⟨ih1, ih2⟩ := BT (m := m) (vs := vs) (t := t) (E := E)
  cases hb : Nat.beq t' t
  ·rw [ek hb]
   unfold jU kF
   cases h1 : o9 m vs t' <;> cases h2 : o9 m vs t <;> rw [h2] at ih1 ih2 <;> first
    | exact ⟨by rw [ek hb]; exact ih1, ih2⟩
    | exact ⟨ih1, by rw [ek hb]; exact ih2⟩
    | exact ⟨ih1, ih2⟩
  ·have e := Nat.eq_of_beq_eq_true hb
   subst e
   rw [gN hb]
   unfold jU kF
   cases h1 : o9 m vs t' <;> rw [h1] at ih2
   ·exact ⟨(gN hb).symm, ih2⟩
   ·exact ⟨(gN hb).symm, ih2⟩
theorem Hi {m : Nat} {vs : List (Bool × Nat × Pt)} {t : Nat} {E F : an} : fj (kF m vs E) (jU m vs E ++ F) t = fj E F t := by
 have app : ∀ A B : an, aK (A ++ B) t = match aK A t with | some x => some x | none => aK B t := fun A B => by
  induction A with
  | nil => rfl
  | cons x A ih =>
   obtain ⟨t', g, v⟩ := x
   cases hb : Nat.beq t' t
   ·rw [List.cons_append, ek hb, ek hb]; exact ih
   ·rw [List.cons_append, gN hb, gN hb]
 obtain ⟨h1, h2⟩ := BT (m := m) (vs := vs) (t := t) (E := E)
 unfold fj
 rw [app]
 cases hk : o9 m vs t <;> rw [hk] at h1 h2
 ·rw [show aK (jU m vs E) t = none from h2, h1]
 ·rw [show aK (kF m vs E) t = none from h2, h1]
  rfl
theorem HR {ρ : Nms} {E E' F F' : an} (h : ∀ t, fj E' F' t = fj E F t) : j4 (aq ρ [] E' F') (aq ρ [] E F) := fun t p hp => by
 rw [ky] at hp ⊢
 rw [← h]; exact hp
mutual
def AV.ids : AV → List Nat
 | .ptr id _ | .sl id | .adr id _ | .mp id | .nv id | .sfp id _ => [id]
 | .agg l | .tuple l => AV.CP l
 | .fn _ a b => AV.CP a ++ AV.CP b
 | .ifc _ v => v.ids
 | _ => []
def AV.CP : List AV → List Nat
 | [] => []
 | v :: l => v.ids ++ AV.CP l
end
def J5 (res : AV → AV) (ids : List Nat) : List Row → List Nat
 | [] => []
 | r :: G => (match r with
  | .box j _ vs => ifS (vU j ids) (AV.CP (vs.map res)) []
  | _ => []) ++ J5 res ids G
def reach (st : StB) (fr : Fr) (ts : List Nat) : List Nat :=
 let a := (ts.map fun t => match fj st.E fr.F t with
  | some (_, v) => v.ids
  | none => []).flatten
 let b := a ++ J5 (pO st.G fr.H) a st.G
 b ++ J5 (pO st.G fr.H) b st.G
def il (ids : List Nat) (r : Row) : Bool := vU r.id ids
def jm (ids : List Nat) (c : Nat) : List Row → List Row × List Row × Nat
 | [] => ([], [], c)
 | r :: G => match r with
  | .box j t vs => ifS ( vU j ids ) ( match jr c vs with
   | (cs, R, c) => match jm ids c G with
    | (G, R', c) => (.box j t cs :: G, R ++ R', c) ) <| match jm ids c G with
   | (G, R', c) => (.box j t vs :: G, R', c)
  | r => match jm ids c G with
   | (G, R', c) => (r :: G, R', c)
def bxs : List Row → List (List AV)
 | [] => []
 | r :: G => (match r with
  | .box _ _ cs => cs :: bxs G
  | _ => bxs G)
structure LK (c : Nat) (G : List Row) (ρ ρ' : Nms) (x : List Row × List Row × Nat) : Prop where
 ag : aE c ρ ρ'
 le : c ≤ x.2.2
 eq : items ρ' [] x.1 = items ρ [] G
 lw : bg x.2.2 x.1 = true
 rl : bg x.2.2 x.2.1 = true
 rp : ∀ r ∈ x.2.1, (r.item ρ' []).cS = true ∧ ∀ M w, (r.item ρ' []).P M w
 bx : (bxs x.1).map (AV.ah ρ') = (bxs G).map (AV.ah ρ)
theorem xq {ρ ρ' : Nms} {c : Nat} (ha : aE c ρ ρ') : {G : List Row} → bg c G = true → (bxs G).map (AV.ah ρ') = (bxs G).map (AV.ah ρ)
 | [], _ => rfl
 | r :: G, h => by
  simp only [bg, Bool.and_eq_true] at h
  have ih := xq ha h.2
  cases r with
  | box j t cs =>
   have h1 := h.1
   simp only [Row.low, Bool.and_eq_true] at h1
   show AV.ah ρ' cs :: (bxs G).map (AV.ah ρ') = AV.ah ρ cs :: (bxs G).map (AV.ah ρ)
   rw [ih, AV.bH ha _ h1.2]
  | _ => exact ih
theorem wB {ids : List Nat} : {G : List Row} → {c : Nat} → {ρ : Nms} → bg c G = true → ∃ ρ', LK c G ρ ρ' (jm ids c G)
 | [], c, ρ, h => ⟨ρ, .refl, Nat.le_refl _, rfl, rfl, rfl, (fun _ h => by cases h), rfl⟩
 | r :: G, c, ρ, h => by
  simp only [bg, Bool.and_eq_true] at h
  have other : (∀ t cs j, r = .box j t cs → vU j ids = false) → jm ids c (r :: G) = (match jm ids c G with | (G, R', c) => (r :: G, R', c)) → ∃ ρ', LK c (r :: G) ρ ρ' (jm ids c (r :: G)) := fun _ e => by
   obtain ⟨ρ', l⟩ := wB (ids := ids) (c := c) (ρ := ρ) h.2
   rw [e]
   generalize jm ids c G = L at l
   obtain ⟨G', R, c'⟩ := L
   refine ⟨ρ', l.ag, l.le, ?_, ?_, l.rl, l.rp, ?_⟩
   ·have := l.eq
    simp only [items, List.map_cons] at this ⊢
    rw [this, Row.rE l.ag h.1]
   ·simp only [bg, Bool.and_eq_true]
    exact ⟨Row.eB l.le h.1, l.lw⟩
   ·have hb : (bxs G').map (AV.ah ρ') = (bxs G).map (AV.ah ρ) := l.bx
    cases r with
    | box j t cs =>
     have h1 := h.1
     simp only [Row.low, Bool.and_eq_true] at h1
     show AV.ah ρ' cs :: (bxs G').map (AV.ah ρ') = AV.ah ρ cs :: (bxs G).map (AV.ah ρ)
     rw [hb, AV.bH l.ag _ h1.2]
    | _ => exact hb
  cases r with
  | box j t vs =>
   cases hm : vU j ids
   ·exact other (fun t cs j h => by cases h; exact hm) (by simp only [jm, hm])
   ·have hr := h.1
    simp only [Row.low, Bool.and_eq_true, Nat.blt_eq] at hr
    obtain ⟨ρ1, l1⟩ := vQ (ρ := ρ) hr.2
    have e : jm ids c (.box j t vs :: G) = (match jr c vs with
     | (cs, R, c) => match jm ids c G with
      | (G, R', c) => (.box j t cs :: G, R ++ R', c)) := by simp only [jm, hm]
    rw [e]
    generalize jr c vs = L at l1
    obtain ⟨cs, R, c1⟩ := L
    obtain ⟨ρ2, l2⟩ := wB (ids := ids) (c := c1) (ρ := ρ1) (qa l1.le h.2)
    dsimp only
    generalize jm ids c1 G = L at l2
    obtain ⟨G', R', c2⟩ := L
    have hle1 : c ≤ c1 := l1.le
    have hle2 : c1 ≤ c2 := l2.le
    have hag : aE c ρ ρ2 := l1.ag.trans l2.ag l1.le
    refine ⟨ρ2, hag, Nat.le_trans hle1 hle2, ?_, ?_, mW (qa hle2 l1.rl) l2.rl, ?_, ?_⟩
    ·have e2 := l2.eq
     simp only [items, List.map_cons, Row.item] at e2 ⊢
     have hlw : AV.bJ c1 cs = true := l1.lw
     have heq : AV.ah ρ1 cs = AV.ah ρ vs := l1.eq
     rw [e2, hag _ hr.1, AV.bH l2.ag _ hlw, heq]
     have := aX (T := []) l1.ag h.2
     simp only [items] at this
     rw [this]
    ·simp only [bg, Row.low, Bool.and_eq_true, Nat.blt_eq]
     exact ⟨⟨by omega, AV.iC hle2 _ l1.lw⟩, l2.lw⟩
    ·intro r hr
     rcases List.mem_append.1 hr with hr | hr
     ·have hrl : r.low c1 = true := by
       have key : ∀ {R : List Row}, bg c1 R = true → ∀ r ∈ R, r.low c1 = true := fun {R} => by
        induction R with
        | nil => intro _ r h; cases h
        | cons x R ih =>
         intro h r hr
         simp only [bg, Bool.and_eq_true] at h
         rcases List.mem_cons.1 hr with rfl | hr
         ·exact h.1
         ·exact ih h.2 r hr
       exact key l1.rl r hr
      rw [Row.rE l2.ag hrl]
      exact l1.rp r hr
     ·exact l2.rp r hr
    ·have hb : (bxs G').map (AV.ah ρ2) = (bxs G).map (AV.ah ρ1) := l2.bx
     show AV.ah ρ2 cs :: (bxs G').map (AV.ah ρ2) = AV.ah ρ vs :: (bxs G).map (AV.ah ρ)
     have hlw : AV.bJ c1 cs = true := l1.lw
     have heq : AV.ah ρ1 cs = AV.ah ρ vs := l1.eq
     rw [hb, AV.bH l2.ag _ hlw, heq, xq l1.ag h.2]
  | _ => exact other (fun t cs j h => by cases h) rfl
end Go.Proofs.YtdhgpnejphlfpaaGreatDoor
namespace Go.Proofs.YtdhgpnejphlfpaaGreatDoor
open Go.Lib
def lU (E F : an) (t : Nat) : Option AV := match fj E F t with
 | some (none, v) => some v
 | _ => none
theorem uB {ρ : Nms} {E F : an} {t : Nat} {v : AV} (h : lU E F t = some v) : look (aq ρ [] E F) t = some (true, v.val ρ) := by
 unfold lU at h
 split at h
 ·rename_i v' hv
  cases h
  rw [ky, hv]
  simp
 ·cases h
def zX (st : StB) (fr : Fr) : List (Bool × Nat × Pt) → List Nat
 | [] => []
 | x :: l => (ifS x.1 (match lU st.E fr.F x.2.1 with
  | some v => v.ids
  | none => []) []) ++ zX st fr l
mutual
def JR (G H : List Row) : Pt → AV → List Nat
 | .own _ _ _, v => v.ids
 | .mp _ _ _, v => v.ids
 | .it, v => v.ids
 | .bx _ _ _ vs, v => (match v with
  | .ptr j _ => j :: ye G H vs (cellsOf G H j)
  | _ => [])
 | .agg l, v => (match v with
  | .agg vs => ye G H l vs
  | _ => [])
 | .tup l, v => (match v with
  | .tuple vs => ye G H l vs
  | _ => [])
 | .fn _ a b, v => (match v with
  | .fn _ a' b' => ye G H a a' ++ ye G H b b'
  | _ => [])
 | .ifc _ p, v => (match v with
  | .ifc _ u => JR G H p u
  | _ => [])
 | .dat _ o, v => ifS (o.all (fun x => x.isNone)) [] v.ids
 | _, _ => []
def ye (G H : List Row) : List Pt → List AV → List Nat
 | [], _ => []
 | p :: l, vs => (match vs with
  | v :: vs => JR G H p (pO G H v) ++ ye G H l vs
  | [] => [])
end
def J6 (st : StB) (fr : Fr) : List (Bool × Nat × Pt) → List Nat
 | [] => []
 | x :: l => (match fj st.E fr.F x.2.1 with
  | some (_, v) => JR st.G fr.H x.2.2 (pO st.G fr.H v)
  | none => []) ++ J6 st fr l
structure En where
 fr : Fr
 E : an
 G : List Row
 Et : an
 Gt : List Row
 c : Nat
 fix : Nat → FxA
def Js (E F : an) (G : List Row) (t : Nat) : FxA := match lU E F t with
 | some v => some (v, match v with
  | .ptr j _ => cellsOf G [] j
  | _ => [])
 | none => none
def enter (fr : Fr) (tm : Tm) (m : Nat) (st : StB) : En :=
 let ids := J6 st fr tm.vs ++ reach st fr tm.th
 match jm (zX st fr tm.vs) st.c (aZ (il ids) st.G) with
 | (Gt, R, c) => ⟨⟨jU m tm.vs st.E ++ fr.F, (R ++ aZ (fun r => !(il ids r)) st.G) ++ fr.H, fr.n⟩, jU m tm.vs st.E, R ++ aZ (fun r => !(il ids r)) st.G, kF m tm.vs st.E, Gt, c, Js st.E fr.F Gt⟩
structure OU (fr : Fr) (st : StB) (Φ : Ctx) (w : World) (ρ ρ' : Nms) (en : En) : Prop where
 ag : aE st.c ρ ρ'
 le : st.c ≤ en.c
 ff : en.fr.F = en.E ++ fr.F
 fh : en.fr.H = en.G ++ fr.H
 fn : en.fr.n = fr.n
 lF : an.low en.c en.fr.F = true
 lH : bg en.c en.fr.H = true
 sub : j4 (aq ρ' [] en.Et en.fr.F) (aq ρ [] st.E fr.F)
 sat : Sat (items ρ' [] en.Gt ++ (items ρ' [] en.fr.H ++ Φ)) w
 fx : ∀ t q, en.fix t = some q → q.1.low en.c = true ∧ AV.bJ en.c q.2 = true
theorem an.eB {c d : Nat} (hcd : c ≤ d) : {E : an} → E.low c = true → E.low d = true
 | [], _ => rfl
 | x :: E, h => by
  simp only [an.low, Bool.and_eq_true] at h ⊢
  exact ⟨AV.eB hcd _ h.1, an.eB hcd h.2⟩
theorem an.wc {c : Nat} : {E F : an} → E.low c = true → F.low c = true → an.low c (E ++ F) = true
 | [], _, _, h => h
 | x :: E, F, h, k => by
  simp only [List.cons_append, an.low, Bool.and_eq_true] at h ⊢
  exact ⟨h.1, an.wc h.2 k⟩
theorem wF {c : Nat} : {E : an} → E.low c = true → {t : Nat} → {x : GK × AV} → aK E t = some x → x.2.low c = true
 | [], _, _, _, h => by cases h
 | (t', g, v) :: E, h, t, x, hx => by
  simp only [an.low, Bool.and_eq_true] at h
  cases hb : Nat.beq t' t
  ·rw [ek hb] at hx; exact wF h.2 hx
  ·rw [gN hb] at hx; cases hx; exact h.1
theorem xl {c m : Nat} {vs : List (Bool × Nat × Pt)} : {E : an} → E.low c = true → (jU m vs E).low c = true
 | [], _ => rfl
 | x :: E, h => by
  simp only [an.low, Bool.and_eq_true] at h
  unfold jU
  cases o9 m vs x.1
  ·exact xl h.2
  ·show an.low c (x :: jU m vs E) = true
   simp only [an.low, Bool.and_eq_true]
   exact ⟨h.1, xl h.2⟩
theorem xE {c m : Nat} {vs : List (Bool × Nat × Pt)} : {E : an} → E.low c = true → (kF m vs E).low c = true
 | [], _ => rfl
 | x :: E, h => by
  simp only [an.low, Bool.and_eq_true] at h
  unfold kF
  cases o9 m vs x.1
  ·show an.low c (x :: kF m vs E) = true
   simp only [an.low, Bool.and_eq_true]
   exact ⟨h.1, xE h.2⟩
  ·exact xE h.2
theorem tZ {c : Nat} {p : Row → Bool} : {G : List Row} → bg c G = true → bg c (aZ p G) = true
 | [], _ => rfl
 | r :: G, h => by
  simp only [bg, Bool.and_eq_true] at h
  unfold aZ
  cases p r
  ·exact tZ h.2
  ·show bg c (r :: aZ p G) = true
   simp only [bg, Bool.and_eq_true]
   exact ⟨h.1, tZ h.2⟩
theorem E6 {c : Nat} {G : List Row} {j : Nat} (h : bg c G = true) : AV.bJ c (cellsOf G [] j) = true := by
 unfold cellsOf
 split
 ·rename_i s j' t cs hf
  obtain ⟨f1, _⟩ := cG hf
  cases s with
  | top i =>
   have := rM h (show G[i]? = some _ from f1)
   simp only [Row.low, Bool.and_eq_true] at this
   exact this.2
  | frz i => have f1 : ([] : List Row)[i]? = some _ := f1; simp at f1
  | nilI => exact f1.elim
  | nilO => exact f1.elim
  | nilM => exact f1.elim
 ·rfl
theorem JQ {c : Nat} {E F : an} {G : List Row} (hE : E.low c = true) (hF : F.low c = true) (hG : bg c G = true) {t : Nat} {q : AV × List AV} (h : Js E F G t = some q) : q.1.low c = true ∧ AV.bJ c q.2 = true := by
 unfold Js at h
 split at h
 ·rename_i v hv
  cases h
  refine ⟨?_, ?_⟩
  ·unfold lU at hv
   split at hv
   ·rename_i v' hl
    cases hv
    unfold fj at hl
    split at hl
    ·rename_i x hx; cases hl; exact wF hE hx
    ·exact wF hF hl
   ·cases hv
  ·split
   ·exact E6 hG
   ·rfl
 ·cases h
theorem zI {fr : Fr} {tm : Tm} {m : Nat} {st : StB} {ρ : Nms} {Φ : Ctx} {w : World} (hl : st.low fr = true) (hs : Sat (items ρ [] st.G ++ (items ρ [] fr.H ++ Φ)) w) : ∃ ρ', OU fr st Φ w ρ ρ' (enter fr tm m st) := by
 obtain ⟨l1, l2, l3, l4⟩ := StB.dN.1 hl
 unfold enter
 dsimp only
 generalize J6 st fr tm.vs ++ reach st fr tm.th = ids
 have hs1 := pT (A := []) (p := il ids) hs
 obtain ⟨ρ', l⟩ := wB (ids := zX st fr tm.vs) (c := st.c) (ρ := ρ) (tZ (p := il ids) l3)
 generalize jm (zX st fr tm.vs) st.c (aZ (il ids) st.G) = L at l
 obtain ⟨Gt, R, c⟩ := L
 have hle : st.c ≤ c := l.le
 have hE := xl (m := m) (vs := tm.vs) l1
 have hp := tZ (p := fun r => !(il ids r)) l3
 refine ⟨ρ', l.ag, hle, rfl, rfl, rfl, ?_, ?_, ?_, ?_, fun t q hq => ?_⟩
 ·exact an.wc (an.eB hle hE) (an.eB hle l2)
 ·exact mW (mW l.rl (qa hle hp)) (qa hle l4)
 ·have e1 : aq ρ' [] (kF m tm.vs st.E) (jU m tm.vs st.E ++ fr.F) = aq ρ [] (kF m tm.vs st.E) (jU m tm.vs st.E ++ fr.F) := by
   rw [aq, aq, qm l.ag (xE l1), qm l.ag (an.wc hE l2)]
  show j4 (aq ρ' [] (kF m tm.vs st.E) (jU m tm.vs st.E ++ fr.F)) _
  rw [e1]
  exact HR fun t => Hi
 ·show Sat (items ρ' [] Gt ++ (items ρ' [] ((R ++ aZ (fun r => !(il ids r)) st.G) ++ fr.H) ++ Φ)) w
  have e1 : items ρ' [] Gt = items ρ [] (aZ (il ids) st.G) := l.eq
  have e2 : items ρ' [] (aZ (fun r => !(il ids r)) st.G ++ fr.H) = items ρ [] (aZ (fun r => !(il ids r)) st.G ++ fr.H) := aX l.ag (mW hp l4)
  rw [List.append_assoc, aU, e1, e2]
  have hs2 : Sat (items ρ [] (aZ (il ids) st.G) ++ (items ρ [] (aZ (fun r => !(il ids r)) st.G ++ fr.H) ++ Φ)) w := by simpa using hs1
  have hadd : ∀ (L : List Item) (A B : Ctx), (∀ it ∈ L, it.cS = true ∧ ∀ M w, it.P M w) → Sat (A ++ B) w → Sat (A ++ (L ++ B)) w := fun L A B hL h => by
   have h1 := vc h L (fun it hit => ⟨(hL it hit).1, (hL it hit).2 _ _⟩)
   have mv : ∀ (L : List Item) (A B : Ctx), Sat (L ++ (A ++ B)) w → Sat (A ++ (L ++ B)) w := fun L => by
    induction L with
    | nil => intro A B h; exact h
    | cons x L ih =>
     intro A B h
     have h2 : Sat ([] ++ x :: ((L ++ A) ++ B)) w := by simpa using h
     have h3 : Sat ([] ++ ((L ++ A) ++ x :: B)) w := h2.move
     have h4 : Sat (L ++ (A ++ x :: B)) w := by simpa using h3
     have h5 : Sat (A ++ (L ++ x :: B)) w := ih _ _ h4
     have h6 : Sat (A ++ (L ++ [x] ++ B)) w := by simpa using h5
     -- x goes ahead of L
     refine h6.tT (fun j k => (j < A.length ∧ k = j) ∨ (j = A.length ∧ k = A.length + L.length) ∨ (A.length < j ∧ j ≤ A.length + L.length ∧ k + 1 = j) ∨ (A.length + L.length < j ∧ k = j)) (fun j jt hj => ?_) (fun j k q hjk h1 h2 => by omega)
     by_cases c1 : j < A.length
     ·rw [List.getElem?_append_left c1] at hj
      exact .inr ⟨j, jt, .inl ⟨c1, rfl⟩, by rw [List.getElem?_append_left c1]; exact hj, bk.refl⟩
     ·rw [List.getElem?_append_right (by omega)] at hj
      by_cases c2 : j = A.length
      ·subst c2
       simp at hj
       subst hj
       refine .inr ⟨A.length + L.length, x, .inr (.inl ⟨rfl, rfl⟩), ?_, bk.refl⟩
       rw [List.getElem?_append_right (by omega)]
       have : A.length + L.length - A.length = L.length := by omega
       rw [this]; simp
      ·have e9 : j - A.length = (j - A.length - 1) + 1 := by omega
       rw [e9, List.cons_append, List.getElem?_cons_succ] at hj
       by_cases c3 : j ≤ A.length + L.length
       ·rw [List.getElem?_append_left (by omega)] at hj
        refine .inr ⟨j - 1, jt, .inr (.inr (.inl ⟨by omega, c3, by omega⟩)), ?_, bk.refl⟩
        rw [List.getElem?_append_right (by omega), List.append_assoc, List.getElem?_append_left (by omega)]
        rw [show j - 1 - A.length = j - A.length - 1 by omega]; exact hj
       ·rw [List.getElem?_append_right (by omega)] at hj
        refine .inr ⟨j, jt, .inr (.inr (.inr ⟨by omega, rfl⟩)), ?_, bk.refl⟩
        rw [List.getElem?_append_right (by omega), List.getElem?_append_right (by simp; omega)]
        have : j - A.length - (L ++ [x]).length = j - A.length - 1 - L.length := by simp; omega
        rw [this]; exact hj
   exact mv L A B h1
  have := hadd (items ρ' [] R) (items ρ [] (aZ (il ids) st.G)) (items ρ [] (aZ (fun r => !(il ids r)) st.G ++ fr.H) ++ Φ) (fun it hit => by
   obtain ⟨r, hr, rfl⟩ := List.mem_map.1 hit
   exact l.rp r hr) hs2
  simpa using this
 ·exact JQ (an.eB hle l1) (an.eB hle l2) l.lw hq
/-! coming backT -/
def Ak (G H : List Row) (look : Nat → Option AV) (fix : Nat → FxA) : List (Bool × Nat × Pt) → List Nat
 | [] => []
 | x :: l => (match (ifS x.1 ((fix x.2.1).map (·.1)) (look x.2.1)) with
  | some v => mE G H x.2.2 v
  | none => []) ++ Ak G H look fix l
def An (F : an) (vs : List (Bool × Nat × Pt)) : an → Bool
 | [] => true
 | x :: E => (zh x.1 vs || nN (aK F x.1)) && An F vs E
def yB (en : En) (tm : Tm) (E : an) (G : List Row) : List Row := frz (Ak G en.fr.H (lU E en.fr.F) en.fix tm.vs) G
def pX (en : En) (tm : Tm) (E : an) (G : List Row) : Option (Tup (gQ tm.vs)) :=
 match mtV (yB en tm E G) en.fr.H (lU E en.fr.F) en.fix tm.vs [] with
 | some mr => ifS (sf (mr.S.map fun x => cK (yB en tm E G) en.fr.H x.2) && ltT (yB en tm E G).length (mr.S.map fun x => cK (yB en tm E G) en.fr.H x.2) && An en.fr.F tm.vs E) (tup _ mr.D) none
 | none => none
def rowsOf (R : List (Bool × Row)) : List Row := R.map (·.2)
def fz (en : En) (tm : Tm) (s : Tup (gQ tm.vs)) (h : HT) : StB := match fO (fun n => en.c + n) en.fix tm.vs 0 (unt _ s) with
 | ⟨E, R, k, _⟩ => ⟨en.c + k, E, rowsOf R, h⟩
def m9 (en : En) (tm : Tm) (s : Tup (gQ tm.vs)) (h : HT) : StB := match fO (fun n => en.c + n) en.fix tm.vs 0 (unt _ s) with
 | ⟨E, R, k, _⟩ => ⟨en.c + k, E ++ en.E, rowsOf R ++ en.G, h⟩
def xN (en : En) (st : StB) : StB := { st with E := st.E ++ en.E, G := st.G ++ en.G }
theorem Sat.yg {w : World} {A C : Ctx} : ∀ {B : Ctx}, Sat (A ++ (B ++ C)) w → Sat (A ++ C) w
 | [], h => h
 | _x :: B, h => Sat.yg (B := B) (Sat.yv h)
theorem Cc {nm : Nat → Nat} {fix : Nat → FxA} {t : Nat} : {l : List (Bool × Nat × Pt)} → {n : Nat} → {D : List Dyn} → zh t l = true → aK (fO nm fix l n D).E t ≠ none
 | [], n, D, h => by cases h
 | (b, t', p) :: l, n, D, h => by
  unfold fO
  dsimp only
  generalize fill nm p (ifS b (fix t') none) none n D = L
  obtain ⟨v, R, k, DD, XX⟩ := L
  dsimp only
  generalize hg : fO nm fix l k DD = L2
  obtain ⟨E2, R2, k2, DD2⟩ := L2
  dsimp only
  have ih : zh t l = true → aK E2 t ≠ none := fun h' => by
   have := Cc (nm := nm) (fix := fix) (n := k) (D := DD) h'
   rw [hg] at this; exact this
  simp only [zh, Bool.or_eq_true, Bool.and_eq_true] at h
  cases b
  ·show aK ((t', none, v) :: E2) t ≠ none
   cases hb : Nat.beq t' t
   ·rw [ek hb]
    rcases h with ⟨_, h⟩ | h
    ·rw [hb] at h; cases h
    ·exact ih h
   ·rw [gN hb]; simp
  ·show aK E2 t ≠ none
   rcases h with ⟨h, _⟩ | h
   ·cases h
   ·exact ih h
theorem Db {F : an} {vs : List (Bool × Nat × Pt)} {t : Nat} : {E : an} → {x : GK × AV} → An F vs E = true → aK E t = some x → zh t vs = true ∨ aK F t = none
 | [], x, _, h => by cases h
 | (t', g, v) :: E, x, hb, h => by
  simp only [An, Bool.and_eq_true, Bool.or_eq_true] at hb
  cases hq : Nat.beq t' t
  ·rw [ek hq] at h; exact Db hb.2 h
  ·have e := Nat.eq_of_beq_eq_true hq
   subst e
   rcases hb.1 with h1 | h1
   ·exact .inl h1
   ·cases hF : aK F t' with
    | none => exact .inr rfl
    | some y => rw [hF] at h1; cases h1
section
variable {en : En} {tm : Tm} {Φ : Ctx} {w : World} {ρ : Nms}
theorem uX {E : an} {G : List Row} {s : Tup (gQ tm.vs)} (lF : an.low en.c en.fr.F = true) (lH : bg en.c en.fr.H = true) (fx : ∀ t q, en.fix t = some q → q.1.low en.c = true ∧ AV.bJ en.c q.2 = true)
  (hs : Sat (items ρ [] G ++ (items ρ [] en.fr.H ++ Φ)) w) (h : pX en tm E G = some s) :
  ∃ ρ' E' R k D, fO (fun n => en.c + n) en.fix tm.vs 0 (unt _ s) = ⟨E', R, k, D⟩ ∧ aE en.c ρ ρ' ∧ j4 (aq ρ' [] E' en.fr.F) (aq ρ [] E en.fr.F) ∧ Sat (items ρ' [] (rowsOf R) ++ (items ρ' [] en.fr.H ++ Φ)) w := by
 unfold pX at h
 have hs0 := jL (ids := Ak G en.fr.H (lU E en.fr.F) en.fix tm.vs) hs
 change Sat (items ρ [] (yB en tm E G) ++ _) w at hs0
 generalize yB en tm E G = G' at h hs0
 split at h
 ·rename_i mr hm
  obtain ⟨h1, h2⟩ := aw h
  simp only [Bool.and_eq_true] at h1
  obtain ⟨⟨h3, h4⟩, h5⟩ := h1
  obtain ⟨N, I, s1, n1, a1⟩ := zS hs0 tm.vs [] mr [] hm .nil
  rw [← pR _ h2] at s1
  obtain ⟨p1, _⟩ := vw hs0 a1
  obtain ⟨q1, _⟩ := nT hs0 p1 (nS h3)
  rw [py h4] at q1
  have q2 := q1.yg
  -- names
  have hag : aE en.c ρ (fun i => ifS (Nat.blt i en.c) (ρ i) ((N[i - en.c]?).getD nm0)) := fun j hj => by
   have : Nat.blt j en.c = true := by simpa using hj
   simp only [this]
  have hnm : pd (fun i => ifS (Nat.blt i en.c) (ρ i) ((N[i - en.c]?).getD nm0)) (fun n => en.c + n) 0 N := fun i a ha => by
   have : Nat.blt (en.c + i) en.c = false := by
    cases hb : Nat.blt (en.c + i) en.c
    ·rfl
    ·simp only [Nat.blt_eq] at hb; omega
   simp only [this, show en.c + i - en.c = i by omega, ha, Option.getD_some]
   exact ⟨trivial, trivial, trivial, fun _ => trivial⟩
  generalize (fun i => ifS (Nat.blt i en.c) (ρ i) ((N[i - en.c]?).getD nm0)) = ρ' at hag hnm
  have e1 : (fun i => jV ρ (en.fix i)) = fun i => jV ρ' (en.fix i) := by
   funext i
   cases hq : en.fix i with
   | none => rfl
   | some q =>
    obtain ⟨k1, k2⟩ := fx i q hq
    show some (q.1.val ρ, AV.ah ρ q.2) = some (q.1.val ρ', AV.ah ρ' q.2)
    rw [AV.js hag _ k1, AV.bH hag _ k2]
  rw [e1] at s1
  obtain ⟨b1, b2, b3, b4⟩ := zg (T := []) (nm := fun n => en.c + n) tm.vs [] (unt _ s) I (db ρ mr.X) N s1 hnm (Nat.zero_le _) []
  simp only [List.append_nil, List.length_nil] at b1 b2 b3 b4
  generalize hF : fO (fun n => en.c + n) en.fix tm.vs 0 (unt _ s) = L at b1 b2 b3 b4
  obtain ⟨E', R, k, D⟩ := L
  refine ⟨ρ', E', R, k, D, rfl, hag, fun t p hp => ?_, ?_⟩
  ·rw [ky] at hp
   cases hk : aK E' t with
   | some x =>
    have hk2 : look (an.env ρ' [] E') t = some (Tbl.get [] x.1, x.2.val ρ') := by rw [ng, hk]; rfl
    obtain ⟨c1, c2⟩ := b1 t _ hk2
    have e2 : fj E' en.fr.F t = some x := by unfold fj; rw [hk]
    rw [e2] at hp
    simp only [Option.map_some, Option.some.injEq] at hp
    subst hp
    simp only at c1 c2
    cases hpl : lU E en.fr.F t with
    | none => rw [hpl] at c2; cases c2
    | some v =>
     rw [hpl] at c2
     simp only [Option.map_some, Option.some.injEq] at c2
     rw [uB hpl, c1, c2]
   | none =>
    have e2 : fj E' en.fr.F t = aK en.fr.F t := by unfold fj; rw [hk]
    rw [e2] at hp
    cases hFt : aK en.fr.F t with
    | none => rw [hFt] at hp; cases hp
    | some y =>
     rw [hFt] at hp
     simp only [Option.map_some, Option.some.injEq] at hp
     have hE : aK E t = none := by
      cases hE : aK E t with
      | none => rfl
      | some z =>
       rcases Db h5 hE with h6 | h6
       ·have := Cc (nm := fun n => en.c + n) (fix := en.fix) (n := 0) (D := unt _ s) h6
        rw [hF] at this
        exact (this hk).elim
       ·rw [hFt] at h6; cases h6
     rw [ky]
     unfold fj
     rw [hE, hFt, ← hp]
     simp only [Option.map_some]
     rw [AV.js hag _ (wF lF hFt)]
  ·have q3 := Sat.leL (A := []) (B := cX I) (C := items ρ [] en.fr.H ++ Φ) q2 b4.rw
   rw [aX hag lH]
   exact q3
 ·cases h
end
end Go.Proofs.YtdhgpnejphlfpaaGreatDoor
namespace Go.Proofs.YtdhgpnejphlfpaaGreatDoor
open Go.Lib
def Oj (P : Program) (o : Oper) : Bool := match o.op with
 | .store .. | .alloc _ | .box .. | .buildSlice .. | .makeSlice .. | .makeMap .. | .mapUpdate .. | .insert .. | .range .. | .next .. | .defer _ | .panic _ => true
 | .convert s d _ => isStr P s && !(isStr P d)
 | .call ⟨.builtin b, _, _⟩ => (match b with
  | .len | .cap | .min | .max | .unsafeSliceData => false
  | _ => true)
 | .call _ => true
 | _ => false
def Gm (q : Bool) (m : Nat) : Nat → List (Nat × Bool) → Option Nat
 | _, [] => none
 | k, x :: l => ifS ( BB x.2 (!q) && !(Nat.testBit m k) && zk x.1 m ) ( some k ) <| Gm q m (k + 1) l
def A8 (l : List (Nat × Bool)) : Nat → Nat → OT
 | 0, _ => .nil
 | n + 1, m => match Gm true m 0 l with
  | some k => .q k m (A8 l n (bit m k))
  | none => match Gm false m 0 l with
   | none => .nil
   | some k => match Gm false m (k + 1) (l.drop (k + 1)) with
    | none => .l k m (A8 l n (bit m k))
    | some j => .l2 m k (A8 l n (bit m k)) j (A8 l n (bit m j))
noncomputable def LH {R : Type} (X : Cx) (tb : List Ent) (tp : List bK) (KP : AV → StB → Option R) (ops : Array Oper) (fr : Fr) (th : List Nat) (t : OT) (st : StB) (K : Go_ R) : Option R :=
 ifS ( X.P.follows .mixedOrders && C4 ops (ops.toList.map fun o => iw o.after.toList) t ) (
  nj X tb tp KP ops.toList fr t (aZ (fun r => !(il (reach st fr th) r)) st.G) [] [] { st with G := aZ (il (reach st fr th)) st.G } K ) none
noncomputable def Cy {R : Type} (X : Cx) (tb : List Ent) (tp : List bK) (KP : AV → StB → Option R) (ops : Array Oper) (fr : Fr) (th : List Nat) (st : StB) (K : Go_ R) : Option R :=
 LH X tb tp KP ops fr th (A8 (ops.toList.map fun o => (iw o.after.toList, Oj X.P o)) ops.toList.length 0) st K
abbrev brk {R : Type} (i : Nat) (K : XE → StB → Option R) : XE → StB → Option R
 | .ext j, st => ifS ( Nat.beq j i ) ( K .nrm st ) ( K (.ext j) st )
 | e, st => K e st
abbrev thn {R : Type} (K1 : StB → Option R) (K : XE → StB → Option R) : XE → StB → Option R
 | .nrm, st => K1 st
 | e, st => K e st
abbrev cnd {R : Type} (b : Bool) (d1 d2 : HT → Option R) (h : HT) : Option R := match h with
 | .c p q => cond b (d1 p) (d2 q)
 | h => cond b (d1 h) (d2 h)
noncomputable def den {R : Type} (X : Cx) (tb : List Ent) (tp : List bK) : Code → Fr → (XE → StB → Option R) → StB → Option R
 | .skip, _, K, st => K .nrm st
 | .label _, _, K, st => K .nrm st
 | .exit i, _, K, st => K (.ext i) st
 | .goto l, _, K, st => K (.gto l) st
 | .ret, _, K, st => K .ret st
 | .block i c, fr, K, st => den X tb tp c fr (brk i K) st
 | .cond c x y, fr, K, st => match opA [] st.E fr.F none c with
  | some (.bool b) => cnd b (fun h => den X tb tp x fr K { st with h := h }) (fun h => den X tb tp y fr K { st with h := h }) st.h
  | _ => none
 | .seq x y, fr, K, st => match st.h with
  | .j tm p q => ifS (st.low fr) (
   ab (fun s : Tup (gQ tm.vs) => den X tb tp y fr K (m9 (enter fr tm (fL x) st) tm s q)) fun k =>
   den X tb tp x (enter fr tm (fL x) st).fr (thn (fun st' => match pX (enter fr tm (fL x) st) tm st'.E st'.G with
     | some s => k s
     | none => none) (fun e st' => K e (xN (enter fr tm (fL x) st) st'))) ⟨(enter fr tm (fL x) st).c, (enter fr tm (fL x) st).Et, (enter fr tm (fL x) st).Gt, p⟩ ) none
  | .s h => den X tb tp x fr (thn (den X tb tp y fr K) K) { st with h := h }
  | _ => den X tb tp x fr (thn (den X tb tp y fr K) K) st
 | .loop c, fr, K, st => match st.h with
  | .l tm p => ifS (st.low fr) (
   match pX (enter fr tm (fL c) st) tm (enter fr tm (fL c) st).Et (enter fr tm (fL c) st).Gt with
   | some s => aj (fun again s => den X tb tp c (enter fr tm (fL c) st).fr (thn (fun st' => match pX (enter fr tm (fL c) st) tm st'.E st'.G with
      | some s => again s
      | none => none) (fun e st' => K e (xN (enter fr tm (fL c) st) st'))) (fz (enter fr tm (fL c) st) tm s p)) al s
   | none => none ) none
  | _ => none
 | .region _ ops false, fr, K, st => sd X tb tp (fun v st => K (.panE v) st) ops.toList fr ops.toList [] st (K .nrm)
 | .region _ ops true, fr, K, st => match st.h with
  | .r th h => Cy X tb tp (fun v st => K (.pan v) st) ops fr th { st with h := h } (K .nrm)
  | _ => Cy X tb tp (fun v st => K (.pan v) st) ops fr [] st (K .nrm)
 | _, _, _, _ => none
def XE.ex : XE → Exit
 | .nrm => .normal
 | .ret => .ret
 | .ext i => .exit i
 | .gto l => .goto l
 | .pan _ => .goto 0
 | .panE _ => .goto 0
def AtX (Q : ba) (e : XE) (ρ : Nms) (n : Nat) (D : List Deferred) (E : Env) (w : World) : Prop := match e with
 | .pan v => AtP Q (pan (v.val ρ)) D w
 | .panE v => At Q (.panic (pan (v.val ρ))) n D E w
 | e => At Q e.ex n D E w
def lz {R : Type} (Q : ba) (D : List Deferred) (fr : Fr) (Φ : Ctx) (c0 : Nat) (ρ0 : Nms) (r : R) (K : XE → StB → Option R) : Prop :=
 ∀ e st ρ w, aE c0 ρ0 ρ → c0 ≤ st.c → K e st = some r → Sat (items ρ [] st.G ++ (items ρ [] fr.H ++ Φ)) w → AtX Q e ρ fr.n D (aq ρ [] st.E fr.F) w
theorem lz.less {R : Type} {Q : ba} {D : List Deferred} {fr : Fr} {Φ : Ctx} {c0 c1 : Nat} {ρ0 ρ1 : Nms} {r : R} {K : XE → StB → Option R} (h : lz Q D fr Φ c0 ρ0 r K) (ha : aE c0 ρ0 ρ1) (hc : c0 ≤ c1) : lz Q D fr Φ c1 ρ1 r K :=
 fun e st ρ w h1 h2 h3 h4 => h e st ρ w (ha.trans h1 hc) (Nat.le_trans hc h2) h3 h4
section
variable {P : Program} {ρ : Option Nat} {Q : ba} {n : Nat} {D : List Deferred} {E : Env} {w : World}
theorem Kc {σ γ τ : Type} {F : (σ → Option τ) → σ → Option τ} {r : τ} (J : σ → γ → World → Prop) (Es : σ → γ → Env) {body : Code}
  {N : Nat} {s0 : σ} (hm : aj F N s0 = some r) (g0 : γ) (h0 : J s0 g0 w) (hE : j4 (Es s0 g0) E)
  (round : ∀ again s g w, F again s = some r → J s g w → WC P ρ body (Exit.then (tQ again r J Es n D) Q) n D (Es s g) w) :
  WC P ρ (.loop body) Q n D E w := fun a hf hd =>
 A1 (fun m => tQ (aj F m) r J Es n D) N ⟨s0, g0, hm, h0, hf.px hE, hd⟩ fun m a w ⟨s, g, hs, hJ, hF, hD⟩ => by
  obtain ⟨m', rfl, hs'⟩ := tV hs
  exact wpIn_mono (round (aj F m') s g w hs' hJ a hF hD) fun e a w h => by
   cases e <;> first | exact h | exact ⟨m', Nat.lt_succ_self _, h⟩
theorem IK {σ γ τ : Type} {again : σ → Option τ} {r : τ} {J : σ → γ → World → Prop} {Es : σ → γ → Env}
  (s : σ) (g : γ) (hm : again s = some r) (hJ : J s g w) (hs : j4 (Es s g) E) : At (Exit.then (tQ again r J Es n D) Q) .normal n D E w :=
 fun _a hf hd => ⟨s, g, hm, hJ, hf.px hs, hd⟩
theorem Kv {γ : Type} {J : γ → World → Prop} {Es : γ → Env} (g : γ) (hJ : J g w) (hs : j4 (Es g) E) : At (Exit.then (zJ J Es n D) Q) .normal n D E w :=
 fun _a hf hd => ⟨g, hJ, hf.px hs, hd⟩
theorem nr {K : Act → World → Prop} {e : XE} {ρ : Nms} (hne : e ≠ .nrm) (h : AtX Q e ρ n D E w) : AtX (Exit.then K Q) e ρ n D E w := by
 cases e <;> first | exact (hne rfl).elim | exact h
end
section
variable {X : Cx} {tb : List Ent} {tp : List bK} {σ : Option Nat} {D : List Deferred} {R : Type} {r : R} {Φ : Ctx}
theorem Kn {Q : ba} {fr : Fr} {c0 i : Nat} {ρ0 : Nms} {K : XE → StB → Option R} (h : lz Q D fr Φ c0 ρ0 r K) : lz (Exit.inBlock i Q) D fr Φ c0 ρ0 r (brk i K) := fun e st ρ w h1 h2 h3 h4 => by
 cases e with
 | nrm => exact Cs (h .nrm st ρ w h1 h2 h3 h4)
 | ret => exact Hr (h .ret st ρ w h1 h2 h3 h4)
 | gto l => exact E1 (h (.gto l) st ρ w h1 h2 h3 h4)
 | pan v => exact Mf (h (.pan v) st ρ w h1 h2 h3 h4)
 | panE v => exact C8 (h (.panE v) st ρ w h1 h2 h3 h4)
 | ext j =>
  unfold brk at h3
  rcases fD h3 with ⟨h5, h6⟩ | ⟨h5, h6⟩
  ·have := Nat.eq_of_beq_eq_true h5
   subst this
   exact E9 (h .nrm st ρ w h1 h2 h6 h4)
  ·exact D0 h5 (h (.ext j) st ρ w h1 h2 h6 h4)
theorem uE {K1 : StB → Option R} {K : XE → StB → Option R} {e : XE} {st : StB} (hne : e ≠ .nrm) : thn K1 K e st = K e st := by
 cases e <;> first | exact (hne rfl).elim | rfl
theorem xO {Q : ba} {fr : Fr} {c0 : Nat} {ρ0 ρ1 : Nms} {en : En} {K : XE → StB → Option R} (h : lz Q D fr Φ c0 ρ0 r K) (ag : aE c0 ρ0 ρ1) (le : c0 ≤ en.c) (ff : en.fr.F = en.E ++ fr.F) (fh : en.fr.H = en.G ++ fr.H) (fn : en.fr.n = fr.n) :
  ∀ e st ρ w, aE en.c ρ1 ρ → en.c ≤ st.c → K e (xN en st) = some r → Sat (items ρ [] st.G ++ (items ρ [] en.fr.H ++ Φ)) w → AtX Q e ρ en.fr.n D (aq ρ [] st.E en.fr.F) w := fun e st ρ w h1 h2 h3 h4 => by
 have := h e (xN en st) ρ w (ag.trans h1 le) (Nat.le_trans le h2) h3 (by
  show Sat (items ρ [] (st.G ++ en.G) ++ _) w
  rw [fh] at h4
  rw [aU, List.append_assoc]
  rw [aU, List.append_assoc] at h4
  exact h4)
 rw [fn, ff]
 have e1 : aq ρ [] st.E (en.E ++ fr.F) = aq ρ [] (xN en st).E fr.F := by
  show an.env ρ [] st.E ++ an.env ρ [] (en.E ++ fr.F) = an.env ρ [] (st.E ++ en.E) ++ an.env ρ [] fr.F
  rw [oZ, oZ, List.append_assoc]
 rw [e1]; exact this
theorem MN {Q : ba} {fr : Fr} {st : StB} {ρ : Nms} {w : World} {K : XE → StB → Option R} (hΓ : ∀ it ∈ X.Γ, it ∈ Φ) (htb : ∀ e ∈ tb, e.Ok X.P X.Γ) (htp : ∀ e ∈ tp, e.Ok X.P X.Γ) {id : Nat} {ops : Array Oper} (hs : Sat (items ρ [] st.G ++ (items ρ [] fr.H ++ Φ)) w)
  (h : sd X tb tp (fun v st => K (.panE v) st) ops.toList fr ops.toList [] st (K .nrm) = some r) (hK : lz Q D fr Φ st.c ρ r K) : WC X.P σ (.region id ops false) Q fr.n D (aq ρ [] st.E fr.F) w := by
 obtain ⟨l⟩ := ops
 exact Cg (FM hΓ htb htp (fun x h => by cases h) (fun x h => by cases h) ⟨fun x _ => rfl, fun x _ => rfl⟩ hs h (fun st' ρ' w' a1 a2 a3 a4 => hK .nrm st' ρ' w' a1 a2 a3 a4) (fun v st' ρ' w' a1 a2 a3 a4 => hK (.panE v) st' ρ' w' a1 a2 a3 a4))
theorem DM {Q : ba} {fr : Fr} {st : StB} {ρ : Nms} {w : World} {K : XE → StB → Option R} (hΓ : ∀ it ∈ X.Γ, it ∈ Φ) (htb : ∀ e ∈ tb, e.Ok X.P X.Γ) (htp : ∀ e ∈ tp, e.Ok X.P X.Γ) {id : Nat} {ops : Array Oper} {th : List Nat} (hs : Sat (items ρ [] st.G ++ (items ρ [] fr.H ++ Φ)) w)
  (h : Cy X tb tp (fun v st => K (.pan v) st) ops fr th st (K .nrm) = some r) (hK : lz Q D fr Φ st.c ρ r K) : WC X.P σ (.region id ops true) Q fr.n D (aq ρ [] st.E fr.F) w := by
 obtain ⟨l⟩ := ops
 unfold Cy at h
 generalize A8 _ _ _ = t at h
 unfold LH at h
 obtain ⟨h1, h2⟩ := aw h
 simp only [Bool.and_eq_true] at h1
 refine Az _ t h1.1 h1.2 (fun w1 hE => ?_)
 have hs1 := pT (A := []) (p := il (reach st fr th)) (hs.ext hE)
 exact Mq (st := { st with G := aZ (il (reach st fr th)) st.G }) hΓ htb htp (fun x h => by cases h) (fun x h => by cases h) ⟨fun x _ => rfl, fun x _ => rfl⟩ (fun x h => by cases h) hs1 (fun p h => by cases h) h2 (fun st' ρ' w' a1 a2 a3 a4 => hK .nrm st' ρ' w' a1 a2 a3 a4) (fun v st' ρ' w' a1 a2 a3 a4 => hK (.pan v) st' ρ' w' a1 a2 a3 a4)
theorem KH {b : Bool} {d1 d2 : HT → Option R} {h : HT} (hh : cnd b d1 d2 h = some r) : ∃ p q, (b = true → d1 p = some r) ∧ (b = false → d2 q = some r) := by
 unfold cnd at hh
 split at hh
 ·rename_i p q
  rcases wH hh with ⟨h1, h2⟩ | ⟨h1, h2⟩
  ·exact ⟨p, q, fun _ => h2, fun e => by rw [h1] at e; cases e⟩
  ·exact ⟨p, q, (fun e => by rw [h1] at e; cases e), fun _ => h2⟩
 ·rcases wH hh with ⟨h1, h2⟩ | ⟨h1, h2⟩
  ·exact ⟨_, h, fun _ => h2, fun e => by rw [h1] at e; cases e⟩
  ·exact ⟨h, _, (fun e => by rw [h1] at e; cases e), fun _ => h2⟩
theorem iJ (hΓ : ∀ it ∈ X.Γ, it ∈ Φ) (htb : ∀ e ∈ tb, e.Ok X.P X.Γ) (htp : ∀ e ∈ tp, e.Ok X.P X.Γ) : ∀ (c : Code) {Q : ba} {fr : Fr} {K : XE → StB → Option R} {st : StB} {ρ : Nms} {w : World}, Sat (items ρ [] st.G ++ (items ρ [] fr.H ++ Φ)) w →
  den X tb tp c fr K st = some r → lz Q D fr Φ st.c ρ r K → WC X.P σ c Q fr.n D (aq ρ [] st.E fr.F) w
 | .skip, Q, fr, K, st, ρ, w, hs, h, hK => MZ (hK .nrm st ρ w .refl (Nat.le_refl _) (by unfold den at h; exact h) hs)
 | .label _, Q, fr, K, st, ρ, w, hs, h, hK => Eu (hK .nrm st ρ w .refl (Nat.le_refl _) (by unfold den at h; exact h) hs)
 | .exit i, Q, fr, K, st, ρ, w, hs, h, hK => LX (hK (.ext i) st ρ w .refl (Nat.le_refl _) (by unfold den at h; exact h) hs)
 | .goto l, Q, fr, K, st, ρ, w, hs, h, hK => Nn (hK (.gto l) st ρ w .refl (Nat.le_refl _) (by unfold den at h; exact h) hs)
 | .ret, Q, fr, K, st, ρ, w, hs, h, hK => Nr (hK .ret st ρ w .refl (Nat.le_refl _) (by unfold den at h; exact h) hs)
 | .block i c, Q, fr, K, st, ρ, w, hs, h, hK => KM (iJ hΓ htb htp c hs (by unfold den at h; exact h) (Kn hK))
 | .cond c x y, Q, fr, K, st, ρ, w, hs, h, hK => by
  unfold den at h
  split at h
  ·rename_i b hb
   have hc := dx (ρ := ρ) hb
   simp only [AV.val] at hc
   obtain ⟨p, q, h1, h2⟩ := KH h
   exact MC hc (fun hb => iJ hΓ htb htp x (st := { st with h := p }) hs (h1 hb) hK) (fun hb => iJ hΓ htb htp y (st := { st with h := q }) hs (h2 hb) hK)
  ·cases h
 | .seq x y, Q, fr, K, st, ρ, w, hs, h, hK => by
  have plain : ∀ h', den X tb tp x fr (thn (den X tb tp y fr K) K) { st with h := h' } = some r → WC X.P σ (.seq x y) Q fr.n D (aq ρ [] st.E fr.F) w := fun h' hd => by
   refine xn (iJ hΓ htb htp x (st := { st with h := h' }) hs hd (fun e st' ρ' w' a1 a2 a3 a4 => ?_))
   by_cases he : e = .nrm
   ·subst he
    exact rL (iJ hΓ htb htp y a4 a3 (hK.less a1 a2))
   ·rw [uE he] at a3
    exact nr he (hK e st' ρ' w' a1 a2 a3 a4)
  unfold den at h
  split at h
  ·rename_i tm p q hh
   obtain ⟨hl, h2⟩ := aw h
   obtain ⟨ρ1, en⟩ := zI (tm := tm) (m := fL x) hl hs
   generalize enter fr tm (fL x) st = E0 at h2 en
   unfold ab at h2
   refine G8 (γ := Tup (gQ tm.vs) × Nms) (fun g w' => den X tb tp y fr K (m9 E0 tm g.1 q) = some r ∧ aE E0.c ρ1 g.2 ∧ Sat (items g.2 [] (m9 E0 tm g.1 q).G ++ (items g.2 [] fr.H ++ Φ)) w') (fun g => aq g.2 [] (m9 E0 tm g.1 q).E fr.F) (fun g w' hg => ?_) ?_
   ·obtain ⟨g1, g2, g3⟩ := hg
    refine iJ hΓ htb htp y g3 g1 (hK.less (en.ag.trans g2 en.le) ?_)
    have : E0.c ≤ (m9 E0 tm g.1 q).c := by
     unfold m9
     generalize fO (fun n => E0.c + n) E0.fix tm.vs 0 (unt _ g.1) = L
     obtain ⟨a, b, c, d⟩ := L
     exact Nat.le_add_right _ _
    exact Nat.le_trans en.le this
   ·have hx := iJ hΓ htb htp x (fr := E0.fr) (st := ⟨E0.c, E0.Et, E0.Gt, p⟩) (ρ := ρ1) (Q := Exit.then (zJ (fun (g : Tup (gQ tm.vs) × Nms) w' => den X tb tp y fr K (m9 E0 tm g.1 q) = some r ∧ aE E0.c ρ1 g.2 ∧ Sat (items g.2 [] (m9 E0 tm g.1 q).G ++ (items g.2 [] fr.H ++ Φ)) w') (fun g => aq g.2 [] (m9 E0 tm g.1 q).E fr.F) fr.n D) Q) en.sat h2 (fun e st' ρ' w' a1 a2 a3 a4 => ?_)
    ·rw [en.fn] at hx
     exact hx.px _ en.sub
    ·by_cases he : e = .nrm
     ·subst he
      have a3' : (match pX E0 tm st'.E st'.G with | some s => den X tb tp y fr K (m9 E0 tm s q) | none => none) = some r := a3
      split at a3'
      ·rename_i s hb
       obtain ⟨ρ2, E', R', k, DD, b1, b2, b3, b4⟩ := uX en.lF en.lH en.fx a4 hb
       have eJ : m9 E0 tm s q = ⟨E0.c + k, E' ++ E0.E, rowsOf R' ++ E0.G, q⟩ := by unfold m9; rw [b1]
       rw [en.fn]
       refine Kv (s, ρ2) ⟨a3', a1.trans b2 (Nat.le_refl _), ?_⟩ ?_
       ·rw [eJ]
        show Sat (items ρ2 [] (rowsOf R' ++ E0.G) ++ _) w'
        rw [aU, List.append_assoc]
        rw [en.fh, aU, List.append_assoc] at b4
        exact b4
       ·rw [eJ]
        show j4 (an.env ρ2 [] (E' ++ E0.E) ++ _) _
        rw [en.ff] at b3
        have e2 : aq ρ2 [] E' (E0.E ++ fr.F) = an.env ρ2 [] (E' ++ E0.E) ++ an.env ρ2 [] fr.F := by
         show an.env ρ2 [] E' ++ an.env ρ2 [] (E0.E ++ fr.F) = _
         rw [oZ, oZ, List.append_assoc]
        rw [← e2, en.ff]; exact b3
      ·cases a3'
     ·rw [uE he] at a3
      have := xO hK en.ag en.le en.ff en.fh en.fn e st' ρ' w' a1 a2 a3 a4
      exact nr he this
  ·rename_i h' hh; exact plain h' h
  ·exact plain st.h h
 | .loop c, Q, fr, K, st, ρ, w, hs, h, hK => by
  unfold den at h
  split at h
  ·rename_i tm p hh
   obtain ⟨hl, h2⟩ := aw h
   obtain ⟨ρ1, en⟩ := zI (tm := tm) (m := fL c) hl hs
   generalize enter fr tm (fL c) st = E0 at h2 en
   split at h2
   ·rename_i s0 hb0
    obtain ⟨ρ2, E', R', k, DD, b1, b2, b3, b4⟩ := uX en.lF en.lH en.fx en.sat hb0
    have eL : ∀ s E' R' k DD, fO (fun n => E0.c + n) E0.fix tm.vs 0 (unt _ s) = ⟨E', R', k, DD⟩ → fz E0 tm s p = ⟨E0.c + k, E', rowsOf R', p⟩ := fun s E' R' k DD hb => by unfold fz; rw [hb]
    refine Kc (γ := Nms) (fun s g w' => aE E0.c ρ1 g ∧ Sat (items g [] (fz E0 tm s p).G ++ (items g [] E0.fr.H ++ Φ)) w') (fun s g => aq g [] (fz E0 tm s p).E E0.fr.F) h2 ρ2 ⟨b2, ?_⟩ ?_ (fun again s g w' hag hJ => ?_)
    ·rw [eL _ _ _ _ _ b1]; exact b4
    ·rw [eL _ _ _ _ _ b1]; exact b3.trans en.sub
    ·have hx := iJ hΓ htb htp c (fr := E0.fr) (st := fz E0 tm s p) (ρ := g) (Q := Exit.then (tQ again r (fun s g w' => aE E0.c ρ1 g ∧ Sat (items g [] (fz E0 tm s p).G ++ (items g [] E0.fr.H ++ Φ)) w') (fun s g => aq g [] (fz E0 tm s p).E E0.fr.F) fr.n D) Q) hJ.2 hag (fun e st' ρ' w2 a1 a2 a3 a4 => ?_)
     ·rw [en.fn] at hx; exact hx
     ·have hc : E0.c ≤ (fz E0 tm s p).c := by
       unfold fz
       generalize fO (fun n => E0.c + n) E0.fix tm.vs 0 (unt _ s) = L
       obtain ⟨a, b, c, d⟩ := L
       exact Nat.le_add_right _ _
      by_cases he : e = .nrm
      ·subst he
       have a3' : (match pX E0 tm st'.E st'.G with | some s => again s | none => none) = some r := a3
       split at a3'
       ·rename_i s' hb
        obtain ⟨ρ3, E2, R2, k2, DD2, d1, d2, d3, d4⟩ := uX en.lF en.lH en.fx a4 hb
        rw [en.fn]
        refine IK s' ρ3 a3' ⟨(hJ.1.trans (a1.less hc) (Nat.le_refl _)).trans d2 (Nat.le_refl _), ?_⟩ ?_
        ·rw [eL _ _ _ _ _ d1]; exact d4
        ·rw [eL _ _ _ _ _ d1]; exact d3
       ·cases a3'
      ·rw [uE he] at a3
       have := xO hK en.ag en.le en.ff en.fh en.fn e st' ρ' w2 (hJ.1.trans (a1.less hc) (Nat.le_refl _)) (Nat.le_trans hc a2) a3 a4
       exact nr he this
   ·cases h2
  ·cases h
 | .region id ops false, Q, fr, K, st, ρ, w, hs, h, hK => MN hΓ htb htp hs (by unfold den at h; exact h) hK
 | .region id ops true, Q, fr, K, st, ρ, w, hs, h, hK => by
  unfold den at h
  split at h
  ·rename_i th h' hh
   exact DM (st := { st with h := h' }) hΓ htb htp hs h hK
  ·exact DM hΓ htb htp hs h hK
 | .scope _, Q, fr, K, st, ρ, w, hs, h, hK => by unfold den at h; cases h
 | .rangeFunc _ _ _ _, Q, fr, K, st, ρ, w, hs, h, hK => by unfold den at h; cases h
end
end Go.Proofs.YtdhgpnejphlfpaaGreatDoor
