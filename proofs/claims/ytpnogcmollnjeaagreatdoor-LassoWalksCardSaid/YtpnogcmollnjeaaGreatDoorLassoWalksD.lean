/-
  Own texts for the statement LassoWalks, cut down to what it needs: B18, B19, B20, B21, B26, B28, B29, B27, B22, KIt. (cut and joined by a program)
-/
import Derived.Test.YtpnogcmollnjeaaGreatDoorLassoWalksA
import Derived.Test.YtpnogcmollnjeaaGreatDoorLassoWalksB
import Derived.Test.YtpnogcmollnjeaaGreatDoorLassoWalksC
import Derived.Lib.ItoaNum
namespace Go.Proofs.YtpnogcmollnjeaaGreatDoor
open Go.Lib
abbrev F1 {R : Type} (fr : Fr) (KP : AV → StB → Option R) (T : Tbl) (v : AV) (st : StB) : Option R := ifS (tU T fr st) (KP v (mM T st)) none
noncomputable def oY {R : Type} (X : Cx) (tb : List Ent) (tp : List bK) (KP : AV → StB → Option R) (ops : List Oper) (fr : Fr) : List Oper → Tbl → StB → Go_ R → Option R
 | [], T, st, K => ifS (tU T fr st) (K (mM T st)) none
 | o :: l, T, st, K => match F0 tp T fr st o (F1 fr KP T) (fun st => oY X tb tp KP ops fr l T st K) with
  | some q => q
  | none => stepG ops T fr st o fun T g => opD X tb T fr st g o fun st => oY X tb tp KP ops fr l T st K
section
variable {R : Type} {X : Cx} {tb : List Ent} {tp : List bK} {KP : AV → StB → Option R} {σ : Option Nat} {Q : aI} {D : List Deferred} {ops : List Oper} {r : R} {fr : Fr} {Φ : Ctx} {K : Go_ R}
theorem EW {T : Tbl} {v : AV} {st : StB} {ρ : Nms} {w : World} (hf : FT T fr) (h : F1 fr KP T v st = some r) (hs : Sat (items ρ T st.G ++ (items ρ T fr.H ++ Φ)) w) :
  ∃ st', KP v st' = some r ∧ st'.c = st.c ∧ fE (ai ρ [] st'.E fr.F) (ai ρ T st.E fr.F) ∧ Sat (items ρ [] st'.G ++ (items ρ [] fr.H ++ Φ)) w := by
 unfold F1 at h
 obtain ⟨h3, h4⟩ := ar h
 obtain ⟨k1, k2, k3⟩ := rI h3 hf hs
 exact ⟨_, h4, k1, k2, k3⟩
theorem rk {rest : List Oper} (hΓ : ∀ it ∈ X.Γ, it ∈ Φ) (htb : ∀ e ∈ tb, e.Ok X.P X.Γ) (htp : ∀ e ∈ tp, e.Ok X.P X.Γ) : ∀ {l : List Oper} {T : Tbl} {st : StB} {ρ : Nms} {w : World}, dB T st.E fr.F → iX ops fr.n T → FT T fr → Sat (items ρ T st.G ++ (items ρ T fr.H ++ Φ)) w →
  oY X tb tp KP ops fr l T st K = some r →
  (∀ st' ρ' w', aw st.c ρ ρ' → st.c ≤ st'.c → K st' = some r → Sat (items ρ' [] st'.G ++ (items ρ' [] fr.H ++ Φ)) w' → WL X.P σ ops.toArray Q fr.n D rest (ai ρ' [] st'.E fr.F) w') →
  (∀ v st' ρ' w', aw st.c ρ ρ' → st.c ≤ st'.c → KP v st' = some r → Sat (items ρ' [] st'.G ++ (items ρ' [] fr.H ++ Φ)) w' → At Q (.panic (pan (v.val ρ'))) fr.n D (ai ρ' [] st'.E fr.F) w') →
  WL X.P σ ops.toArray Q fr.n D (l ++ rest) (ai ρ T st.E fr.F) w
 | [], T, st, ρ, w, h1, h2, hf, hs, h, next, pnext => by
  unfold oY at h
  obtain ⟨h3, h4⟩ := ar h
  obtain ⟨k1, k2, k3⟩ := rI h3 hf hs
  exact fun a hf hd => next _ ρ w .refl (by rw [k1]; exact Nat.le_refl _) h4 k3 a (hf.iR k2) hd
 | o :: l, T, st, ρ, w, h1, h2, hf, hs, h, next, pnext => by
  unfold oY at h
  split at h
  ·rename_i q hq
   subst h
   refine Lw h1 hs hΓ htp hq (fun st' ρ' w' a1 a4 a5 a6 a7 a8 => ?_) (fun v st' ρ' w' a1 a2 a3 ae1 ae2 a4 => ?_)
   ·exact rk hΓ htb htp a1 h2 hf a8 a6 (fun st2 ρ2 w2 b1 b2 b3 b4 => next st2 ρ2 w2 (a4.trans b1 a5) (Nat.le_trans a5 b2) b3 b4) (fun v st2 ρ2 w2 b1 b2 b3 b4 => pnext v st2 ρ2 w2 (a4.trans b1 a5) (Nat.le_trans a5 b2) b3 b4)
   ·obtain ⟨st2, k1, k2, k4, k3⟩ := EW hf a3 a4
    exact (pnext v st2 ρ' w' a1 (by omega) k1 k3).iR _ k4
  ·exact CK (K := fun T st => oY X tb tp KP ops fr l T st K) h1 h2 rfl (fun _ h => h) hf hs hΓ htb h (fun T' st' ρ' w' a1 a2 a3 a4 a5 a6 a7 a8 =>
    rk hΓ htb htp a1 a2 a3 a8 a6 (fun st2 ρ2 w2 b1 b2 b3 b4 => next st2 ρ2 w2 (a4.trans b1 a5) (Nat.le_trans a5 b2) b3 b4) (fun v st2 ρ2 w2 b1 b2 b3 b4 => pnext v st2 ρ2 w2 (a4.trans b1 a5) (Nat.le_trans a5 b2) b3 b4))
theorem Ft (hΓ : ∀ it ∈ X.Γ, it ∈ Φ) (htb : ∀ e ∈ tb, e.Ok X.P X.Γ) (htp : ∀ e ∈ tp, e.Ok X.P X.Γ) {l : List Oper} {T : Tbl} {st : StB} {ρ : Nms} {w : World} (h1 : dB T st.E fr.F) (h2 : iX ops fr.n T) (hf : FT T fr) (hs : Sat (items ρ T st.G ++ (items ρ T fr.H ++ Φ)) w)
  (h : oY X tb tp KP ops fr l T st K = some r)
  (next : ∀ st' ρ' w', aw st.c ρ ρ' → st.c ≤ st'.c → K st' = some r → Sat (items ρ' [] st'.G ++ (items ρ' [] fr.H ++ Φ)) w' → At Q .normal fr.n D (ai ρ' [] st'.E fr.F) w')
  (pnext : ∀ v st' ρ' w', aw st.c ρ ρ' → st.c ≤ st'.c → KP v st' = some r → Sat (items ρ' [] st'.G ++ (items ρ' [] fr.H ++ Φ)) w' → At Q (.panic (pan (v.val ρ'))) fr.n D (ai ρ' [] st'.E fr.F) w') :
  WL X.P σ ops.toArray Q fr.n D l (ai ρ T st.E fr.F) w := by
 have := rk (σ := σ) (Q := Q) (D := D) (rest := []) hΓ htb htp h1 h2 hf hs h (fun st' ρ' w' a1 a2 a3 a4 => w5 (next st' ρ' w' a1 a2 a3 a4)) pnext
 rwa [List.append_nil] at this
end
def gO (c : Nat) : List AV → List AV × List Row × Nat
 | [] => ([], [], c)
 | v :: vs => match v with
  | .nv u => match gO c vs with
   | (cs, R, c) => (.nv u :: cs, R, c)
  | v => match gO (c + 1) vs with
   | (cs, R, c') => (.nv c :: cs, .eq c v :: R, c')
structure Ly (c : Nat) (vs : List AV) (ρ ρ' : Nms) (x : List AV × List Row × Nat) : Prop where
 ag : aw c ρ ρ'
 le : c ≤ x.2.2
 eq : AV.ae ρ' x.1 = AV.ae ρ vs
 lw : AV.aY x.2.2 x.1 = true
 rl : aS x.2.2 x.2.1 = true
 rp : ∀ r ∈ x.2.1, (r.item ρ' []).bU = true ∧ ∀ M w, (r.item ρ' []).P M w
 rg : ∀ r ∈ x.2.1, r.gd = none
theorem mZ {c d : Nat} (hcd : c ≤ d) : {G : List Row} → aS c G = true → aS d G = true
 | [], _ => rfl
 | r :: G, h => by
  simp only [aS, Bool.and_eq_true] at h ⊢
  exact ⟨Row.dh hcd h.1, mZ hcd h.2⟩
theorem j9 {c : Nat} : {G H : List Row} → aS c G = true → aS c H = true → aS c (G ++ H) = true
 | [], _, _, h => h
 | r :: G, H, h, k => by
  simp only [List.cons_append, aS, Bool.and_eq_true] at h ⊢
  exact ⟨h.1, j9 h.2 k⟩
theorem sx : {vs : List AV} → {c : Nat} → {ρ : Nms} → AV.aY c vs = true → ∃ ρ', Ly c vs ρ ρ' (gO c vs)
 | [], c, ρ, h => ⟨ρ, .refl, Nat.le_refl _, rfl, rfl, rfl, (fun _ h => by cases h), fun _ h => by cases h⟩
 | v :: vs, c, ρ, h => by
  simp only [AV.aY, Bool.and_eq_true] at h
  have other : (∀ u, v ≠ .nv u) → gO c (v :: vs) = (match gO (c + 1) vs with | (cs, R, c') => (.nv c :: cs, .eq c v :: R, c')) → ∃ ρ', Ly c (v :: vs) ρ ρ' (gO c (v :: vs)) := fun _ e => by
   have a1 : aw c ρ (ρ.set c { nm0 with x := v.val ρ }) := Nms.aM
   obtain ⟨ρ', l⟩ := sx (c := c + 1) (ρ := ρ.set c { nm0 with x := v.val ρ }) (AV.fN (Nat.le_succ c) _ h.2)
   rw [e]
   generalize gO (c + 1) vs = L at l
   obtain ⟨cs, R, c'⟩ := L
   have hag : aw c ρ ρ' := a1.trans l.ag (Nat.le_succ _)
   have hx : (ρ' c).x = v.val ρ := by rw [l.ag _ (Nat.lt_succ_self _), Nms.bc]
   have hle : c + 1 ≤ c' := l.le
   refine ⟨ρ', hag, Nat.le_trans (Nat.le_succ _) l.le, ?_, ?_, ?_, ?_, ?_⟩
   ·simp only [AV.ae, AV.val, hx]
    rw [l.eq, AV.aZ a1 _ h.2]
   ·simp only [AV.aY, AV.low, Bool.and_eq_true, Nat.blt_eq]
    exact ⟨by omega, l.lw⟩
   ·simp only [aS, Row.low, Bool.and_eq_true, Nat.blt_eq]
    exact ⟨⟨by omega, AV.dh (by omega) _ h.1⟩, l.rl⟩
   ·intro r hr
    rcases List.mem_cons.1 hr with rfl | hr
    ·exact ⟨rfl, fun M w => by show (ρ' c).x = v.val ρ'; rw [hx, AV.gE hag _ h.1]⟩
    ·exact l.rp r hr
   ·intro r hr
    rcases List.mem_cons.1 hr with rfl | hr
    ·rfl
    ·exact l.rg r hr
  cases v with
  | nv u =>
   obtain ⟨ρ', l⟩ := sx (c := c) (ρ := ρ) h.2
   unfold gO
   dsimp only
   generalize gO c vs = L at l
   obtain ⟨cs, R, c'⟩ := L
   refine ⟨ρ', l.ag, l.le, ?_, ?_, l.rl, l.rp, l.rg⟩
   ·simp only [AV.ae]
    rw [l.eq, AV.gE l.ag _ h.1]
   ·simp only [AV.aY, Bool.and_eq_true]
    exact ⟨AV.dh l.le _ h.1, l.lw⟩
  | _ => exact other (fun u h => by cases h) rfl
/-! regions that draw their order -/
noncomputable def HS {R : Type} (X : Cx) (T : Tbl) (fr : Fr) (st : StB) (g : GK) (op : Op) (dst : Option Tmp) (K : Go_ R) : Option R := match op, dst with
 | .indexAddr t x y, some d => (match fB X.P t with
  | some _ => Gr X T fr st g d t x y K
  | none => Be X T fr st g d t x y K)
 | .slice t x lo hi mx, some d => G3 X T fr st g d t x lo hi mx K
 | .call ⟨.builtin .unsafeSliceData, ⟨[x]⟩, _⟩, some d => gone g (Bf T fr st d x K)
 | .call ⟨.builtin .len, ⟨[x]⟩, ⟨[t]⟩⟩, some d => Gd X T fr st g d t x K
 | _, _ => none
noncomputable def CL {R : Type} (X : Cx) (T : Tbl) (fr : Fr) (st : StB) (g : GK) (o : Oper) (K : Go_ R) : Option R :=
 match GY X T st.E fr.F g o.op with
 | some cv => rW cv.1 (g.map fun _ => T.get g) (K { st with E := bH o.dst g cv.2 st.E })
 | none => match Gg X T st.E fr.F [] fr.H g o.op with
  | some cv => rW cv.1 (g.map fun _ => T.get g) (K { st with E := bH o.dst g cv.2 st.E })
  | none => ifS (st.low fr) (HS X T fr st g o.op o.dst K) none
def aP (p : Row → Bool) : List Row → List Row
 | [] => []
 | r :: G => ifS (p r) (r :: aP p G) (aP p G)
def bN (r : Row) : Bool := !r.bU
theorem Sat.move {A B C : Ctx} {x : Item} {w : World} (h : Sat (A ++ x :: (B ++ C)) w) : Sat (A ++ (B ++ x :: C)) w := by
 refine h.qd (fun j k => (j < A.length ∧ k = j) ∨ (A.length ≤ j ∧ j < A.length + B.length ∧ k = j + 1) ∨ (j = A.length + B.length ∧ k = A.length) ∨ (A.length + B.length < j ∧ k = j)) (fun j jt hj => ?_) (fun j k q hjk h1 h2 => by omega)
 by_cases e : j < A.length
 ·rw [List.getElem?_append_left e] at hj
  exact .inr ⟨j, jt, .inl ⟨e, rfl⟩, by rw [List.getElem?_append_left e]; exact hj, aX.refl⟩
 ·rw [List.getElem?_append_right (by omega)] at hj
  by_cases e2 : j < A.length + B.length
  ·rw [List.getElem?_append_left (by omega)] at hj
   refine .inr ⟨j + 1, jt, .inr (.inl ⟨by omega, e2, rfl⟩), ?_, aX.refl⟩
   rw [List.getElem?_append_right (by omega)]
   have : j + 1 - A.length = (j - A.length) + 1 := by omega
   rw [this, List.getElem?_cons_succ, List.getElem?_append_left (by omega)]
   exact hj
  ·rw [List.getElem?_append_right (by omega)] at hj
   by_cases e3 : j = A.length + B.length
   ·subst e3
    rw [show A.length + B.length - A.length - B.length = 0 by omega] at hj
    simp at hj
    subst hj
    exact .inr ⟨A.length, x, .inr (.inr (.inl ⟨rfl, rfl⟩)), by simp, aX.refl⟩
   ·refine .inr ⟨j, jt, .inr (.inr (.inr ⟨by omega, rfl⟩)), ?_, aX.refl⟩
    rw [List.getElem?_append_right (by omega)]
    have e4 : j - A.length - B.length = (j - A.length - B.length - 1) + 1 := by omega
    rw [e4, List.getElem?_cons_succ] at hj
    have e5 : j - A.length = (j - A.length - 1) + 1 := by omega
    rw [e5, List.getElem?_cons_succ, List.getElem?_append_right (by omega)]
    have e6 : j - A.length - 1 - B.length = j - A.length - B.length - 1 := by omega
    rw [e6]; exact hj
theorem Sat.pL {w : World} {B : Ctx} : ∀ {A : Ctx}, Sat (A ++ B) w → Sat B w
 | [], h => h
 | _x :: A, h => Sat.pL (A := A) (Sat.uy (A := []) h)
section
variable {ρ : Nms} {T : Tbl} {w : World}
theorem mu {p : Row → Bool} {H : List Row} {Φ : Ctx} : ∀ {G : List Row} {A : Ctx}, Sat (A ++ (items ρ T G ++ (items ρ T H ++ Φ))) w → Sat (A ++ (items ρ T (aP p G) ++ (items ρ T (aP (fun r => !(p r)) G ++ H) ++ Φ))) w
 | [], _, h => h
 | r :: G, A, h => by
  unfold aP
  cases hp : p r
  ·have h1 : Sat ((A ++ [r.item ρ T]) ++ (items ρ T G ++ (items ρ T H ++ Φ))) w := by simpa [items] using h
   have h2 := mu (p := p) (G := G) h1
   have h3 : Sat (A ++ r.item ρ T :: (items ρ T (aP p G) ++ (items ρ T (aP (fun r => !(p r)) G ++ H) ++ Φ))) w := by simpa using h2
   exact h3.move
  ·have h1 : Sat ((A ++ [r.item ρ T]) ++ (items ρ T G ++ (items ρ T H ++ Φ))) w := by simpa [items] using h
   have h2 := mu (p := p) (G := G) h1
   simpa [items] using h2
end
abbrev frM (fr : Fr) (A : List Row) (st : StB) : Fr := ⟨fr.F, aP (fun r => !(bN r)) st.G ++ (A ++ fr.H), fr.n⟩
abbrev stM (st : StB) : StB := { st with G := aP bN st.G }
abbrev Pdg := Nat × Nat × Nat × List Nat
def uT : List AV → Option (List Nat)
 | [] => some []
 | v :: l => (match v with
  | .nv u => (match uT l with
   | some us => some (u :: us)
   | none => none)
  | _ => none)
def FL : List AV → List Nat → Bool
 | _, [] => true
 | l, n :: ns => (match l with
  | .nv u :: l => Nat.beq u n && FL l ns
  | _ => false)
def pdB (G : List Row) : List Pdg → Bool
 | [] => true
 | x :: Pd => (match jO (p8 x.2.1) G with
  | some (_, .box _ _ cs) => !(Nat.beq x.2.2.1 1000000000) && FL (cs.drop x.2.2.1) x.2.2.2
  | _ => false) && pdB G Pd
def cr (ops : List Oper) (k : Nat) : List Pdg → List Pdg
 | [] => []
 | x :: Pd => ifS (waits .any ops.toArray k x.1) (cr ops k Pd) (x :: cr ops k Pd)
def szA (P : Program) (t : TypeId) : Option Nat := match P.underlying t with
 | some d => ifS (iu d) (match tiA P t with
  | some z => some z.1
  | none => none) (some 1)
 | none => none
def GF {R : Type} (X : Cx) (T : Tbl) (fr : Fr) (st : StB) (g : GK) (k : Nat) (o : Oper) (K : List Row → Pdg → StB → Option R) : Option (Option R) := match o.op, o.dst with
 | .load t x, some d => (match opA T st.E fr.F g x with
  | some (.ptr id off) => (match jO (p8 id) st.G with
   | some (j, .box _ bt cs) => some (match szA X.P t with
    | some n => (match jv X.P t ((cs.drop off).map (ld st.G fr.H)) with
     | some v => (match uT (gO st.c ((cs.drop off).take n)).1 with
      | some us => ifS (st.low fr && v.low st.c && Nat.ble (off + n) cs.length && !(Nat.beq off 1000000000)) (
        K (gO st.c ((cs.drop off).take n)).2.1 (k, id, off, us) { st with c := (gO st.c ((cs.drop off).take n)).2.2, E := bH (some d) g v st.E, G := st.G.set j (.box id bt (kH cs off (gO st.c ((cs.drop off).take n)).1)) } ) none
      | none => none)
     | none => none)
    | none => none)
   | _ => none)
  | _ => none)
 | _, _ => none
def Lu (T : Tbl) (fr : Fr) (st : StB) (g : GK) (o : Oper) : Option (Tmp × TypeId × Nat × Nat) := match o.op, o.dst with
 | .load t x, some d => (match opA T st.E fr.F g x with
  | some (.adr q off) => (match qT T [] fr.H g (.adr q off) with
   | some _ => none
   | none => (match cw st.G fr.H (wg q) with
    | some _ => some (d, t, q, off)
    | none => none))
  | _ => none)
 | _, _ => none
noncomputable def xK {R : Type} (X : Cx) (tb : List Ent) (tp : List bK) (KP : AV → StB → Option R) (ops : List Oper) (fr : Fr) (A : List Row) (T : Tbl) (st : StB) (o : Oper) (K : Tbl → Go_ R) : Option R :=
 match F0 tp T (frM fr A st) (stM st) o (fun v st' => F1 fr KP T v { st' with G := st'.G ++ (aP (fun r => !(bN r)) st.G ++ A) }) (K T) with
 | some q => q
 | none => stepG ops T (frM fr A st) (stM st) o fun T g => opD X tb T (frM fr A st) (stM st) g o (K T)
noncomputable def jW {R : Type} (X : Cx) (tb : List Ent) (tp : List bK) (KP : AV → StB → Option R) (ops : List Oper) (fr : Fr) : OT → List Row → List Pdg → Tbl → StB → Go_ R → Option R
 | .nil, A, _, T, st, K => ifS (tU T fr { st with G := st.G ++ A }) (K (mM T { st with G := st.G ++ A })) none
 | .q k _ rest, A, Pd, T, st, K => (match ops[k]? with
  | some o => stepG ops T (frM fr A st) (stM st) o fun T g => match GF X T (frM fr A st) (stM st) g k o (fun R p st' => jW X tb tp KP ops fr rest (R ++ (aP (fun r => !(bN r)) st.G ++ A)) (p :: Pd) T st' K) with
   | some q => q
   | none => (match Lu T (frM fr A st) (stM st) g o with
    | some p => ifS ((stM st).low (frM fr A st)) (xZ X T (frM fr A st) (stM st) g p.1 p.2.1 p.2.2.1 p.2.2.2 fun st' => jW X tb tp KP ops fr rest (aP (fun r => !(bN r)) st.G ++ A) ((k, p.2.2.1, 1000000000, []) :: Pd) T st' K) none
    | none => CL X T (frM fr A st) (stM st) g o fun st' => jW X tb tp KP ops fr rest (aP (fun r => !(bN r)) st.G ++ A) Pd T st' K)
  | none => none)
 | .l k _ rest, A, Pd, T, st, K => (match ops[k]? with
  | some o => xK X tb tp KP ops fr A T st o fun T st' => ifS (pdB st'.G (cr ops k Pd)) (jW X tb tp KP ops fr rest (aP (fun r => !(bN r)) st.G ++ A) (cr ops k Pd) T st' K) none
  | none => none)
 | .l2 _ k₁ r₁ k₂ r₂, A, Pd, T, st, K => both
  (match ops[k₁]? with
  | some o => xK X tb tp KP ops fr A T st o fun T st' => ifS (pdB st'.G (cr ops k₁ Pd)) (jW X tb tp KP ops fr r₁ (aP (fun r => !(bN r)) st.G ++ A) (cr ops k₁ Pd) T st' K) none
  | none => none)
  (match ops[k₂]? with
  | some o => xK X tb tp KP ops fr A T st o fun T st' => ifS (pdB st'.G (cr ops k₂ Pd)) (jW X tb tp KP ops fr r₂ (aP (fun r => !(bN r)) st.G ++ A) (cr ops k₂ Pd) T st' K) none
  | none => none)
section
variable {R : Type} {X : Cx} {tb : List Ent} {tp : List bK} {KP : AV → StB → Option R} {σ : Option Nat} {Q : aI} {D : List Deferred} {ops : List Oper} {r : R} {fr : Fr} {Φ : Ctx} {K : Go_ R}
theorem HB {T : Tbl} {st : StB} {g : GK} {o : Oper} {ρ : Nms} {w : World} (hΓ : ∀ it ∈ X.Γ, it ∈ Φ) (hT : dB T st.E fr.F) (hs : Sat (items ρ T st.G ++ (items ρ T fr.H ++ Φ)) w) (h : CL X T fr st g o K = some r) :
  ∃ (v : Value) (J : World → Prop), (∀ w', (∃ Φ', Sat (items ρ T fr.H ++ Φ') w') → J w') ∧ (∀ w', J w' → Run X.P (ai ρ T st.E fr.F) (T.get g) o w' v) ∧ aB r K T fr st g o.dst ρ Φ v w := by
 obtain ⟨dst, op, ty, pos, af, gd⟩ := o
 unfold CL at h
 simp only at h
 have okq : ∀ {O : Value → World → Prop}, Okq X.P T g (ai ρ T st.E fr.F) ⟨dst, op, ty, pos, af, gd⟩ w O → ∃ (v : Value) (J : World → Prop), (∀ w', (∃ Φ', Sat (items ρ T fr.H ++ Φ') w') → J w') ∧ (∀ w', J w' → Run X.P (ai ρ T st.E fr.F) (T.get g) ⟨dst, op, ty, pos, af, gd⟩ w' v) ∧ O v w := fun h => by
  obtain ⟨v, h1, h2⟩ := h
  exact ⟨v, fun _ => True, fun _ _ => trivial, fun w' _ => h1 w', h2⟩
 split at h
 ·rename_i cv hcv
  obtain ⟨h1, h2⟩ := jx h
  exact okq ⟨_, fun w' => BB hT hcv h1, aB.old h2 (Nat.le_refl _) rfl rfl hs⟩
 ·split at h
  ·rename_i cv hcv
   obtain ⟨h1, h2⟩ := jx h
   refine ⟨_, fun w' => ∃ Φ', Sat (items ρ T fr.H ++ Φ') w', fun _ h => h, fun w' hw => ?_, aB.old h2 (Nat.le_refl _) rfl rfl hs⟩
   obtain ⟨Φ', hΦ⟩ := hw
   exact Dv (G := []) (Φ := Φ') hΦ hcv h1
  ·obtain ⟨h1, h2⟩ := ar h
   unfold HS at h2
   split at h2
   ·split at h2
    ·exact okq (EU h1 hs h2)
    ·exact okq (BQ h1 hΓ hs h2)
   ·exact okq (Fh h1 hs h2)
   ·obtain ⟨rfl, h3⟩ := cW h2
    exact okq (CJ h1 hs h3)
   ·exact okq (J6 hs h2)
   ·cases h2
def BF (ρ : Nms) (x : Pdg) (w : World) : Prop := Nat.beq x.2.2.1 1000000000 = false ∧ ∃ cs t, cJ w (ρ x.2.1).b t cs ∧ (cs.drop x.2.2.1).take x.2.2.2.length = x.2.2.2.map fun u => (ρ u).x
def Gy (c : Nat) (Pd : List Pdg) : Prop := ∀ x, x ∈ Pd → x.2.1 < c ∧ ∀ u, u ∈ x.2.2.2 → u < c
theorem rX {ρ ρ' : Nms} {c : Nat} (ha : aw c ρ ρ') {x : Pdg} (hx : x.2.1 < c ∧ ∀ u, u ∈ x.2.2.2 → u < c) {w : World} : BF ρ' x w ↔ BF ρ x w := by
 unfold BF
 rw [ha _ hx.1]
 have : (x.2.2.2.map fun u => (ρ' u).x) = x.2.2.2.map fun u => (ρ u).x := List.map_congr_left fun u hu => by rw [ha _ (hx.2 u hu)]
 rw [this]
theorem Af {ρ : Nms} : ∀ {l : List AV} {us : List Nat}, FL l us = true → (AV.ae ρ l).take us.length = us.map fun u => (ρ u).x
 | l, [], _ => by simp
 | l, n :: ns, h => by
  unfold FL at h
  split at h
  ·rename_i u l'
   simp only [Bool.and_eq_true] at h
   have e := Nat.eq_of_beq_eq_true h.1
   subst e
   simp only [AV.ae, AV.val, List.length_cons, List.take_succ_cons, List.map_cons]
   rw [Af h.2]
  ·cases h
theorem xJ {ρ : Nms} : ∀ {l : List AV} {us : List Nat}, uT l = some us → AV.ae ρ l = us.map (fun u => (ρ u).x) ∧ us.length = l.length
 | [], us, h => by cases h; simp [AV.ae]
 | v :: l, us, h => by
  unfold uT at h
  split at h
  ·rename_i u
   split at h
   ·rename_i us' hus
    cases h
    obtain ⟨h1, h2⟩ := xJ (ρ := ρ) hus
    simp [AV.ae, AV.val, h1, h2]
   ·cases h
  ·cases h
theorem Av {c : Nat} : ∀ {l : List AV} {us : List Nat}, uT l = some us → AV.aY c l = true → ∀ u, u ∈ us → u < c
 | [], us, h, _, u, hu => by cases h; cases hu
 | v :: l, us, h, hl, u, hu => by
  unfold uT at h
  split at h
  ·rename_i u'
   split at h
   ·rename_i us' hus
    cases h
    simp only [AV.aY, AV.low, Bool.and_eq_true, Nat.blt_eq] at hl
    rcases List.mem_cons.1 hu with rfl | hu
    ·exact hl.1
    ·exact Av hus hl.2 u hu
   ·cases h
  ·cases h
theorem HO {ρ : Nms} {T : Tbl} {G : List Row} {B : Ctx} {w : World} (hs : Sat (items ρ T G ++ B) w) : ∀ {Pd : List Pdg}, pdB G Pd = true → ∀ x, x ∈ Pd → BF ρ x w
 | [], _, x, hx => by cases hx
 | y :: Pd, h, x, hx => by
  simp only [pdB, Bool.and_eq_true] at h
  rcases List.mem_cons.1 hx with rfl | hx
  ·have h1 := h.1
   split at h1
   ·rename_i j id t cs hf
    obtain ⟨f1, f2⟩ := iT hf
    have : id = x.2.1 := Nat.eq_of_beq_eq_true f2
    subst this
    have hb : cJ w (ρ x.2.1).b t (AV.ae ρ cs) := hs.at_ (eI f1)
    simp only [Bool.and_eq_true] at h1
    refine ⟨by simpa using h1.1, _, t, hb, ?_⟩
    rw [← AV.ei]
    exact Af h1.2
   ·cases h1
  ·exact HO hs h.2 x hx
theorem lN {k : Nat} : ∀ {Pd : List Pdg} {x : Pdg}, x ∈ cr ops k Pd ↔ x ∈ Pd ∧ waits .any ops.toArray k x.1 = false
 | [], x => by simp [cr]
 | y :: Pd, x => by
  unfold cr
  cases hw : waits .any ops.toArray k y.1
  ·show x ∈ y :: cr ops k Pd ↔ _
   rw [List.mem_cons, List.mem_cons, lN]
   constructor
   ·rintro (rfl | ⟨h1, h2⟩)
    ·exact ⟨.inl rfl, hw⟩
    ·exact ⟨.inr h1, h2⟩
   ·rintro ⟨rfl | h1, h2⟩
    ·exact .inl rfl
    ·exact .inr ⟨h1, h2⟩
  ·show x ∈ cr ops k Pd ↔ _
   rw [List.mem_cons, lN]
   constructor
   ·rintro ⟨h1, h2⟩; exact ⟨.inr h1, h2⟩
   ·rintro ⟨rfl | h1, h2⟩
    ·rw [hw] at h2; cases h2
    ·exact ⟨h1, h2⟩
theorem Nj {pend : fJ} {w : World} (h : ∀ p, p ∈ pend → p.2 w) : lD pend w := by
 induction pend with
 | nil => trivial
 | cons p l ih => exact ⟨h p (List.mem_cons_self ..), ih fun q hq => h q (List.mem_cons_of_mem _ hq)⟩
theorem Nk {P : Program} {ρ : Nms} {Ev : Env} {g : Bool} {t : TypeId} {x : Operand} {n : Nat} {l : List AV} {v : AV} {ad : Addr} {w : World} {dst : Option Tmp} {ty : TypeId} {pos : String} {af : Array Edge} {gd : Option (Nat × Bool)}
  (hx : Opd Ev g x (.pointer (some ad))) (hn : szA P t = some n) (hv : jv P t l = some v) (hl : n ≤ l.length) (hc : aJ w ad ((AV.ae ρ l).take n)) : Run P Ev g ⟨dst, .load t x, ty, pos, af, gd⟩ w (v.val ρ) := by
 have h' : jv P t (l.drop 0) = some v := by simpa using hv
 obtain ⟨d, n', bytes, z, c1, c2, c3⟩ := lY (X := ⟨P, [], [], [], fun _ h => nomatch h⟩) (ρ := ρ) h'
 have c1 : P.underlying t = some d := c1
 unfold szA at hn
 rw [c1] at hn
 rcases cm hn with ⟨hd, h2⟩ | ⟨hd, h2⟩
 ·split at h2
  ·rename_i z2 hz2
   obtain ⟨m, b2, z2⟩ := z2
   cases h2
   unfold jv at hv
   rw [c1] at hv
   rcases cm hv with ⟨_, h3⟩ | ⟨h3, _⟩
   ·rw [hz2] at h3
    obtain ⟨_, h5⟩ := ar h3
    cases h5
    simp only [AV.val, AV.gR]
    exact tP c1 hd (cn hz2) hx (fun _ => hc) (by rw [List.length_take, AV.aK]; exact Nat.min_eq_left hl)
   ·rw [hd] at h3; cases h3
  ·cases h2
 ·cases h2
  rw [hd] at c3
  simp only [Bool.false_eq_true, if_false] at c3
  refine ug c1 hd hx (fun _ => ?_)
  have e : (AV.ae ρ l).take 1 = [v.val ρ] := by
   cases hq : AV.ae ρ l with
   | nil => rw [hq] at c3; cases c3
   | cons a l => rw [hq] at c3; cases c3; rfl
  rw [e] at hc; exact hc
theorem DF {l : List Value} {off n : Nat} (h : off + n ≤ l.length) : iD l off ((l.drop off).take n) = l := by
 unfold iD
 have e1 : ((l.drop off).take n).length = n := by rw [List.length_take, List.length_drop]; omega
 rw [e1]
 have e2 : (l.drop off).take n ++ l.drop (off + n) = l.drop off := by
  rw [← List.drop_drop, List.take_append_drop]
 rw [List.append_assoc, e2, List.take_append_drop]
theorem Jv {T : Tbl} {st : StB} {g : GK} {k : Nat} {o : Oper} {ρ : Nms} {w : World} {KQ : List Row → Pdg → StB → Option R} (hs : Sat (items ρ T st.G ++ (items ρ T fr.H ++ Φ)) w) (h : GF X T fr st g k o KQ = some (some r)) :
  ∃ (v : Value) (ρ' : Nms) (st' : StB) (av : AV) (Rq : List Row) (p : Pdg), KQ Rq p st' = some r ∧ aw st.c ρ ρ' ∧ st.c ≤ st'.c ∧ st'.E = bH o.dst g av st.E ∧ av.val ρ' = v ∧ ai ρ' T st.E fr.F = ai ρ T st.E fr.F ∧ items ρ' T fr.H = items ρ T fr.H ∧
   Sat (items ρ' T st'.G ++ (items ρ' T (Rq ++ fr.H) ++ Φ)) w ∧ p.1 = k ∧ BF ρ' p w ∧ (p.2.1 < st'.c ∧ ∀ u, u ∈ p.2.2.2 → u < st'.c) ∧ (∀ w', BF ρ' p w' → Run X.P (ai ρ T st.E fr.F) (T.get g) o w' v) := by
 obtain ⟨dst, op, ty, pos, af, gd⟩ := o
 unfold GF at h
 simp only at h
 split at h
 ·rename_i t x d
  split at h
  ·rename_i id off hx
   split at h
   ·rename_i j id' bt cs hf
    simp only [Option.some.injEq] at h
    split at h
    ·rename_i n hn
     split at h
     ·rename_i v hv
      split at h
      ·rename_i us hus
       obtain ⟨h1, h2⟩ := ar h
       simp only [Bool.and_eq_true, Nat.ble_eq] at h1
       obtain ⟨⟨⟨hl, hvl⟩, hle⟩, hmk⟩ := h1
       obtain ⟨l1, l2, l3, l4⟩ := StB.bJ.1 hl
       obtain ⟨f1, f2⟩ := iT hf
       have : id' = id := Nat.eq_of_beq_eq_true f2
       subst this
       have hj : j < st.G.length := (List.getElem?_eq_some_iff.1 f1).1
       have hrow := kK l3 f1
       simp only [Row.low, Bool.and_eq_true, Nat.blt_eq] at hrow
       have hsub : ∀ {l : List AV} {c m q : Nat}, AV.aY c l = true → AV.aY c ((l.drop m).take q) = true := fun {l c m q} h => by
        have dr : ∀ (l : List AV) (m : Nat), AV.aY c l = true → AV.aY c (l.drop m) = true := fun l => by
         induction l with
         | nil => intro m h; simp [AV.aY]
         | cons a l ih =>
          intro m h
          cases m with
          | zero => exact h
          | succ m => simp only [AV.aY, Bool.and_eq_true] at h; exact ih m h.2
        have tk : ∀ (l : List AV) (m : Nat), AV.aY c l = true → AV.aY c (l.take m) = true := fun l => by
         induction l with
         | nil => intro m h; simp [AV.aY]
         | cons a l ih =>
          intro m h
          cases m with
          | zero => rfl
          | succ m => simp only [AV.aY, Bool.and_eq_true, List.take_succ_cons] at h ⊢; exact ⟨h.1, ih m h.2⟩
        exact tk _ _ (dr _ _ h)
       obtain ⟨ρ', lk⟩ := sx (ρ := ρ) (hsub (m := off) (q := n) hrow.2)
       obtain ⟨i1, i2⟩ := xJ (ρ := ρ') hus
       have hil := Av hus lk.lw
       generalize gO st.c ((cs.drop off).take n) = L at h2 lk hus i1 i2 hil
       obtain ⟨ls, Rq, c'⟩ := L
       have hcc : st.c ≤ c' := lk.le
       have hag : aw st.c ρ ρ' := lk.ag
       have heq : AV.ae ρ' ls = AV.ae ρ ((cs.drop off).take n) := lk.eq
       have hb : cJ w (ρ id').b bt (AV.ae ρ cs) := hs.at_ (eI f1)
       have hcsl : AV.ae ρ' cs = AV.ae ρ cs := AV.aZ hag _ hrow.2
       have hval : v.val ρ' = v.val ρ := AV.gE hag _ hvl
       have hus2 : us.length = n := by
        have e1 : (AV.ae ρ' ls).length = n := by rw [heq, AV.aK, List.length_take, List.length_drop]; omega
        rw [i2, ← AV.aK (ρ := ρ') (l := ls)]; exact e1
       have eG := aH (T := T) hag l3
       have eH := aH (T := T) hag l4
       have e3 : (us.map fun u => (ρ' u).x) = ((AV.ae ρ cs).drop off).take n := by rw [← i1, heq, AV.gR, AV.ei]
       refine ⟨v.val ρ, ρ', _, v, Rq, (k, id', off, us), h2, hag, hcc, rfl, hval, iL hl hag, eH, ?_, rfl, ⟨by simpa using hmk, AV.ae ρ cs, bt, ?_, ?_⟩, ⟨Nat.lt_of_lt_of_le hrow.1 hcc, hil⟩, fun w' hw => ?_⟩
       ·show Sat (items ρ' T (st.G.set j _) ++ (items ρ' T (Rq ++ fr.H) ++ Φ)) w
        rw [dS hj, eG]
        have e4 : (Row.box id' bt (kH cs off ls)).item ρ' T = (Row.box id' bt cs).item ρ T := by
         simp only [Row.item]
         rw [hag _ hrow.1, ← mK, hcsl, heq, AV.gR, AV.ei, DF (by rw [AV.aK]; exact hle)]
        have hi := eI (ρ := ρ) (T := T) (Φ := items ρ' T (Rq ++ fr.H) ++ Φ) f1
        have e5 : (items ρ T st.G ++ (items ρ' T (Rq ++ fr.H) ++ Φ)).set j ((Row.box id' bt (kH cs off ls)).item ρ' T) = items ρ T st.G ++ (items ρ' T (Rq ++ fr.H) ++ Φ) := by
         rw [e4]
         apply List.ext_getElem?
         intro q
         by_cases hq : q = j
         ·subst hq
          rw [List.getElem?_set_self (List.getElem?_eq_some_iff.1 hi).1, hi]
         ·rw [List.getElem?_set_ne (fun h => hq h.symm)]
        rw [e5, aF, eH, List.append_assoc]
        have ins : ∀ (L : List Item) (A B : Ctx), Sat (A ++ B) w → (∀ it ∈ L, it.own = [] ∧ ∀ M w, it.P M w) → Sat (A ++ (L ++ B)) w := fun L => by
         induction L with
         | nil => intro A B h _; exact h
         | cons x L ih =>
          intro A B h hL
          have h1 := ih A B h (fun it hit => hL it (List.mem_cons_of_mem _ hit))
          have hx := hL x (List.mem_cons_self ..)
          refine h1.qd (fun j k => (j < A.length ∧ k = j) ∨ (A.length < j ∧ k + 1 = j)) (fun j jt hj => ?_) (fun j k q hjk h1 h2 => by omega)
          by_cases e : j < A.length
          ·rw [List.getElem?_append_left e] at hj
           exact .inr ⟨j, jt, .inl ⟨e, rfl⟩, by rw [List.getElem?_append_left e]; exact hj, aX.refl⟩
          ·rw [List.getElem?_append_right (by omega)] at hj
           by_cases e2 : j = A.length
           ·subst e2
            simp at hj
            subst hj
            exact .inl hx
           ·refine .inr ⟨j - 1, jt, .inr ⟨by omega, by omega⟩, ?_, aX.refl⟩
            rw [List.getElem?_append_right (by omega)]
            have : j - A.length = (j - 1 - A.length) + 1 := by omega
            rw [this, List.cons_append, List.getElem?_cons_succ] at hj
            exact hj
        refine ins (items ρ' T Rq) (items ρ T st.G) (items ρ T fr.H ++ Φ) hs (fun it hit => ?_)
        obtain ⟨rw_, hr1, rfl⟩ := List.mem_map.1 hit
        have h9 := lk.rp rw_ hr1
        have h10 : rw_.item ρ' T = rw_.item ρ' [] := by
         have hgd : rw_.gd = none := lk.rg rw_ hr1
         exact Row.oy (by rw [hgd, Tbl.get_none, Tbl.get_none])
        rw [h10]
        exact ⟨(rw_.item ρ' []).hp h9.1, h9.2⟩
       ·show cJ w (ρ' id').b bt _
        rw [hag _ hrow.1]; exact hb
       ·show ((AV.ae ρ cs).drop off).take us.length = us.map fun u => (ρ' u).x
        rw [hus2, e3]
       ·obtain ⟨_, csv, t2, b1, b2⟩ := hw
        have b1 : cJ w' (ρ' id').b t2 csv := b1
        have b2 : (csv.drop off).take us.length = us.map fun u => (ρ' u).x := b2
        rw [hag _ hrow.1] at b1
        rw [hus2, e3] at b2
        have hx' := ax (ρ := ρ) hx
        simp only [AV.val] at hx'
        have e6 : AV.ae ρ ((cs.drop off).map (ld st.G fr.H)) = (AV.ae ρ cs).drop off := by rw [tR hs, AV.ei]
        refine Nk hx' hn hv (by rw [List.length_map, List.length_drop]; omega) ?_
        rw [e6]
        refine b1.part off ?_
        have : (((AV.ae ρ cs).drop off).take n).length = n := by rw [List.length_take, List.length_drop, AV.aK]; omega
        rw [this]; exact b2
      ·cases h
     ·cases h
    ·cases h
   ·cases h
  ·cases h
 ·cases h
theorem ur {order : OT} {k mk_ : Nat} {pend : fJ} {o : Oper} {T T' : Tbl} {g : GK} {fr1 : Fr} {st1 : StB} {ρ : Nms} {w : World} {v : Value} {J : World → Prop} (hn : fr1.n = fr.n) (so : Hv ops fr fr1 st1 ρ o T T' g) (ho : ops[k]? = some o) (hJw : J w)
  (hr : ∀ w', J w' → Run X.P (ai ρ T' st1.E fr1.F) (T'.get g) o w' v) (hnext : WD X.P σ ops.toArray Q fr.n D order ((k, J) :: pend) (jN o.dst (T'.get g) v (ai ρ T' st1.E fr1.F)) w) :
  WD X.P σ ops.toArray Q fr.n D (.q k mk_ order) pend (ai ρ T' st1.E fr1.F) w := by
 have ho' : ops.toArray[k]? = some o := by simpa using ho
 have hds := so.ds
 rw [hn] at hds
 intro a hfit hD
 simp only [wpD, ho']
 cases hg : g with
 | none =>
  subst hg
  rw [Tbl.get_none] at hr hnext
  refine ⟨v, J, hJw, .inl ⟨by simp [Region.wanted, so.gg], fun w' hw' => hr w' hw' _ a hfit rfl⟩, ?_⟩
  exact hnext _ (hfit.jN hds) (by rw [fQ]; exact hD)
 | some gk =>
  obtain ⟨rj, par, b, g1, g2, g3, g4⟩ := so.gk gk hg
  rw [hn] at g3
  subst hg
  have hw := ng (ops := ops.toArray) so.gg (by simpa using g1) g2 hfit g3
  rw [g4] at hw
  cases hT : T'.get (some gk)
  ·rw [hT] at hw hnext
   refine ⟨undef, J, hJw, .inr ⟨hw, rfl⟩, ?_⟩
   exact hnext _ (hfit.jN (g := false) (v := v) hds) (by rw [fQ]; exact hD)
  ·rw [hT] at hw hr hnext
   refine ⟨v, J, hJw, .inl ⟨hw, fun w' hw' => hr w' hw' _ a hfit rfl⟩, ?_⟩
   exact hnext _ (hfit.jN hds) (by rw [fQ]; exact hD)
theorem Oj {G H : List Row} {s : Src} {rw_ : Row} {q c : Nat} (h : s.at_ G H rw_) (hk : wg q rw_ = true) (hG : aS c G = true) (hH : aS c H = true) : q < c := by
 have key : ∀ {L : List Row}, aS c L = true → rw_ ∈ L → q < c := fun {L} hl hm => by
  have hr : rw_.low c = true := by
   induction L with
   | nil => cases hm
   | cons x L ih =>
    simp only [aS, Bool.and_eq_true] at hl
    rcases List.mem_cons.1 hm with rfl | hm
    ·exact hl.1
    ·exact ih hl.2 hm
  unfold wg at hk
  split at hk
  ·have e := Nat.eq_of_beq_eq_true hk
   subst e
   simp only [Row.low, Bool.and_eq_true, Nat.blt_eq] at hr
   exact hr.1.1
  ·cases hk
 cases s with
 | top i => exact key hG (List.mem_of_getElem? h)
 | frz i => exact key hH (List.mem_of_getElem? h)
 | nilI t => exact h.elim
 | nilO t e => exact h.elim
 | nilM k v => exact h.elim
def HP (ρ : Nms) (T : Tbl) (fr : Fr) (A : List Row) (Pd : List Pdg) (pend : fJ) : Prop := ∀ p, p ∈ pend → ∀ w', (∃ Φ', Sat (items ρ T (A ++ fr.H) ++ Φ') w') → (∀ x, x ∈ Pd → x.1 = p.1 → BF ρ x w') → p.2 w'
theorem Mk (hΓ : ∀ it ∈ X.Γ, it ∈ Φ) (htb : ∀ e ∈ tb, e.Ok X.P X.Γ) (htp : ∀ e ∈ tp, e.Ok X.P X.Γ) : ∀ {order : OT} {A : List Row} {Pd : List Pdg} {T : Tbl} {st : StB} {ρ : Nms} {w : World} {pend : fJ}, dB T st.E fr.F → iX ops fr.n T → FT T fr → Gy st.c Pd → Sat (items ρ T st.G ++ (items ρ T (A ++ fr.H) ++ Φ)) w →
  HP ρ T fr A Pd pend → jW X tb tp KP ops fr order A Pd T st K = some r →
  (∀ st' ρ' w', aw st.c ρ ρ' → st.c ≤ st'.c → K st' = some r → Sat (items ρ' [] st'.G ++ (items ρ' [] fr.H ++ Φ)) w' → At Q .normal fr.n D (ai ρ' [] st'.E fr.F) w') →
  (∀ v st' ρ' w', aw st.c ρ ρ' → st.c ≤ st'.c → KP v st' = some r → Sat (items ρ' [] st'.G ++ (items ρ' [] fr.H ++ Φ)) w' → AtP Q (pan (v.val ρ')) D w') →
  WD X.P σ ops.toArray Q fr.n D order pend (ai ρ T st.E fr.F) w := by
 intro order
 -- a loud operation, the rest by induction
 have loud : ∀ (rest : OT) (k mk : Nat), (∀ {A : List Row} {Pd : List Pdg} {T : Tbl} {st : StB} {ρ : Nms} {w : World} {pend : fJ}, dB T st.E fr.F → iX ops fr.n T → FT T fr → Gy st.c Pd → Sat (items ρ T st.G ++ (items ρ T (A ++ fr.H) ++ Φ)) w →
   HP ρ T fr A Pd pend → jW X tb tp KP ops fr rest A Pd T st K = some r →
   (∀ st' ρ' w', aw st.c ρ ρ' → st.c ≤ st'.c → K st' = some r → Sat (items ρ' [] st'.G ++ (items ρ' [] fr.H ++ Φ)) w' → At Q .normal fr.n D (ai ρ' [] st'.E fr.F) w') →
   (∀ v st' ρ' w', aw st.c ρ ρ' → st.c ≤ st'.c → KP v st' = some r → Sat (items ρ' [] st'.G ++ (items ρ' [] fr.H ++ Φ)) w' → AtP Q (pan (v.val ρ')) D w') →
   WD X.P σ ops.toArray Q fr.n D rest pend (ai ρ T st.E fr.F) w) →
   ∀ {A : List Row} {Pd : List Pdg} {T : Tbl} {st : StB} {ρ : Nms} {w : World} {pend : fJ}, dB T st.E fr.F → iX ops fr.n T → FT T fr → Gy st.c Pd → Sat (items ρ T st.G ++ (items ρ T (A ++ fr.H) ++ Φ)) w →
   HP ρ T fr A Pd pend →
   (match ops[k]? with
    | some o => xK X tb tp KP ops fr A T st o fun T st' => ifS (pdB st'.G (cr ops k Pd)) (jW X tb tp KP ops fr rest (aP (fun r => !(bN r)) st.G ++ A) (cr ops k Pd) T st' K) none
    | none => none) = some r →
   (∀ st' ρ' w', aw st.c ρ ρ' → st.c ≤ st'.c → K st' = some r → Sat (items ρ' [] st'.G ++ (items ρ' [] fr.H ++ Φ)) w' → At Q .normal fr.n D (ai ρ' [] st'.E fr.F) w') →
   (∀ v st' ρ' w', aw st.c ρ ρ' → st.c ≤ st'.c → KP v st' = some r → Sat (items ρ' [] st'.G ++ (items ρ' [] fr.H ++ Φ)) w' → AtP Q (pan (v.val ρ')) D w') →
   WD X.P σ ops.toArray Q fr.n D (.l k mk rest) pend (ai ρ T st.E fr.F) w := by
  intro rest k mk ih A Pd T st ρ w pend h1 h2 hf hpd hs hp h next pnext
  split at h
  ·rename_i o ho
   have hs1 := mu (A := []) (p := bN) hs
   refine MA (k := k) (mk := mk) (o := o) (by simpa using ho) rfl ?_
   have fin : ∀ T' st' ρ' w', dB T' st'.E (frM fr A st).F → iX ops (frM fr A st).n T' → FT T' fr → aw (stM st).c ρ ρ' → (stM st).c ≤ st'.c → (ifS (pdB st'.G (cr ops k Pd)) (jW X tb tp KP ops fr rest (aP (fun r => !(bN r)) st.G ++ A) (cr ops k Pd) T' st' K) none) = some r → items ρ' T' (frM fr A st).H = items ρ T (frM fr A st).H → Sat (items ρ' T' st'.G ++ (items ρ' T' (frM fr A st).H ++ Φ)) w' →
     WL X.P σ ops.toArray (QK X.P σ ops.toArray Q fr.n D rest (still .any ops.toArray k pend)) fr.n D [] (ai ρ' T' st'.E (frM fr A st).F) w' := by
    intro T' st' ρ' w' a1 a2 a3 a4 a5 a6 a7 a8
    obtain ⟨a9, a10⟩ := ar a6
    have e1 : aP (fun r => !(bN r)) st.G ++ (A ++ fr.H) = (aP (fun r => !(bN r)) st.G ++ A) ++ fr.H := by rw [List.append_assoc]
    have hs8 : Sat (items ρ' T' st'.G ++ (items ρ' T' ((aP (fun r => !(bN r)) st.G ++ A) ++ fr.H) ++ Φ)) w' := by rw [← e1]; exact a8
    have conv : ∀ w2, (∃ Φ', Sat (items ρ' T' ((aP (fun r => !(bN r)) st.G ++ A) ++ fr.H) ++ Φ') w2) → ∃ Φ', Sat (items ρ T (A ++ fr.H) ++ Φ') w2 := fun w2 hw => by
     obtain ⟨Φ', hΦ⟩ := hw
     refine ⟨Φ', ?_⟩
     rw [← e1] at hΦ
     have hΦ2 : Sat (items ρ T (aP (fun r => !(bN r)) st.G ++ (A ++ fr.H)) ++ Φ') w2 := by rw [← a7]; exact hΦ
     rw [aF, List.append_assoc] at hΦ2
     exact hΦ2.pL
    have mem : ∀ p, p ∈ still .any ops.toArray k pend → p ∈ pend ∧ ∀ x, x ∈ Pd → x.1 = p.1 → x ∈ cr ops k Pd := fun p hpm => by
     unfold still at hpm
     rw [List.mem_filter] at hpm
     exact ⟨hpm.1, fun x hx he => lN.2 ⟨hx, by rw [he]; simpa using hpm.2⟩⟩
    have HP' : HP ρ' T' fr (aP (fun r => !(bN r)) st.G ++ A) (cr ops k Pd) (still .any ops.toArray k pend) := fun p hpm w2 hw hB => by
     obtain ⟨m1, m2⟩ := mem p hpm
     exact hp p m1 w2 (conv w2 hw) (fun x hx he => (rX a4 (hpd x hx)).1 (hB x (m2 x hx he) he))
    have hBF := HO (B := items ρ' T' ((aP (fun r => !(bN r)) st.G ++ A) ++ fr.H) ++ Φ) hs8 a9
    refine w5 (OQ (Nj fun p hpm => HP' p hpm w' ⟨Φ, hs8.pL⟩ (fun x hx _ => hBF x hx)) ?_)
    exact ih a1 a2 a3 (fun x hx => ⟨Nat.lt_of_lt_of_le (hpd x (lN.1 hx).1).1 a5, fun u hu => Nat.lt_of_lt_of_le ((hpd x (lN.1 hx).1).2 u hu) a5⟩) hs8 HP' a10 (fun st2 ρ2 w2 b1 b2 b3 b4 => next st2 ρ2 w2 (a4.trans b1 a5) (Nat.le_trans a5 b2) b3 b4) (fun v st2 ρ2 w2 b1 b2 b3 b4 => pnext v st2 ρ2 w2 (a4.trans b1 a5) (Nat.le_trans a5 b2) b3 b4)
   unfold xK at h
   split at h
   ·rename_i q hq
    subst h
    refine Lw (fr := frM fr A st) (st := stM st) h1 hs1 hΓ htp hq (fun st' ρ' w' a1 a4 a5 a6 a7 a8 => fin T st' ρ' w' a1 h2 hf a4 a5 a6 a7 a8) (fun v st' ρ' w' a1 a2 a3 ae1 ae2 a4 => ?_)
    have a4' : Sat (items ρ' T ({ st' with G := st'.G ++ (aP (fun r => !(bN r)) st.G ++ A) } : StB).G ++ (items ρ' T fr.H ++ Φ)) w' := by
     have e2 : (frM fr A st).H = (aP (fun r => !(bN r)) st.G ++ A) ++ fr.H := by rw [List.append_assoc]
     rw [e2, aF, List.append_assoc] at a4
     show Sat (items ρ' T (st'.G ++ (aP (fun r => !(bN r)) st.G ++ A)) ++ _) w'
     rw [aF, List.append_assoc]
     exact a4
    obtain ⟨st2, k1, k2, _, k3⟩ := EW (fr := fr) hf a3 a4'
    have k2' : st2.c = st'.c := k2
    have := pnext v st2 ρ' w' a1 (by rw [k2']; exact a2) k1 k3
    exact DT this
   ·exact CK (fr := frM fr A st) (st := stM st) (fr0 := fr) (K := fun T st' => ifS (pdB st'.G (cr ops k Pd)) (jW X tb tp KP ops fr rest (aP (fun r => !(bN r)) st.G ++ A) (cr ops k Pd) T st' K) none) h1 h2 rfl (fun r hr => List.mem_append_right _ (List.mem_append_right _ hr)) hf hs1 hΓ htb h fin
  ·cases h
 induction order with
 | nil =>
  intro A Pd T st ρ w pend h1 h2 hf hpd hs hp h next pnext
  unfold jW at h
  obtain ⟨h3, h4⟩ := ar h
  have hs' : Sat (items ρ T ({ st with G := st.G ++ A } : StB).G ++ (items ρ T fr.H ++ Φ)) w := by
   show Sat (items ρ T (st.G ++ A) ++ _) w
   rw [aF, List.append_assoc]
   rw [aF, List.append_assoc] at hs
   exact hs
  obtain ⟨k1, k2, k3⟩ := rI h3 hf hs'
  exact Oc ((next _ ρ w .refl (by rw [k1]; exact Nat.le_refl _) h4 k3).iR _ k2)
 | q k m rest ih =>
  intro A Pd T st ρ w pend h1 h2 hf hpd hs hp h next pnext
  unfold jW at h
  split at h
  ·rename_i o ho
   have hs1 := mu (A := []) (p := bN) hs
   obtain ⟨T', g, hk, so⟩ := BO (ρ := ρ) (fr0 := fr) (fr := frM fr A st) (st := stM st) h1 h2 rfl (fun r hr => List.mem_append_right _ (List.mem_append_right _ hr)) hf h
   have hs' : Sat (items ρ T' (stM st).G ++ (items ρ T' (frM fr A st).H ++ Φ)) w := by rw [so.eg, so.eh]; exact hs1
   have he : ai ρ T st.E fr.F = ai ρ T' st.E fr.F := by
    have e1 := so.ee
    have e2 := so.ef
    rw [ai, ai, e1, e2]
   rw [he]
   have e1 : aP (fun r => !(bN r)) st.G ++ (A ++ fr.H) = (aP (fun r => !(bN r)) st.G ++ A) ++ fr.H := by rw [List.append_assoc]
   -- from what stands then to what stands now
   have conv0 : ∀ w2 Φ', Sat (items ρ T' (aP (fun r => !(bN r)) st.G ++ (A ++ fr.H)) ++ Φ') w2 → ∃ Φ', Sat (items ρ T (A ++ fr.H) ++ Φ') w2 := fun w2 Φ' hΦ => by
    refine ⟨Φ', ?_⟩
    have hΦ2 : Sat (items ρ T (aP (fun r => !(bN r)) st.G ++ (A ++ fr.H)) ++ Φ') w2 := by rw [← so.eh]; exact hΦ
    rw [aF, List.append_assoc] at hΦ2
    exact hΦ2.pL
   split at hk
   ·rename_i q hq
    subst hk
    obtain ⟨v, ρ', st', av, Rq, p, k1, k2, k3, k4, k5, k6, k7, k8, k9, k10, k11, k12⟩ := Jv (fr := frM fr A st) (st := stM st) hs' hq
    have e2 : Rq ++ (aP (fun r => !(bN r)) st.G ++ (A ++ fr.H)) = (Rq ++ (aP (fun r => !(bN r)) st.G ++ A)) ++ fr.H := by simp
    refine ur (fr1 := frM fr A st) (st1 := stM st) (J := BF ρ' p) rfl so ho k10 k12 ?_
    have := ih (A := Rq ++ (aP (fun r => !(bN r)) st.G ++ A)) (Pd := p :: Pd) (T := T') (st := st') (ρ := ρ') (w := w) (pend := (k, BF ρ' p) :: pend) (by rw [k4]; exact so.t1.out so.ak g av) so.t2 so.ft (fun x hx => ?_) (by rw [← e2]; exact k8) (fun q hqm w2 hw hB => ?_) k1 (fun st2 ρ2 w2 b1 b2 b3 b4 => next st2 ρ2 w2 (k2.trans b1 k3) (Nat.le_trans k3 b2) b3 b4) (fun v st2 ρ2 w2 b1 b2 b3 b4 => pnext v st2 ρ2 w2 (k2.trans b1 k3) (Nat.le_trans k3 b2) b3 b4)
    ·rw [k4, mJ, k5, k6] at this
     exact this
    ·rcases List.mem_cons.1 hx with rfl | hx
     ·exact k11
     ·exact ⟨Nat.lt_of_lt_of_le (hpd x hx).1 k3, fun u hu => Nat.lt_of_lt_of_le ((hpd x hx).2 u hu) k3⟩
    ·rcases List.mem_cons.1 hqm with rfl | hqm
     ·exact hB p (List.mem_cons_self ..) k9
     ·obtain ⟨Φ', hΦ⟩ := hw
      rw [← e2, aF, List.append_assoc] at hΦ
      have hΦ1 := hΦ.pL
      have hΦ2 : Sat (items ρ T' (aP (fun r => !(bN r)) st.G ++ (A ++ fr.H)) ++ Φ') w2 := by rw [← k7]; exact hΦ1
      exact hp q hqm w2 (conv0 w2 Φ' hΦ2) (fun x hx he => (rX k2 (hpd x hx)).1 (hB x (List.mem_cons_of_mem _ hx) he))
   ·split at hk
    ·rename_i p hpo
     obtain ⟨lw, hk⟩ := ar hk
     obtain ⟨dst, op, ty, pos, af, gd⟩ := o
     unfold Lu at hpo
     split at hpo
     ·rename_i t x d hop hdst
      simp only at hop hdst
      subst hop hdst
      split at hpo
      ·rename_i q off hx
       split at hpo
       ·cases hpo
       split at hpo
       ·rename_i sr hkn
        cases hpo
        obtain ⟨v, hr, hO⟩ := zU (ty := ty) (pos := pos) (af := af) (gd := gd) lw hs' hx hk
        obtain ⟨ρ', st', av, k1, k2, k3, k4, k5, k6, k7, k8⟩ := hO
        have hq : q < st.c := by
         obtain ⟨_, _, l3, l4⟩ := StB.bJ.1 lw
         obtain ⟨f1, f2⟩ := ba hkn
         exact Oj f1 f2 l3 l4
        refine ur (fr1 := frM fr A st) (st1 := stM st) (J := fun w' => w' = w) (v := v) rfl so ho rfl (fun w' hw' => by subst hw'; exact hr) ?_
        have := ih (A := aP (fun r => !(bN r)) st.G ++ A) (Pd := (k, q, 1000000000, []) :: Pd) (T := T') (st := st') (ρ := ρ') (w := w) (pend := (k, fun w' => w' = w) :: pend) (by rw [k4]; exact so.t1.out so.ak g av) so.t2 so.ft (fun x hx => ?_) (by rw [← e1]; exact k8) (fun q' hqm w2 hw hB => ?_) k1 (fun st2 ρ2 w2 b1 b2 b3 b4 => next st2 ρ2 w2 (k2.trans b1 k3) (Nat.le_trans k3 b2) b3 b4) (fun v st2 ρ2 w2 b1 b2 b3 b4 => pnext v st2 ρ2 w2 (k2.trans b1 k3) (Nat.le_trans k3 b2) b3 b4)
        ·rw [k4, mJ, k5, k6] at this
         exact this
        ·rcases List.mem_cons.1 hx with rfl | hx
         ·exact ⟨Nat.lt_of_lt_of_le hq k3, fun u hu => by cases hu⟩
         ·exact ⟨Nat.lt_of_lt_of_le (hpd x hx).1 k3, fun u hu => Nat.lt_of_lt_of_le ((hpd x hx).2 u hu) k3⟩
        ·obtain ⟨Φ', hΦ⟩ := hw
         rw [← e1] at hΦ
         have hΦ1 : Sat (items ρ T' (aP (fun r => !(bN r)) st.G ++ (A ++ fr.H)) ++ Φ') w2 := by rw [← k7]; exact hΦ
         rcases List.mem_cons.1 hqm with rfl | hqm
         ·have := (hB (k, q, 1000000000, []) (List.mem_cons_self ..) rfl).1
          simp at this
         ·exact hp q' hqm w2 (conv0 w2 Φ' hΦ1) (fun x hx he => (rX k2 (hpd x hx)).1 (hB x (List.mem_cons_of_mem _ hx) he))
       ·cases hpo
      ·cases hpo
     ·cases hpo
    ·obtain ⟨v, J, hJ, hr, hO⟩ := HB (fr := frM fr A st) (st := stM st) hΓ so.t1 hs' hk
     obtain ⟨ρ', st', av, k1, k2, k3, k4, k5, k6, k7, k8⟩ := hO
     refine ur (fr1 := frM fr A st) (st1 := stM st) rfl so ho (hJ w ⟨Φ, hs'.pL⟩) hr ?_
     have := ih (A := aP (fun r => !(bN r)) st.G ++ A) (Pd := Pd) (T := T') (st := st') (ρ := ρ') (w := w) (pend := (k, J) :: pend) (by rw [k4]; exact so.t1.out so.ak g av) so.t2 so.ft (fun x hx => ⟨Nat.lt_of_lt_of_le (hpd x hx).1 k3, fun u hu => Nat.lt_of_lt_of_le ((hpd x hx).2 u hu) k3⟩) (by rw [← e1]; exact k8) (fun q hqm w2 hw hB => ?_) k1 (fun st2 ρ2 w2 b1 b2 b3 b4 => next st2 ρ2 w2 (k2.trans b1 k3) (Nat.le_trans k3 b2) b3 b4) (fun v st2 ρ2 w2 b1 b2 b3 b4 => pnext v st2 ρ2 w2 (k2.trans b1 k3) (Nat.le_trans k3 b2) b3 b4)
     ·rw [k4, mJ, k5, k6] at this
      exact this
     ·obtain ⟨Φ', hΦ⟩ := hw
      rw [← e1] at hΦ
      have hΦ1 : Sat (items ρ T' (aP (fun r => !(bN r)) st.G ++ (A ++ fr.H)) ++ Φ') w2 := by rw [← k7]; exact hΦ
      rcases List.mem_cons.1 hqm with rfl | hqm
      ·exact hJ w2 ⟨Φ', hΦ1⟩
      ·exact hp q hqm w2 (conv0 w2 Φ' hΦ1) (fun x hx he => (rX k2 (hpd x hx)).1 (hB x hx he))
  ·cases h
 | l k m rest ih =>
  intro A Pd T st ρ w pend h1 h2 hf hpd hs hp h next pnext
  unfold jW at h
  exact loud rest k m (fun {A Pd T st ρ w pend} => ih) h1 h2 hf hpd hs hp h next pnext
 | l2 m k1 r1 k2 r2 ih1 ih2 =>
  intro A Pd T st ρ w pend h1 h2 hf hpd hs hp h next pnext
  unfold jW at h
  obtain ⟨h3, h4⟩ := zX h
  exact KR (loud r1 k1 m (fun {A Pd T st ρ w pend} => ih1) h1 h2 hf hpd hs hp h3 next pnext) (loud r2 k2 m (fun {A Pd T st ρ w pend} => ih2) h1 h2 hf hpd hs hp h4 next pnext)
end
end Go.Proofs.YtpnogcmollnjeaaGreatDoor
namespace Go.Proofs.YtpnogcmollnjeaaGreatDoor
open Go.Lib
/-! what a piece of code assigns -/
def bh : Code → Nat
 | .region _ ops _ => ops.toList.foldl (fun m o => match o.dst with | some d => Nat.lor m (Nat.shiftLeft 1 d) | none => m) 0
 | .seq a b => Nat.lor (bh a) (bh b)
 | .cond _ a b => Nat.lor (bh a) (bh b)
 | .block _ c => bh c
 | .loop c => bh c
 | .scope c => bh c
 | .rangeFunc _ ps a b => Nat.lor (ps.toList.foldl (fun m d => Nat.lor m (Nat.shiftLeft 1 d)) 0) (Nat.lor (bh a) (bh b))
 | _ => 0
def wA (t : Nat) : List (Bool × Nat × Pt) → Bool
 | [] => false
 | x :: l => (!x.1 && Nat.beq x.2.1 t) || wA t l
def lG (m : Nat) (vs : List (Bool × Nat × Pt)) (t : Nat) : Bool := !(Nat.testBit m t) && !(wA t vs)
def ij (m : Nat) (vs : List (Bool × Nat × Pt)) : al → al
 | [] => []
 | x :: E => ifS ( lG m vs x.1 ) ( x :: ij m vs E ) ( ij m vs E )
def iV (m : Nat) (vs : List (Bool × Nat × Pt)) : al → al
 | [] => []
 | x :: E => ifS ( lG m vs x.1 ) ( iV m vs E ) ( x :: iV m vs E )
theorem Au {m : Nat} {vs : List (Bool × Nat × Pt)} {t : Nat} : {E : al} → aG E t = ifS (lG m vs t) (aG (ij m vs E) t) (aG (iV m vs E) t) ∧ aG (ifS (lG m vs t) (iV m vs E) (ij m vs E)) t = none
 | [] => by cases lG m vs t <;> exact ⟨rfl, rfl⟩
 | (t', g, v) :: E => by
  obtain ⟨ih1, ih2⟩ := Au (m := m) (vs := vs) (t := t) (E := E)
  cases hb : Nat.beq t' t
  ·rw [cI hb]
   unfold ij iV
   cases h1 : lG m vs t' <;> cases h2 : lG m vs t <;> rw [h2] at ih1 ih2 <;> first
    | exact ⟨by rw [cI hb]; exact ih1, ih2⟩
    | exact ⟨ih1, by rw [cI hb]; exact ih2⟩
    | exact ⟨ih1, ih2⟩
  ·have e := Nat.eq_of_beq_eq_true hb
   subst e
   rw [ej hb]
   unfold ij iV
   cases h1 : lG m vs t' <;> rw [h1] at ih2
   ·exact ⟨(ej hb).symm, ih2⟩
   ·exact ⟨(ej hb).symm, ih2⟩
theorem Gm {m : Nat} {vs : List (Bool × Nat × Pt)} {t : Nat} {E F : al} : cC (iV m vs E) (ij m vs E ++ F) t = cC E F t := by
 have app : ∀ A B : al, aG (A ++ B) t = match aG A t with | some x => some x | none => aG B t := fun A B => by
  induction A with
  | nil => rfl
  | cons x A ih =>
   obtain ⟨t', g, v⟩ := x
   cases hb : Nat.beq t' t
   ·rw [List.cons_append, cI hb, cI hb]; exact ih
   ·rw [List.cons_append, ej hb, ej hb]
 obtain ⟨h1, h2⟩ := Au (m := m) (vs := vs) (t := t) (E := E)
 unfold cC
 rw [app]
 cases hk : lG m vs t <;> rw [hk] at h1 h2
 ·rw [show aG (ij m vs E) t = none from h2, h1]
 ·rw [show aG (iV m vs E) t = none from h2, h1]
  rfl
theorem H9 {ρ : Nms} {E E' F F' : al} (h : ∀ t, cC E' F' t = cC E F t) : fE (ai ρ [] E' F') (ai ρ [] E F) := fun t p hp => by
 rw [fc] at hp ⊢
 rw [← h]; exact hp
mutual
def AV.ids : AV → List Nat
 | .ptr id _ | .sl id | .adr id _ | .mp id | .nv id | .sfp id _ => [id]
 | .agg l | .tuple l => AV.Df l
 | .fn _ a b => AV.Df a ++ AV.Df b
 | .ifc _ v => v.ids
 | _ => []
def AV.Df : List AV → List Nat
 | [] => []
 | v :: l => v.ids ++ AV.Df l
end
def Kc (res : AV → AV) (ids : List Nat) : List Row → List Nat
 | [] => []
 | r :: G => (match r with
  | .box j _ vs => ifS (kB j ids) (AV.Df (vs.map res)) []
  | _ => []) ++ Kc res ids G
def reach (st : StB) (fr : Fr) (ts : List Nat) : List Nat :=
 let a := (ts.map fun t => match cC st.E fr.F t with
  | some (_, v) => v.ids
  | none => []).flatten
 let b := a ++ Kc (ld st.G fr.H) a st.G
 b ++ Kc (ld st.G fr.H) b st.G
def fD (ids : List Nat) (r : Row) : Bool := kB r.id ids
def gS (ids : List Nat) (c : Nat) : List Row → List Row × List Row × Nat
 | [] => ([], [], c)
 | r :: G => match r with
  | .box j t vs => ifS ( kB j ids ) ( match gO c vs with
   | (cs, R, c) => match gS ids c G with
    | (G, R', c) => (.box j t cs :: G, R ++ R', c) ) <| match gS ids c G with
   | (G, R', c) => (.box j t vs :: G, R', c)
  | r => match gS ids c G with
   | (G, R', c) => (r :: G, R', c)
def bxs : List Row → List (List AV)
 | [] => []
 | r :: G => (match r with
  | .box _ _ cs => cs :: bxs G
  | _ => bxs G)
structure Li (c : Nat) (G : List Row) (ρ ρ' : Nms) (x : List Row × List Row × Nat) : Prop where
 ag : aw c ρ ρ'
 le : c ≤ x.2.2
 eq : items ρ' [] x.1 = items ρ [] G
 lw : aS x.2.2 x.1 = true
 rl : aS x.2.2 x.2.1 = true
 rp : ∀ r ∈ x.2.1, (r.item ρ' []).bU = true ∧ ∀ M w, (r.item ρ' []).P M w
 bx : (bxs x.1).map (AV.ae ρ') = (bxs G).map (AV.ae ρ)
theorem s8 {ρ ρ' : Nms} {c : Nat} (ha : aw c ρ ρ') : {G : List Row} → aS c G = true → (bxs G).map (AV.ae ρ') = (bxs G).map (AV.ae ρ)
 | [], _ => rfl
 | r :: G, h => by
  simp only [aS, Bool.and_eq_true] at h
  have ih := s8 ha h.2
  cases r with
  | box j t cs =>
   have h1 := h.1
   simp only [Row.low, Bool.and_eq_true] at h1
   show AV.ae ρ' cs :: (bxs G).map (AV.ae ρ') = AV.ae ρ cs :: (bxs G).map (AV.ae ρ)
   rw [ih, AV.aZ ha _ h1.2]
  | _ => exact ih
theorem sc {ids : List Nat} : {G : List Row} → {c : Nat} → {ρ : Nms} → aS c G = true → ∃ ρ', Li c G ρ ρ' (gS ids c G)
 | [], c, ρ, h => ⟨ρ, .refl, Nat.le_refl _, rfl, rfl, rfl, (fun _ h => by cases h), rfl⟩
 | r :: G, c, ρ, h => by
  simp only [aS, Bool.and_eq_true] at h
  have other : (∀ t cs j, r = .box j t cs → kB j ids = false) → gS ids c (r :: G) = (match gS ids c G with | (G, R', c) => (r :: G, R', c)) → ∃ ρ', Li c (r :: G) ρ ρ' (gS ids c (r :: G)) := fun _ e => by
   obtain ⟨ρ', l⟩ := sc (ids := ids) (c := c) (ρ := ρ) h.2
   rw [e]
   generalize gS ids c G = L at l
   obtain ⟨G', R, c'⟩ := L
   refine ⟨ρ', l.ag, l.le, ?_, ?_, l.rl, l.rp, ?_⟩
   ·have := l.eq
    simp only [items, List.map_cons] at this ⊢
    rw [this, Row.n5 l.ag h.1]
   ·simp only [aS, Bool.and_eq_true]
    exact ⟨Row.dh l.le h.1, l.lw⟩
   ·have hb : (bxs G').map (AV.ae ρ') = (bxs G).map (AV.ae ρ) := l.bx
    cases r with
    | box j t cs =>
     have h1 := h.1
     simp only [Row.low, Bool.and_eq_true] at h1
     show AV.ae ρ' cs :: (bxs G').map (AV.ae ρ') = AV.ae ρ cs :: (bxs G).map (AV.ae ρ)
     rw [hb, AV.aZ l.ag _ h1.2]
    | _ => exact hb
  cases r with
  | box j t vs =>
   cases hm : kB j ids
   ·exact other (fun t cs j h => by cases h; exact hm) (by simp only [gS, hm])
   ·have hr := h.1
    simp only [Row.low, Bool.and_eq_true, Nat.blt_eq] at hr
    obtain ⟨ρ1, l1⟩ := sx (ρ := ρ) hr.2
    have e : gS ids c (.box j t vs :: G) = (match gO c vs with
     | (cs, R, c) => match gS ids c G with
      | (G, R', c) => (.box j t cs :: G, R ++ R', c)) := by simp only [gS, hm]
    rw [e]
    generalize gO c vs = L at l1
    obtain ⟨cs, R, c1⟩ := L
    obtain ⟨ρ2, l2⟩ := sc (ids := ids) (c := c1) (ρ := ρ1) (mZ l1.le h.2)
    dsimp only
    generalize gS ids c1 G = L at l2
    obtain ⟨G', R', c2⟩ := L
    have hle1 : c ≤ c1 := l1.le
    have hle2 : c1 ≤ c2 := l2.le
    have hag : aw c ρ ρ2 := l1.ag.trans l2.ag l1.le
    refine ⟨ρ2, hag, Nat.le_trans hle1 hle2, ?_, ?_, j9 (mZ hle2 l1.rl) l2.rl, ?_, ?_⟩
    ·have e2 := l2.eq
     simp only [items, List.map_cons, Row.item] at e2 ⊢
     have hlw : AV.aY c1 cs = true := l1.lw
     have heq : AV.ae ρ1 cs = AV.ae ρ vs := l1.eq
     rw [e2, hag _ hr.1, AV.aZ l2.ag _ hlw, heq]
     have := aH (T := []) l1.ag h.2
     simp only [items] at this
     rw [this]
    ·simp only [aS, Row.low, Bool.and_eq_true, Nat.blt_eq]
     exact ⟨⟨by omega, AV.fN hle2 _ l1.lw⟩, l2.lw⟩
    ·intro r hr
     rcases List.mem_append.1 hr with hr | hr
     ·have hrl : r.low c1 = true := by
       have key : ∀ {R : List Row}, aS c1 R = true → ∀ r ∈ R, r.low c1 = true := fun {R} => by
        induction R with
        | nil => intro _ r h; cases h
        | cons x R ih =>
         intro h r hr
         simp only [aS, Bool.and_eq_true] at h
         rcases List.mem_cons.1 hr with rfl | hr
         ·exact h.1
         ·exact ih h.2 r hr
       exact key l1.rl r hr
      rw [Row.n5 l2.ag hrl]
      exact l1.rp r hr
     ·exact l2.rp r hr
    ·have hb : (bxs G').map (AV.ae ρ2) = (bxs G).map (AV.ae ρ1) := l2.bx
     show AV.ae ρ2 cs :: (bxs G').map (AV.ae ρ2) = AV.ae ρ vs :: (bxs G).map (AV.ae ρ)
     have hlw : AV.aY c1 cs = true := l1.lw
     have heq : AV.ae ρ1 cs = AV.ae ρ vs := l1.eq
     rw [hb, AV.aZ l2.ag _ hlw, heq, s8 l1.ag h.2]
  | _ => exact other (fun t cs j h => by cases h) rfl
end Go.Proofs.YtpnogcmollnjeaaGreatDoor
namespace Go.Proofs.YtpnogcmollnjeaaGreatDoor
open Go.Lib
def ni (E F : al) (t : Nat) : Option AV := match cC E F t with
 | some (none, v) => some v
 | _ => none
theorem qu {ρ : Nms} {E F : al} {t : Nat} {v : AV} (h : ni E F t = some v) : look (ai ρ [] E F) t = some (true, v.val ρ) := by
 unfold ni at h
 split at h
 ·rename_i v' hv
  cases h
  rw [fc, hv]
  simp
 ·cases h
def yl (st : StB) (fr : Fr) : List (Bool × Nat × Pt) → List Nat
 | [] => []
 | x :: l => (ifS x.1 (match cC st.E fr.F x.2.1 with
  | some (_, v) => v.ids
  | none => []) []) ++ yl st fr l
mutual
def JU (G H : List Row) : Pt → AV → List Nat
 | .own _ _ _, v => v.ids
 | .mp _ _ _, v => v.ids
 | .it, v => v.ids
 | .bx _ _ _ vs, v => (match v with
  | .ptr j _ => j :: uF G H vs (cellsOf G H j)
  | _ => [])
 | .agg l, v => (match v with
  | .agg vs => uF G H l vs
  | _ => [])
 | .tup l, v => (match v with
  | .tuple vs => uF G H l vs
  | _ => [])
 | .fn _ a b, v => (match v with
  | .fn _ a' b' => uF G H a a' ++ uF G H b b'
  | _ => [])
 | .ifc _ p, v => (match v with
  | .ifc _ u => JU G H p u
  | _ => [])
 | .dat _ o, v => ifS (o.all (fun x => x.isNone)) [] v.ids
 | _, _ => []
def uF (G H : List Row) : List Pt → List AV → List Nat
 | [], _ => []
 | p :: l, vs => (match vs with
  | v :: vs => JU G H p (ld G H v) ++ uF G H l vs
  | [] => [])
end
def Jc (st : StB) (fr : Fr) : List (Bool × Nat × Pt) → List Nat
 | [] => []
 | x :: l => (match cC st.E fr.F x.2.1 with
  | some (_, v) => JU st.G fr.H x.2.2 (ld st.G fr.H v)
  | none => []) ++ Jc st fr l
structure En where
 fr : Fr
 E : al
 G : List Row
 Et : al
 Gt : List Row
 c : Nat
 fix : Nat → FxA
def J7 (E F : al) (G : List Row) (t : Nat) : FxA := match cC E F t with
 | some (_, v) => some (v, match v with
  | .ptr j _ => cellsOf G [] j
  | _ => [])
 | none => none
def enter (fr : Fr) (tm : Tm) (m : Nat) (st : StB) : En :=
 let ids := Jc st fr tm.vs ++ reach st fr tm.th
 match gS (yl st fr tm.vs) st.c (aP (fD ids) st.G) with
 | (Gt, R, c) => ⟨⟨ij m tm.vs st.E ++ fr.F, (R ++ aP (fun r => !(fD ids r)) st.G) ++ fr.H, fr.n⟩, ij m tm.vs st.E, R ++ aP (fun r => !(fD ids r)) st.G, iV m tm.vs st.E, Gt, c, J7 st.E fr.F Gt⟩
structure Pz (fr : Fr) (st : StB) (Φ : Ctx) (w : World) (ρ ρ' : Nms) (en : En) : Prop where
 ag : aw st.c ρ ρ'
 le : st.c ≤ en.c
 ff : en.fr.F = en.E ++ fr.F
 fh : en.fr.H = en.G ++ fr.H
 fn : en.fr.n = fr.n
 lF : al.low en.c en.fr.F = true
 lH : aS en.c en.fr.H = true
 sub : fE (ai ρ' [] en.Et en.fr.F) (ai ρ [] st.E fr.F)
 sat : Sat (items ρ' [] en.Gt ++ (items ρ' [] en.fr.H ++ Φ)) w
 fx : ∀ t q, en.fix t = some q → q.1.low en.c = true ∧ AV.aY en.c q.2 = true
theorem al.dh {c d : Nat} (hcd : c ≤ d) : {E : al} → E.low c = true → E.low d = true
 | [], _ => rfl
 | x :: E, h => by
  simp only [al.low, Bool.and_eq_true] at h ⊢
  exact ⟨AV.dh hcd _ h.1, al.dh hcd h.2⟩
theorem al.ry {c : Nat} : {E F : al} → E.low c = true → F.low c = true → al.low c (E ++ F) = true
 | [], _, _, h => h
 | x :: E, F, h, k => by
  simp only [List.cons_append, al.low, Bool.and_eq_true] at h ⊢
  exact ⟨h.1, al.ry h.2 k⟩
theorem rA {c : Nat} : {E : al} → E.low c = true → {t : Nat} → {x : GK × AV} → aG E t = some x → x.2.low c = true
 | [], _, _, _, h => by cases h
 | (t', g, v) :: E, h, t, x, hx => by
  simp only [al.low, Bool.and_eq_true] at h
  cases hb : Nat.beq t' t
  ·rw [cI hb] at hx; exact rA h.2 hx
  ·rw [ej hb] at hx; cases hx; exact h.1
theorem tJ {c m : Nat} {vs : List (Bool × Nat × Pt)} : {E : al} → E.low c = true → (ij m vs E).low c = true
 | [], _ => rfl
 | x :: E, h => by
  simp only [al.low, Bool.and_eq_true] at h
  unfold ij
  cases lG m vs x.1
  ·exact tJ h.2
  ·show al.low c (x :: ij m vs E) = true
   simp only [al.low, Bool.and_eq_true]
   exact ⟨h.1, tJ h.2⟩
theorem ui {c m : Nat} {vs : List (Bool × Nat × Pt)} : {E : al} → E.low c = true → (iV m vs E).low c = true
 | [], _ => rfl
 | x :: E, h => by
  simp only [al.low, Bool.and_eq_true] at h
  unfold iV
  cases lG m vs x.1
  ·show al.low c (x :: iV m vs E) = true
   simp only [al.low, Bool.and_eq_true]
   exact ⟨h.1, ui h.2⟩
  ·exact ui h.2
theorem pK {c : Nat} {p : Row → Bool} : {G : List Row} → aS c G = true → aS c (aP p G) = true
 | [], _ => rfl
 | r :: G, h => by
  simp only [aS, Bool.and_eq_true] at h
  unfold aP
  cases p r
  ·exact pK h.2
  ·show aS c (r :: aP p G) = true
   simp only [aS, Bool.and_eq_true]
   exact ⟨h.1, pK h.2⟩
theorem DP {c : Nat} {G : List Row} {j : Nat} (h : aS c G = true) : AV.aY c (cellsOf G [] j) = true := by
 unfold cellsOf
 split
 ·rename_i s j' t cs hf
  obtain ⟨f1, _⟩ := ba hf
  cases s with
  | top i =>
   have := kK h (show G[i]? = some _ from f1)
   simp only [Row.low, Bool.and_eq_true] at this
   exact this.2
  | frz i => have f1 : ([] : List Row)[i]? = some _ := f1; simp at f1
  | nilI => exact f1.elim
  | nilO => exact f1.elim
  | nilM => exact f1.elim
 ·rfl
theorem Kv {c : Nat} {E F : al} {G : List Row} (hE : E.low c = true) (hF : F.low c = true) (hG : aS c G = true) {t : Nat} {q : AV × List AV} (h : J7 E F G t = some q) : q.1.low c = true ∧ AV.aY c q.2 = true := by
 unfold J7 at h
 split at h
 ·rename_i v hv
  cases h
  refine ⟨?_, ?_⟩
  ·unfold cC at hv
   split at hv
   ·rename_i x hx; cases hv; exact rA hE hx
   ·exact rA hF hv
  ·split
   ·exact DP hG
   ·rfl
 ·cases h
theorem mo {fr : Fr} {tm : Tm} {m : Nat} {st : StB} {ρ : Nms} {Φ : Ctx} {w : World} (hl : st.low fr = true) (hs : Sat (items ρ [] st.G ++ (items ρ [] fr.H ++ Φ)) w) : ∃ ρ', Pz fr st Φ w ρ ρ' (enter fr tm m st) := by
 obtain ⟨l1, l2, l3, l4⟩ := StB.bJ.1 hl
 unfold enter
 dsimp only
 generalize Jc st fr tm.vs ++ reach st fr tm.th = ids
 have hs1 := mu (A := []) (p := fD ids) hs
 obtain ⟨ρ', l⟩ := sc (ids := yl st fr tm.vs) (c := st.c) (ρ := ρ) (pK (p := fD ids) l3)
 generalize gS (yl st fr tm.vs) st.c (aP (fD ids) st.G) = L at l
 obtain ⟨Gt, R, c⟩ := L
 have hle : st.c ≤ c := l.le
 have hE := tJ (m := m) (vs := tm.vs) l1
 have hp := pK (p := fun r => !(fD ids r)) l3
 refine ⟨ρ', l.ag, hle, rfl, rfl, rfl, ?_, ?_, ?_, ?_, fun t q hq => ?_⟩
 ·exact al.ry (al.dh hle hE) (al.dh hle l2)
 ·exact j9 (j9 l.rl (mZ hle hp)) (mZ hle l4)
 ·have e1 : ai ρ' [] (iV m tm.vs st.E) (ij m tm.vs st.E ++ fr.F) = ai ρ [] (iV m tm.vs st.E) (ij m tm.vs st.E ++ fr.F) := by
   rw [ai, ai, jL l.ag (ui l1), jL l.ag (al.ry hE l2)]
  show fE (ai ρ' [] (iV m tm.vs st.E) (ij m tm.vs st.E ++ fr.F)) _
  rw [e1]
  exact H9 fun t => Gm
 ·show Sat (items ρ' [] Gt ++ (items ρ' [] ((R ++ aP (fun r => !(fD ids r)) st.G) ++ fr.H) ++ Φ)) w
  have e1 : items ρ' [] Gt = items ρ [] (aP (fD ids) st.G) := l.eq
  have e2 : items ρ' [] (aP (fun r => !(fD ids r)) st.G ++ fr.H) = items ρ [] (aP (fun r => !(fD ids r)) st.G ++ fr.H) := aH l.ag (j9 hp l4)
  rw [List.append_assoc, aF, e1, e2]
  have hs2 : Sat (items ρ [] (aP (fD ids) st.G) ++ (items ρ [] (aP (fun r => !(fD ids r)) st.G ++ fr.H) ++ Φ)) w := by simpa using hs1
  have hadd : ∀ (L : List Item) (A B : Ctx), (∀ it ∈ L, it.bU = true ∧ ∀ M w, it.P M w) → Sat (A ++ B) w → Sat (A ++ (L ++ B)) w := fun L A B hL h => by
   have h1 := oS h L (fun it hit => ⟨(hL it hit).1, (hL it hit).2 _ _⟩)
   have mv : ∀ (L : List Item) (A B : Ctx), Sat (L ++ (A ++ B)) w → Sat (A ++ (L ++ B)) w := fun L => by
    induction L with
    | nil => intro A B h; exact h
    | cons x L ih =>
     intro A B h
     have h2 : Sat ([] ++ x :: ((L ++ A) ++ B)) w := by simpa using h
     have h3 : Sat ([] ++ ((L ++ A) ++ x :: B)) w := h2.move
     have h4 : Sat (L ++ (A ++ x :: B)) w := by simpa using h3
     have h5 : Sat (A ++ (L ++ x :: B)) w := ih _ _ h4
     have h6 : Sat (A ++ (L ++ [x] ++ B)) w := by simpa using h5
     -- x goes ahead of L
     refine h6.qd (fun j k => (j < A.length ∧ k = j) ∨ (j = A.length ∧ k = A.length + L.length) ∨ (A.length < j ∧ j ≤ A.length + L.length ∧ k + 1 = j) ∨ (A.length + L.length < j ∧ k = j)) (fun j jt hj => ?_) (fun j k q hjk h1 h2 => by omega)
     by_cases c1 : j < A.length
     ·rw [List.getElem?_append_left c1] at hj
      exact .inr ⟨j, jt, .inl ⟨c1, rfl⟩, by rw [List.getElem?_append_left c1]; exact hj, aX.refl⟩
     ·rw [List.getElem?_append_right (by omega)] at hj
      by_cases c2 : j = A.length
      ·subst c2
       simp at hj
       subst hj
       refine .inr ⟨A.length + L.length, x, .inr (.inl ⟨rfl, rfl⟩), ?_, aX.refl⟩
       rw [List.getElem?_append_right (by omega)]
       have : A.length + L.length - A.length = L.length := by omega
       rw [this]; simp
      ·have e9 : j - A.length = (j - A.length - 1) + 1 := by omega
       rw [e9, List.cons_append, List.getElem?_cons_succ] at hj
       by_cases c3 : j ≤ A.length + L.length
       ·rw [List.getElem?_append_left (by omega)] at hj
        refine .inr ⟨j - 1, jt, .inr (.inr (.inl ⟨by omega, c3, by omega⟩)), ?_, aX.refl⟩
        rw [List.getElem?_append_right (by omega), List.append_assoc, List.getElem?_append_left (by omega)]
        rw [show j - 1 - A.length = j - A.length - 1 by omega]; exact hj
       ·rw [List.getElem?_append_right (by omega)] at hj
        refine .inr ⟨j, jt, .inr (.inr (.inr ⟨by omega, rfl⟩)), ?_, aX.refl⟩
        rw [List.getElem?_append_right (by omega), List.getElem?_append_right (by simp; omega)]
        have : j - A.length - (L ++ [x]).length = j - A.length - 1 - L.length := by simp; omega
        rw [this]; exact hj
   exact mv L A B h1
  have := hadd (items ρ' [] R) (items ρ [] (aP (fD ids) st.G)) (items ρ [] (aP (fun r => !(fD ids r)) st.G ++ fr.H) ++ Φ) (fun it hit => by
   obtain ⟨r, hr, rfl⟩ := List.mem_map.1 hit
   exact l.rp r hr) hs2
  simpa using this
 ·exact Kv (al.dh hle l1) (al.dh hle l2) l.lw hq
/-! coming backT -/
def yc (G H : List Row) (look : Nat → Option AV) (fix : Nat → FxA) : List (Bool × Nat × Pt) → List Nat
 | [] => []
 | x :: l => (match (ifS x.1 ((fix x.2.1).map (·.1)) (look x.2.1)) with
  | some v => nN G H x.2.2 v
  | none => []) ++ yc G H look fix l
def w7 (F : al) (vs : List (Bool × Nat × Pt)) : al → Bool
 | [] => true
 | x :: E => (wA x.1 vs || jQ (aG F x.1)) && w7 F vs E
def uB (en : En) (tm : Tm) (E : al) (G : List Row) : List Row := frz (yc G en.fr.H (ni E en.fr.F) en.fix tm.vs) G
def gm (en : En) (tm : Tm) (E : al) (G : List Row) : Option (Tup (ek tm.vs)) :=
 match mtV (uB en tm E G) en.fr.H (ni E en.fr.F) en.fix tm.vs [] with
 | some mr => ifS (ph (mr.S.map fun x => bL (uB en tm E G) en.fr.H x.2) && ltT (uB en tm E G).length (mr.S.map fun x => bL (uB en tm E G) en.fr.H x.2) && w7 en.fr.F tm.vs E) (tup _ mr.D) none
 | none => none
def rowsOf (R : List (Bool × Row)) : List Row := R.map (·.2)
def bp (en : En) (tm : Tm) (s : Tup (ek tm.vs)) (h : HT) : StB := match c8 (fun n => en.c + n) en.fix tm.vs 0 (unt _ s) with
 | ⟨E, R, k, _⟩ => ⟨en.c + k, E, rowsOf R, h⟩
def dO (en : En) (tm : Tm) (s : Tup (ek tm.vs)) (h : HT) : StB := match c8 (fun n => en.c + n) en.fix tm.vs 0 (unt _ s) with
 | ⟨E, R, k, _⟩ => ⟨en.c + k, E ++ en.E, rowsOf R ++ en.G, h⟩
def pf (en : En) (st : StB) : StB := { st with E := st.E ++ en.E, G := st.G ++ en.G }
theorem Sat.Bh {w : World} {A C : Ctx} : ∀ {B : Ctx}, Sat (A ++ (B ++ C)) w → Sat (A ++ C) w
 | [], h => h
 | _x :: B, h => Sat.Bh (B := B) (Sat.uy h)
theorem zQ {nm : Nat → Nat} {fix : Nat → FxA} {t : Nat} : {l : List (Bool × Nat × Pt)} → {n : Nat} → {D : List Dyn} → wA t l = true → aG (c8 nm fix l n D).E t ≠ none
 | [], n, D, h => by cases h
 | (b, t', p) :: l, n, D, h => by
  unfold c8
  dsimp only
  generalize fill nm p (ifS b (fix t') none) none n D = L
  obtain ⟨v, R, k, DD, XX⟩ := L
  dsimp only
  generalize hg : c8 nm fix l k DD = L2
  obtain ⟨E2, R2, k2, DD2⟩ := L2
  dsimp only
  have ih : wA t l = true → aG E2 t ≠ none := fun h' => by
   have := zQ (nm := nm) (fix := fix) (n := k) (D := DD) h'
   rw [hg] at this; exact this
  simp only [wA, Bool.or_eq_true, Bool.and_eq_true] at h
  cases b
  ·show aG ((t', none, v) :: E2) t ≠ none
   cases hb : Nat.beq t' t
   ·rw [cI hb]
    rcases h with ⟨_, h⟩ | h
    ·rw [hb] at h; cases h
    ·exact ih h
   ·rw [ej hb]; simp
  ·show aG E2 t ≠ none
   rcases h with ⟨h, _⟩ | h
   ·cases h
   ·exact ih h
theorem BT {F : al} {vs : List (Bool × Nat × Pt)} {t : Nat} : {E : al} → {x : GK × AV} → w7 F vs E = true → aG E t = some x → wA t vs = true ∨ aG F t = none
 | [], x, _, h => by cases h
 | (t', g, v) :: E, x, hb, h => by
  simp only [w7, Bool.and_eq_true, Bool.or_eq_true] at hb
  cases hq : Nat.beq t' t
  ·rw [cI hq] at h; exact BT hb.2 h
  ·have e := Nat.eq_of_beq_eq_true hq
   subst e
   rcases hb.1 with h1 | h1
   ·exact .inl h1
   ·cases hF : aG F t' with
    | none => exact .inr rfl
    | some y => rw [hF] at h1; cases h1
section
variable {en : En} {tm : Tm} {Φ : Ctx} {w : World} {ρ : Nms}
theorem jb {E : al} {G : List Row} {s : Tup (ek tm.vs)} (lF : al.low en.c en.fr.F = true) (lH : aS en.c en.fr.H = true) (fx : ∀ t q, en.fix t = some q → q.1.low en.c = true ∧ AV.aY en.c q.2 = true)
  (hs : Sat (items ρ [] G ++ (items ρ [] en.fr.H ++ Φ)) w) (h : gm en tm E G = some s) :
  ∃ ρ' E' R k D, c8 (fun n => en.c + n) en.fix tm.vs 0 (unt _ s) = ⟨E', R, k, D⟩ ∧ aw en.c ρ ρ' ∧ fE (ai ρ' [] E' en.fr.F) (ai ρ [] E en.fr.F) ∧ Sat (items ρ' [] (rowsOf R) ++ (items ρ' [] en.fr.H ++ Φ)) w := by
 unfold gm at h
 have hs0 := iS (ids := yc G en.fr.H (ni E en.fr.F) en.fix tm.vs) hs
 change Sat (items ρ [] (uB en tm E G) ++ _) w at hs0
 generalize uB en tm E G = G' at h hs0
 split at h
 ·rename_i mr hm
  obtain ⟨h1, h2⟩ := ar h
  simp only [Bool.and_eq_true] at h1
  obtain ⟨⟨h3, h4⟩, h5⟩ := h1
  obtain ⟨N, I, s1, n1, a1⟩ := xH hs0 tm.vs [] mr [] hm .nil
  rw [← qV _ h2] at s1
  obtain ⟨p1, _⟩ := xD hs0 a1
  obtain ⟨q1, _⟩ := oq hs0 p1 (oh h3)
  rw [rz h4] at q1
  have q2 := q1.Bh
  -- names
  have hag : aw en.c ρ (fun i => ifS (Nat.blt i en.c) (ρ i) ((N[i - en.c]?).getD nm0)) := fun j hj => by
   have : Nat.blt j en.c = true := by simpa using hj
   simp only [this]
  have hnm : lU (fun i => ifS (Nat.blt i en.c) (ρ i) ((N[i - en.c]?).getD nm0)) (fun n => en.c + n) 0 N := fun i a ha => by
   have : Nat.blt (en.c + i) en.c = false := by
    cases hb : Nat.blt (en.c + i) en.c
    ·rfl
    ·simp only [Nat.blt_eq] at hb; omega
   simp only [this, show en.c + i - en.c = i by omega, ha, Option.getD_some]
   exact ⟨trivial, trivial, trivial, fun _ => trivial⟩
  generalize (fun i => ifS (Nat.blt i en.c) (ρ i) ((N[i - en.c]?).getD nm0)) = ρ' at hag hnm
  have e1 : (fun i => ie ρ (en.fix i)) = fun i => ie ρ' (en.fix i) := by
   funext i
   cases hq : en.fix i with
   | none => rfl
   | some q =>
    obtain ⟨k1, k2⟩ := fx i q hq
    show some (q.1.val ρ, AV.ae ρ q.2) = some (q.1.val ρ', AV.ae ρ' q.2)
    rw [AV.gE hag _ k1, AV.aZ hag _ k2]
  rw [e1] at s1
  obtain ⟨b1, b2, b3, b4⟩ := wC (T := []) (nm := fun n => en.c + n) tm.vs [] (unt _ s) I (bZ ρ mr.X) N s1 hnm (Nat.zero_le _) []
  simp only [List.append_nil, List.length_nil] at b1 b2 b3 b4
  generalize hF : c8 (fun n => en.c + n) en.fix tm.vs 0 (unt _ s) = L at b1 b2 b3 b4
  obtain ⟨E', R, k, D⟩ := L
  refine ⟨ρ', E', R, k, D, rfl, hag, fun t p hp => ?_, ?_⟩
  ·rw [fc] at hp
   cases hk : aG E' t with
   | some x =>
    have hk2 : look (al.env ρ' [] E') t = some (Tbl.get [] x.1, x.2.val ρ') := by rw [ku, hk]; rfl
    obtain ⟨c1, c2⟩ := b1 t _ hk2
    have e2 : cC E' en.fr.F t = some x := by unfold cC; rw [hk]
    rw [e2] at hp
    simp only [Option.map_some, Option.some.injEq] at hp
    subst hp
    simp only at c1 c2
    cases hpl : ni E en.fr.F t with
    | none => rw [hpl] at c2; cases c2
    | some v =>
     rw [hpl] at c2
     simp only [Option.map_some, Option.some.injEq] at c2
     rw [qu hpl, c1, c2]
   | none =>
    have e2 : cC E' en.fr.F t = aG en.fr.F t := by unfold cC; rw [hk]
    rw [e2] at hp
    cases hFt : aG en.fr.F t with
    | none => rw [hFt] at hp; cases hp
    | some y =>
     rw [hFt] at hp
     simp only [Option.map_some, Option.some.injEq] at hp
     have hE : aG E t = none := by
      cases hE : aG E t with
      | none => rfl
      | some z =>
       rcases BT h5 hE with h6 | h6
       ·have := zQ (nm := fun n => en.c + n) (fix := en.fix) (n := 0) (D := unt _ s) h6
        rw [hF] at this
        exact (this hk).elim
       ·rw [hFt] at h6; cases h6
     rw [fc]
     unfold cC
     rw [hE, hFt, ← hp]
     simp only [Option.map_some]
     rw [AV.gE hag _ (rA lF hFt)]
  ·have q3 := Sat.leL (A := []) (B := ca I) (C := items ρ [] en.fr.H ++ Φ) q2 b4.rw
   rw [aH hag lH]
   exact q3
 ·cases h
end
end Go.Proofs.YtpnogcmollnjeaaGreatDoor
namespace Go.Proofs.YtpnogcmollnjeaaGreatDoor
open Go.Lib
def O3 (P : Program) (o : Oper) : Bool := match o.op with
 | .store .. | .alloc _ | .box .. | .buildSlice .. | .makeSlice .. | .makeMap .. | .mapUpdate .. | .insert .. | .range .. | .next .. | .defer _ | .panic _ => true
 | .convert s d _ => isStr P s && !(isStr P d)
 | .call ⟨.builtin b, _, _⟩ => (match b with
  | .len | .cap | .min | .max | .unsafeSliceData => false
  | _ => true)
 | .call _ => true
 | _ => false
def FG (q : Bool) (m : Nat) : Nat → List (Nat × Bool) → Option Nat
 | _, [] => none
 | k, x :: l => ifS ( yP x.2 (!q) && !(Nat.testBit m k) && vU x.1 m ) ( some k ) <| FG q m (k + 1) l
def zC (l : List (Nat × Bool)) : Nat → Nat → OT
 | 0, _ => .nil
 | n + 1, m => match FG true m 0 l with
  | some k => .q k m (zC l n (bit m k))
  | none => match FG false m 0 l with
   | none => .nil
   | some k => match FG false m (k + 1) (l.drop (k + 1)) with
    | none => .l k m (zC l n (bit m k))
    | some j => .l2 m k (zC l n (bit m k)) j (zC l n (bit m j))
noncomputable def Lo {R : Type} (X : Cx) (tb : List Ent) (tp : List bK) (KP : AV → StB → Option R) (ops : Array Oper) (fr : Fr) (th : List Nat) (t : OT) (st : StB) (K : Go_ R) : Option R :=
 ifS ( X.P.follows .mixedOrders && Cz ops (ops.toList.map fun o => fI o.after.toList) t ) (
  jW X tb tp KP ops.toList fr t (aP (fun r => !(fD (reach st fr th) r)) st.G) [] [] { st with G := aP (fD (reach st fr th)) st.G } K ) none
def I7 (fr : Fr) (st : StB) : List Nat → List Nat
 | [] => []
 | t :: th => ifS (Nat.ble 20000 t) ((match cC st.E fr.F (t - 20000) with
  | some (_, v) => AV.sls v ++ (match v with
   | .ptr id _ => (match jO (p8 id) st.G with
    | some (_, .box _ _ cs) => ((cs.map (ld st.G fr.H)).map AV.sls).flatten
    | _ => [])
   | _ => [])
  | none => []) ++ I7 fr st th) (I7 fr st th)
def we (fr : Fr) (st : StB) (th : List Nat) : StB := match I7 fr st th with
 | [] => st
 | ids => { st with G := frz ids st.G }
theorem EN {fr : Fr} {st : StB} {th : List Nat} {ρ : Nms} {T : Tbl} {B : Ctx} {w : World} (h : Sat (items ρ T st.G ++ B) w) :
  (we fr st th).c = st.c ∧ (we fr st th).E = st.E ∧ Sat (items ρ T (we fr st th).G ++ B) w := by
 unfold we
 split
 ·exact ⟨rfl, rfl, h⟩
 ·exact ⟨rfl, rfl, iS h⟩
noncomputable def ss {R : Type} (X : Cx) (tb : List Ent) (tp : List bK) (KP : AV → StB → Option R) (ops : Array Oper) (fr : Fr) (th : List Nat) (st : StB) (K : Go_ R) : Option R :=
 Lo X tb tp KP ops fr th (zC (ops.toList.map fun o => (fI o.after.toList, O3 X.P o)) ops.toList.length 0) (we fr st th) K
abbrev brk {R : Type} (i : Nat) (K : XE → StB → Option R) : XE → StB → Option R
 | .ext j, st => ifS ( Nat.beq j i ) ( K .nrm st ) ( K (.ext j) st )
 | e, st => K e st
abbrev thn {R : Type} (K1 : StB → Option R) (K : XE → StB → Option R) : XE → StB → Option R
 | .nrm, st => K1 st
 | e, st => K e st
abbrev cnd {R : Type} (b : Bool) (d1 d2 : HT → Option R) (h : HT) : Option R := match h with
 | .c p q => cond b (d1 p) (d2 q)
 | h => cond b (d1 h) (d2 h)
def Cw (fr : Fr) (st : StB) : StB := match st.h with
 | .r (30000 :: th) h => we fr { st with h := h } th
 | _ => st
theorem LU {fr : Fr} {st : StB} {ρ : Nms} {T : Tbl} {B : Ctx} {w : World} (h : Sat (items ρ T st.G ++ B) w) :
  (Cw fr st).c = st.c ∧ (Cw fr st).E = st.E ∧ Sat (items ρ T (Cw fr st).G ++ B) w := by
 unfold Cw
 split
 ·rename_i th h' _
  exact EN (st := { st with h := h' }) h
 ·exact ⟨rfl, rfl, h⟩
noncomputable def den {R : Type} (X : Cx) (tb : List Ent) (tp : List bK) : Code → Fr → (XE → StB → Option R) → StB → Option R
 | .skip, _, K, st => K .nrm st
 | .label _, _, K, st => K .nrm st
 | .exit i, _, K, st => K (.ext i) st
 | .goto l, _, K, st => K (.gto l) st
 | .ret, _, K, st => K .ret st
 | .block i c, fr, K, st => den X tb tp c fr (brk i K) (Cw fr st)
 | .cond c x y, fr, K, st => match opA [] st.E fr.F none c with
  | some (.bool b) => cnd b (fun h => den X tb tp x fr K { st with h := h }) (fun h => den X tb tp y fr K { st with h := h }) st.h
  | _ => none
 | .seq x y, fr, K, st => match st.h with
  | .j tm p q => ifS (st.low fr) (
   ab (fun s : Tup (ek tm.vs) => den X tb tp y fr K (dO (enter fr tm (bh x) st) tm s q)) fun k =>
   den X tb tp x (enter fr tm (bh x) st).fr (thn (fun st' => match gm (enter fr tm (bh x) st) tm st'.E st'.G with
     | some s => k s
     | none => none) (fun e st' => K e (pf (enter fr tm (bh x) st) st'))) ⟨(enter fr tm (bh x) st).c, (enter fr tm (bh x) st).Et, (enter fr tm (bh x) st).Gt, p⟩ ) none
  | .s h => den X tb tp x fr (thn (den X tb tp y fr K) K) { st with h := h }
  | _ => den X tb tp x fr (thn (den X tb tp y fr K) K) st
 | .loop c, fr, K, st => match st.h with
  | .l tm p => ifS (st.low fr) (
   match gm (enter fr tm (bh c) st) tm (enter fr tm (bh c) st).Et (enter fr tm (bh c) st).Gt with
   | some s => an (fun again s => den X tb tp c (enter fr tm (bh c) st).fr (thn (fun st' => match gm (enter fr tm (bh c) st) tm st'.E st'.G with
      | some s => again s
      | none => none) (fun e st' => K e (pf (enter fr tm (bh c) st) st'))) (bp (enter fr tm (bh c) st) tm s p)) au s
   | none => none ) none
  | _ => none
 | .region _ ops false, fr, K, st => oY X tb tp (fun v st => K (.panE v) st) ops.toList fr ops.toList [] st (K .nrm)
 | .region _ ops true, fr, K, st => match st.h with
  | .r th h => ss X tb tp (fun v st => K (.pan v) st) ops fr th { st with h := h } (K .nrm)
  | _ => ss X tb tp (fun v st => K (.pan v) st) ops fr [] st (K .nrm)
 | _, _, _, _ => none
def XE.ex : XE → Exit
 | .nrm => .normal
 | .ret => .ret
 | .ext i => .exit i
 | .gto l => .goto l
 | .pan _ => .goto 0
 | .panE _ => .goto 0
def AtX (Q : aI) (e : XE) (ρ : Nms) (n : Nat) (D : List Deferred) (E : Env) (w : World) : Prop := match e with
 | .pan v => AtP Q (pan (v.val ρ)) D w
 | .panE v => At Q (.panic (pan (v.val ρ))) n D E w
 | e => At Q e.ex n D E w
def gJ {R : Type} (Q : aI) (D : List Deferred) (fr : Fr) (Φ : Ctx) (c0 : Nat) (ρ0 : Nms) (r : R) (K : XE → StB → Option R) : Prop :=
 ∀ e st ρ w, aw c0 ρ0 ρ → c0 ≤ st.c → K e st = some r → Sat (items ρ [] st.G ++ (items ρ [] fr.H ++ Φ)) w → AtX Q e ρ fr.n D (ai ρ [] st.E fr.F) w
theorem gJ.less {R : Type} {Q : aI} {D : List Deferred} {fr : Fr} {Φ : Ctx} {c0 c1 : Nat} {ρ0 ρ1 : Nms} {r : R} {K : XE → StB → Option R} (h : gJ Q D fr Φ c0 ρ0 r K) (ha : aw c0 ρ0 ρ1) (hc : c0 ≤ c1) : gJ Q D fr Φ c1 ρ1 r K :=
 fun e st ρ w h1 h2 h3 h4 => h e st ρ w (ha.trans h1 hc) (Nat.le_trans hc h2) h3 h4
section
variable {P : Program} {ρ : Option Nat} {Q : aI} {n : Nat} {D : List Deferred} {E : Env} {w : World}
theorem CG {σ γ τ : Type} {F : (σ → Option τ) → σ → Option τ} {r : τ} (J : σ → γ → World → Prop) (Es : σ → γ → Env) {body : Code}
  {N : Nat} {s0 : σ} (hm : an F N s0 = some r) (g0 : γ) (h0 : J s0 g0 w) (hE : fE (Es s0 g0) E)
  (round : ∀ again s g w, F again s = some r → J s g w → WC P ρ body (Exit.then (nR again r J Es n D) Q) n D (Es s g) w) :
  WC P ρ (.loop body) Q n D E w := fun a hf hd =>
 ra (fun m => nR (an F m) r J Es n D) N ⟨s0, g0, hm, h0, hf.iR hE, hd⟩ fun m a w ⟨s, g, hs, hJ, hF, hD⟩ => by
  obtain ⟨m', rfl, hs'⟩ := nc hs
  exact wpIn_mono (round (an F m') s g w hs' hJ a hF hD) fun e a w h => by
   cases e <;> first | exact h | exact ⟨m', Nat.lt_succ_self _, h⟩
theorem Ay {σ γ τ : Type} {again : σ → Option τ} {r : τ} {J : σ → γ → World → Prop} {Es : σ → γ → Env}
  (s : σ) (g : γ) (hm : again s = some r) (hJ : J s g w) (hs : fE (Es s g) E) : At (Exit.then (nR again r J Es n D) Q) .normal n D E w :=
 fun _a hf hd => ⟨s, g, hm, hJ, hf.iR hs, hd⟩
theorem Kg {γ : Type} {J : γ → World → Prop} {Es : γ → Env} (g : γ) (hJ : J g w) (hs : fE (Es g) E) : At (Exit.then (wF J Es n D) Q) .normal n D E w :=
 fun _a hf hd => ⟨g, hJ, hf.iR hs, hd⟩
theorem fz {K : Act → World → Prop} {e : XE} {ρ : Nms} (hne : e ≠ .nrm) (h : AtX Q e ρ n D E w) : AtX (Exit.then K Q) e ρ n D E w := by
 cases e <;> first | exact (hne rfl).elim | exact h
end
section
variable {X : Cx} {tb : List Ent} {tp : List bK} {σ : Option Nat} {D : List Deferred} {R : Type} {r : R} {Φ : Ctx}
theorem wy {Q : aI} {fr : Fr} {c0 i : Nat} {ρ0 : Nms} {K : XE → StB → Option R} (h : gJ Q D fr Φ c0 ρ0 r K) : gJ (Exit.inBlock i Q) D fr Φ c0 ρ0 r (brk i K) := fun e st ρ w h1 h2 h3 h4 => by
 cases e with
 | nrm => exact A0 (h .nrm st ρ w h1 h2 h3 h4)
 | ret => exact Gn (h .ret st ρ w h1 h2 h3 h4)
 | gto l => exact DY (h (.gto l) st ρ w h1 h2 h3 h4)
 | pan v => exact MI (h (.pan v) st ρ w h1 h2 h3 h4)
 | panE v => exact CH (h (.panE v) st ρ w h1 h2 h3 h4)
 | ext j =>
  unfold brk at h3
  rcases cm h3 with ⟨h5, h6⟩ | ⟨h5, h6⟩
  ·have := Nat.eq_of_beq_eq_true h5
   subst this
   exact DU (h .nrm st ρ w h1 h2 h6 h4)
  ·exact Bn h5 (h (.ext j) st ρ w h1 h2 h6 h4)
theorem jA {K1 : StB → Option R} {K : XE → StB → Option R} {e : XE} {st : StB} (hne : e ≠ .nrm) : thn K1 K e st = K e st := by
 cases e <;> first | exact (hne rfl).elim | rfl
theorem kM {Q : aI} {fr : Fr} {c0 : Nat} {ρ0 ρ1 : Nms} {en : En} {K : XE → StB → Option R} (h : gJ Q D fr Φ c0 ρ0 r K) (ag : aw c0 ρ0 ρ1) (le : c0 ≤ en.c) (ff : en.fr.F = en.E ++ fr.F) (fh : en.fr.H = en.G ++ fr.H) (fn : en.fr.n = fr.n) :
  ∀ e st ρ w, aw en.c ρ1 ρ → en.c ≤ st.c → K e (pf en st) = some r → Sat (items ρ [] st.G ++ (items ρ [] en.fr.H ++ Φ)) w → AtX Q e ρ en.fr.n D (ai ρ [] st.E en.fr.F) w := fun e st ρ w h1 h2 h3 h4 => by
 have := h e (pf en st) ρ w (ag.trans h1 le) (Nat.le_trans le h2) h3 (by
  show Sat (items ρ [] (st.G ++ en.G) ++ _) w
  rw [fh] at h4
  rw [aF, List.append_assoc]
  rw [aF, List.append_assoc] at h4
  exact h4)
 rw [fn, ff]
 have e1 : ai ρ [] st.E (en.E ++ fr.F) = ai ρ [] (pf en st).E fr.F := by
  show al.env ρ [] st.E ++ al.env ρ [] (en.E ++ fr.F) = al.env ρ [] (st.E ++ en.E) ++ al.env ρ [] fr.F
  rw [iJ, iJ, List.append_assoc]
 rw [e1]; exact this
theorem MW {Q : aI} {fr : Fr} {st : StB} {ρ : Nms} {w : World} {K : XE → StB → Option R} (hΓ : ∀ it ∈ X.Γ, it ∈ Φ) (htb : ∀ e ∈ tb, e.Ok X.P X.Γ) (htp : ∀ e ∈ tp, e.Ok X.P X.Γ) {id : Nat} {ops : Array Oper} (hs : Sat (items ρ [] st.G ++ (items ρ [] fr.H ++ Φ)) w)
  (h : oY X tb tp (fun v st => K (.panE v) st) ops.toList fr ops.toList [] st (K .nrm) = some r) (hK : gJ Q D fr Φ st.c ρ r K) : WC X.P σ (.region id ops false) Q fr.n D (ai ρ [] st.E fr.F) w := by
 obtain ⟨l⟩ := ops
 exact sS (Ft hΓ htb htp (fun x h => by cases h) (fun x h => by cases h) ⟨fun x _ => rfl, fun x _ => rfl⟩ hs h (fun st' ρ' w' a1 a2 a3 a4 => hK .nrm st' ρ' w' a1 a2 a3 a4) (fun v st' ρ' w' a1 a2 a3 a4 => hK (.panE v) st' ρ' w' a1 a2 a3 a4))
theorem wE {Q : aI} {fr : Fr} {st : StB} {ρ : Nms} {w : World} {K : XE → StB → Option R} (hΓ : ∀ it ∈ X.Γ, it ∈ Φ) (htb : ∀ e ∈ tb, e.Ok X.P X.Γ) (htp : ∀ e ∈ tp, e.Ok X.P X.Γ) {id : Nat} {ops : Array Oper} {th : List Nat} (hs : Sat (items ρ [] st.G ++ (items ρ [] fr.H ++ Φ)) w)
  (h : ss X tb tp (fun v st => K (.pan v) st) ops fr th st (K .nrm) = some r) (hK : gJ Q D fr Φ st.c ρ r K) : WC X.P σ (.region id ops true) Q fr.n D (ai ρ [] st.E fr.F) w := by
 obtain ⟨l⟩ := ops
 unfold ss at h
 generalize zC _ _ _ = t at h
 obtain ⟨z1, z2, hs⟩ := EN (fr := fr) (th := th) hs
 rw [← z1] at hK
 rw [← z2]
 generalize we fr st th = st at h hs hK
 unfold Lo at h
 obtain ⟨h1, h2⟩ := ar h
 simp only [Bool.and_eq_true] at h1
 refine xf _ t h1.1 h1.2 (fun w1 hE => ?_)
 have hs1 := mu (A := []) (p := fD (reach st fr th)) (hs.ext hE)
 exact Mk (st := { st with G := aP (fD (reach st fr th)) st.G }) hΓ htb htp (fun x h => by cases h) (fun x h => by cases h) ⟨fun x _ => rfl, fun x _ => rfl⟩ (fun x h => by cases h) hs1 (fun p h => by cases h) h2 (fun st' ρ' w' a1 a2 a3 a4 => hK .nrm st' ρ' w' a1 a2 a3 a4) (fun v st' ρ' w' a1 a2 a3 a4 => hK (.pan v) st' ρ' w' a1 a2 a3 a4)
theorem vX {b : Bool} {d1 d2 : HT → Option R} {h : HT} (hh : cnd b d1 d2 h = some r) : ∃ p q, (b = true → d1 p = some r) ∧ (b = false → d2 q = some r) := by
 unfold cnd at hh
 split at hh
 ·rename_i p q
  rcases oF hh with ⟨h1, h2⟩ | ⟨h1, h2⟩
  ·exact ⟨p, q, fun _ => h2, fun e => by rw [h1] at e; cases e⟩
  ·exact ⟨p, q, (fun e => by rw [h1] at e; cases e), fun _ => h2⟩
 ·rcases oF hh with ⟨h1, h2⟩ | ⟨h1, h2⟩
  ·exact ⟨_, h, fun _ => h2, fun e => by rw [h1] at e; cases e⟩
  ·exact ⟨h, _, (fun e => by rw [h1] at e; cases e), fun _ => h2⟩
theorem eD (hΓ : ∀ it ∈ X.Γ, it ∈ Φ) (htb : ∀ e ∈ tb, e.Ok X.P X.Γ) (htp : ∀ e ∈ tp, e.Ok X.P X.Γ) : ∀ (c : Code) {Q : aI} {fr : Fr} {K : XE → StB → Option R} {st : StB} {ρ : Nms} {w : World}, Sat (items ρ [] st.G ++ (items ρ [] fr.H ++ Φ)) w →
  den X tb tp c fr K st = some r → gJ Q D fr Φ st.c ρ r K → WC X.P σ c Q fr.n D (ai ρ [] st.E fr.F) w
 | .skip, Q, fr, K, st, ρ, w, hs, h, hK => Ew (hK .nrm st ρ w .refl (Nat.le_refl _) (by unfold den at h; exact h) hs)
 | .label _, Q, fr, K, st, ρ, w, hs, h, hK => Cd (hK .nrm st ρ w .refl (Nat.le_refl _) (by unfold den at h; exact h) hs)
 | .exit i, Q, fr, K, st, ρ, w, hs, h, hK => y6 (hK (.ext i) st ρ w .refl (Nat.le_refl _) (by unfold den at h; exact h) hs)
 | .goto l, Q, fr, K, st, ρ, w, hs, h, hK => Ez (hK (.gto l) st ρ w .refl (Nat.le_refl _) (by unfold den at h; exact h) hs)
 | .ret, Q, fr, K, st, ρ, w, hs, h, hK => Bp (hK .ret st ρ w .refl (Nat.le_refl _) (by unfold den at h; exact h) hs)
 | .block i c, Q, fr, K, st, ρ, w, hs, h, hK => by
  obtain ⟨z1, z2, z3⟩ := LU (fr := fr) hs
  unfold den at h
  rw [← z2]
  rw [← z1] at hK
  exact wa (eD hΓ htb htp c z3 h (wy hK))
 | .cond c x y, Q, fr, K, st, ρ, w, hs, h, hK => by
  unfold den at h
  split at h
  ·rename_i b hb
   have hc := bd (ρ := ρ) hb
   simp only [AV.val] at hc
   obtain ⟨p, q, h1, h2⟩ := vX h
   exact yw hc (fun hb => eD hΓ htb htp x (st := { st with h := p }) hs (h1 hb) hK) (fun hb => eD hΓ htb htp y (st := { st with h := q }) hs (h2 hb) hK)
  ·cases h
 | .seq x y, Q, fr, K, st, ρ, w, hs, h, hK => by
  have plain : ∀ h', den X tb tp x fr (thn (den X tb tp y fr K) K) { st with h := h' } = some r → WC X.P σ (.seq x y) Q fr.n D (ai ρ [] st.E fr.F) w := fun h' hd => by
   refine oP (eD hΓ htb htp x (st := { st with h := h' }) hs hd (fun e st' ρ' w' a1 a2 a3 a4 => ?_))
   by_cases he : e = .nrm
   ·subst he
    exact kE (eD hΓ htb htp y a4 a3 (hK.less a1 a2))
   ·rw [jA he] at a3
    exact fz he (hK e st' ρ' w' a1 a2 a3 a4)
  unfold den at h
  split at h
  ·rename_i tm p q hh
   obtain ⟨hl, h2⟩ := ar h
   obtain ⟨ρ1, en⟩ := mo (tm := tm) (m := bh x) hl hs
   generalize enter fr tm (bh x) st = E0 at h2 en
   unfold ab at h2
   refine GM (γ := Tup (ek tm.vs) × Nms) (fun g w' => den X tb tp y fr K (dO E0 tm g.1 q) = some r ∧ aw E0.c ρ1 g.2 ∧ Sat (items g.2 [] (dO E0 tm g.1 q).G ++ (items g.2 [] fr.H ++ Φ)) w') (fun g => ai g.2 [] (dO E0 tm g.1 q).E fr.F) (fun g w' hg => ?_) ?_
   ·obtain ⟨g1, g2, g3⟩ := hg
    refine eD hΓ htb htp y g3 g1 (hK.less (en.ag.trans g2 en.le) ?_)
    have : E0.c ≤ (dO E0 tm g.1 q).c := by
     unfold dO
     generalize c8 (fun n => E0.c + n) E0.fix tm.vs 0 (unt _ g.1) = L
     obtain ⟨a, b, c, d⟩ := L
     exact Nat.le_add_right _ _
    exact Nat.le_trans en.le this
   ·have hx := eD hΓ htb htp x (fr := E0.fr) (st := ⟨E0.c, E0.Et, E0.Gt, p⟩) (ρ := ρ1) (Q := Exit.then (wF (fun (g : Tup (ek tm.vs) × Nms) w' => den X tb tp y fr K (dO E0 tm g.1 q) = some r ∧ aw E0.c ρ1 g.2 ∧ Sat (items g.2 [] (dO E0 tm g.1 q).G ++ (items g.2 [] fr.H ++ Φ)) w') (fun g => ai g.2 [] (dO E0 tm g.1 q).E fr.F) fr.n D) Q) en.sat h2 (fun e st' ρ' w' a1 a2 a3 a4 => ?_)
    ·rw [en.fn] at hx
     exact hx.iR _ en.sub
    ·by_cases he : e = .nrm
     ·subst he
      have a3' : (match gm E0 tm st'.E st'.G with | some s => den X tb tp y fr K (dO E0 tm s q) | none => none) = some r := a3
      split at a3'
      ·rename_i s hb
       obtain ⟨ρ2, E', R', k, DD, b1, b2, b3, b4⟩ := jb en.lF en.lH en.fx a4 hb
       have eJ : dO E0 tm s q = ⟨E0.c + k, E' ++ E0.E, rowsOf R' ++ E0.G, q⟩ := by unfold dO; rw [b1]
       rw [en.fn]
       refine Kg (s, ρ2) ⟨a3', a1.trans b2 (Nat.le_refl _), ?_⟩ ?_
       ·rw [eJ]
        show Sat (items ρ2 [] (rowsOf R' ++ E0.G) ++ _) w'
        rw [aF, List.append_assoc]
        rw [en.fh, aF, List.append_assoc] at b4
        exact b4
       ·rw [eJ]
        show fE (al.env ρ2 [] (E' ++ E0.E) ++ _) _
        rw [en.ff] at b3
        have e2 : ai ρ2 [] E' (E0.E ++ fr.F) = al.env ρ2 [] (E' ++ E0.E) ++ al.env ρ2 [] fr.F := by
         show al.env ρ2 [] E' ++ al.env ρ2 [] (E0.E ++ fr.F) = _
         rw [iJ, iJ, List.append_assoc]
        rw [← e2, en.ff]; exact b3
      ·cases a3'
     ·rw [jA he] at a3
      have := kM hK en.ag en.le en.ff en.fh en.fn e st' ρ' w' a1 a2 a3 a4
      exact fz he this
  ·rename_i h' hh; exact plain h' h
  ·exact plain st.h h
 | .loop c, Q, fr, K, st, ρ, w, hs, h, hK => by
  unfold den at h
  split at h
  ·rename_i tm p hh
   obtain ⟨hl, h2⟩ := ar h
   obtain ⟨ρ1, en⟩ := mo (tm := tm) (m := bh c) hl hs
   generalize enter fr tm (bh c) st = E0 at h2 en
   split at h2
   ·rename_i s0 hb0
    obtain ⟨ρ2, E', R', k, DD, b1, b2, b3, b4⟩ := jb en.lF en.lH en.fx en.sat hb0
    have eL : ∀ s E' R' k DD, c8 (fun n => E0.c + n) E0.fix tm.vs 0 (unt _ s) = ⟨E', R', k, DD⟩ → bp E0 tm s p = ⟨E0.c + k, E', rowsOf R', p⟩ := fun s E' R' k DD hb => by unfold bp; rw [hb]
    refine CG (γ := Nms) (fun s g w' => aw E0.c ρ1 g ∧ Sat (items g [] (bp E0 tm s p).G ++ (items g [] E0.fr.H ++ Φ)) w') (fun s g => ai g [] (bp E0 tm s p).E E0.fr.F) h2 ρ2 ⟨b2, ?_⟩ ?_ (fun again s g w' hag hJ => ?_)
    ·rw [eL _ _ _ _ _ b1]; exact b4
    ·rw [eL _ _ _ _ _ b1]; exact b3.trans en.sub
    ·have hx := eD hΓ htb htp c (fr := E0.fr) (st := bp E0 tm s p) (ρ := g) (Q := Exit.then (nR again r (fun s g w' => aw E0.c ρ1 g ∧ Sat (items g [] (bp E0 tm s p).G ++ (items g [] E0.fr.H ++ Φ)) w') (fun s g => ai g [] (bp E0 tm s p).E E0.fr.F) fr.n D) Q) hJ.2 hag (fun e st' ρ' w2 a1 a2 a3 a4 => ?_)
     ·rw [en.fn] at hx; exact hx
     ·have hc : E0.c ≤ (bp E0 tm s p).c := by
       unfold bp
       generalize c8 (fun n => E0.c + n) E0.fix tm.vs 0 (unt _ s) = L
       obtain ⟨a, b, c, d⟩ := L
       exact Nat.le_add_right _ _
      by_cases he : e = .nrm
      ·subst he
       have a3' : (match gm E0 tm st'.E st'.G with | some s => again s | none => none) = some r := a3
       split at a3'
       ·rename_i s' hb
        obtain ⟨ρ3, E2, R2, k2, DD2, d1, d2, d3, d4⟩ := jb en.lF en.lH en.fx a4 hb
        rw [en.fn]
        refine Ay s' ρ3 a3' ⟨(hJ.1.trans (a1.less hc) (Nat.le_refl _)).trans d2 (Nat.le_refl _), ?_⟩ ?_
        ·rw [eL _ _ _ _ _ d1]; exact d4
        ·rw [eL _ _ _ _ _ d1]; exact d3
       ·cases a3'
      ·rw [jA he] at a3
       have := kM hK en.ag en.le en.ff en.fh en.fn e st' ρ' w2 (hJ.1.trans (a1.less hc) (Nat.le_refl _)) (Nat.le_trans hc a2) a3 a4
       exact fz he this
   ·cases h2
  ·cases h
 | .region id ops false, Q, fr, K, st, ρ, w, hs, h, hK => MW hΓ htb htp hs (by unfold den at h; exact h) hK
 | .region id ops true, Q, fr, K, st, ρ, w, hs, h, hK => by
  unfold den at h
  split at h
  ·rename_i th h' hh
   exact wE (st := { st with h := h' }) hΓ htb htp hs h hK
  ·exact wE hΓ htb htp hs h hK
 | .scope _, Q, fr, K, st, ρ, w, hs, h, hK => by unfold den at h; cases h
 | .rangeFunc _ _ _ _, Q, fr, K, st, ρ, w, hs, h, hK => by unfold den at h; cases h
end
end Go.Proofs.YtpnogcmollnjeaaGreatDoor
namespace Go.Proofs.YtpnogcmollnjeaaGreatDoor
open Go.Lib
def iI (l : Nat) : Code → Bool
 | .label j => j == l
 | .seq x y => iI l x || iI l y
 | _ => false
theorem Ma {l : Nat} : (c : Code) → iI l c = false → findLabel c l = none := fun c => by
 induction c with
 | label j =>
  intro h
  unfold iI at h
  unfold findLabel
  rw [h]; rfl
 | seq x y ihx ihy =>
  intro h
  simp only [iI, Bool.or_eq_false_iff] at h
  simp only [findLabel, ihx h.1, ihy h.2]
 | _ => intro _; rfl
theorem Bx {l : Nat} : (c : Code) → iI l c = true → ∃ r, findLabel c l = some r := fun c => by
 induction c with
 | label j =>
  intro h
  unfold iI at h
  unfold findLabel
  rw [h]; exact ⟨_, rfl⟩
 | seq x y ihx ihy =>
  intro h
  simp only [iI, Bool.or_eq_true] at h
  unfold findLabel
  cases hx : findLabel x l with
  | some r => exact ⟨_, rfl⟩
  | none =>
   rcases h with h | h
   ·obtain ⟨r, hr⟩ := ihx h; rw [hx] at hr; cases hr
   ·exact ihy h
 | _ => intro h; cases h
def lab (P : Program) (ρ : Option Nat) (l : Nat) : Code → aI → aI
 | .seq x y, Q => ifS (iI l x) (lab P ρ l x (Exit.then (y.wpIn (FW ρ) 0 P Q) Q)) (lab P ρ l y Q)
 | _, Q => Q
theorem JK {P : Program} {ρ : Option Nat} {l : Nat} : (c : Code) → {r : Code} → {Q : aI} → {a : Act} → {w : World} → findLabel c l = some r → lab P ρ l c Q .normal a w → r.wpIn (FW ρ) 0 P Q a w := fun c => by
 induction c with
 | label j =>
  intro r Q a w hr h
  unfold findLabel at hr
  split at hr
  ·cases hr; exact wpIn_skip h
  ·cases hr
 | seq x y ihx ihy =>
  intro r Q a w hr h
  unfold lab at h
  unfold findLabel at hr
  cases hx : iI l x
  ·rw [hx] at h
   rw [Ma x hx] at hr
   exact ihy hr h
  ·rw [hx] at h
   obtain ⟨r', hr'⟩ := Bx x hx
   rw [hr'] at hr
   cases hr
   exact wpIn_seq (ihx hr' h)
 | _ => intro r Q a w hr h; cases hr
def oC (l : Nat) : Code → Nat
 | .seq x y => ifS (iI l x) (Nat.lor (oC l x) (bh y)) (oC l y)
 | _ => 0
def nA (st : StB) : StB := match st.h with
 | .s h => { st with h := h }
 | _ => st
abbrev gtk {R : Type} (l : Nat) (A : StB → Option R) (K : XE → StB → Option R) : XE → StB → Option R
 | .gto j, st => ifS (Nat.beq j l) (A st) none
 | e, st => K e st
noncomputable def uG {R : Type} (X : Cx) (tb : List Ent) (tp : List bK) (l : Nat) (fr : Fr) : Code → (XE → StB → Option R) → StB → Option R
 | .seq x y, K, st => ifS (iI l x) (uG X tb tp l fr x (thn (den X tb tp y fr K) K) st) (uG X tb tp l fr y K st)
 | .label _, K, st => K .nrm st
 | _, _, _ => none
noncomputable def uq {R : Type} (X : Cx) (tb : List Ent) (tp : List bK) (l : Nat) (fr : Fr) (K : XE → StB → Option R) (KL : StB → Option R) : Code → StB → Option R
 | .seq x y, st => ifS (iI l x) (uq X tb tp l fr K KL x (nA st)) (den X tb tp x fr (thn (fun st => uq X tb tp l fr K KL y st) K) (nA st))
 | .label _, st => KL st
 | _, _ => none
noncomputable def Ka {R : Type} (X : Cx) (tb : List Ent) (tp : List bK) (c : Code) (fr : Fr) (K : XE → StB → Option R) (st : StB) : Option R := match st.h with
 | .n l (.j tm p q) => ifS (iI l c) (
   uq X tb tp l fr (gtk l (fun _ => none) K) (fun st1 => ifS (st1.low fr) (
     match gm (enter fr tm (oC l c) st1) tm (enter fr tm (oC l c) st1).Et (enter fr tm (oC l c) st1).Gt with
     | some s => an (fun again s => uG X tb tp l (enter fr tm (oC l c) st1).fr c (gtk l (fun st' => match gm (enter fr tm (oC l c) st1) tm st'.E st'.G with
       | some s => again s
       | none => none) (fun e st' => K e (pf (enter fr tm (oC l c) st1) st'))) (bp (enter fr tm (oC l c) st1) tm s q)) au s
     | none => none) none) c { st with h := p }) none
 | _ => none
section
variable {X : Cx} {tb : List Ent} {tp : List bK} {σ : Option Nat} {D : List Deferred} {R : Type} {r : R} {Φ : Ctx}
theorem ER {Q : aI} {l n : Nat} {E : Env} {w : World} {e : XE} {ρ : Nms} {J : Act → World → Prop} (hne : ∀ j, e ≠ .gto j) (h : AtX Q e ρ n D E w) : AtX (Exit.jump l J Q) e ρ n D E w := by
 cases e <;> first | exact ((hne _) rfl).elim | exact h
theorem IH {l : Nat} (hΓ : ∀ it ∈ X.Γ, it ∈ Φ) (htb : ∀ e ∈ tb, e.Ok X.P X.Γ) (htp : ∀ e ∈ tp, e.Ok X.P X.Γ) : ∀ (c : Code) {Q : aI} {fr : Fr} {K : XE → StB → Option R} {st : StB} {ρ : Nms} {w : World}, Sat (items ρ [] st.G ++ (items ρ [] fr.H ++ Φ)) w →
  uG X tb tp l fr c K st = some r → gJ Q D fr Φ st.c ρ r K → ∀ a, Fits fr.n (ai ρ [] st.E fr.F) a → a.defers = D → lab X.P σ l c Q .normal a w := fun c => by
 induction c with
 | label j => intro Q fr K st ρ w hs h hK a hf hd; exact hK .nrm st ρ w .refl (Nat.le_refl _) h hs a hf hd
 | seq x y ihx ihy =>
  intro Q fr K st ρ w hs h hK a hf hd
  unfold uG at h
  unfold lab
  cases hx : iI l x
  ·rw [hx] at h
   exact ihy hs h hK a hf hd
  ·rw [hx] at h
   refine ihx (Q := Exit.then (y.wpIn (FW σ) 0 X.P Q) Q) hs h (fun e st' ρ' w' a1 a2 a3 a4 => ?_) a hf hd
   by_cases he : e = .nrm
   ·subst he
    exact kE (eD hΓ htb htp y a4 a3 (hK.less a1 a2))
   ·rw [jA he] at a3
    exact fz he (hK e st' ρ' w' a1 a2 a3 a4)
 | _ => intro Q fr K st ρ w hs h; cases h
theorem E5 {st : StB} : (nA st).c = st.c ∧ (nA st).E = st.E ∧ (nA st).G = st.G := by
 unfold nA
 split <;> exact ⟨rfl, rfl, rfl⟩
theorem HR {l : Nat} (hΓ : ∀ it ∈ X.Γ, it ∈ Φ) (htb : ∀ e ∈ tb, e.Ok X.P X.Γ) (htp : ∀ e ∈ tp, e.Ok X.P X.Γ) {Q0 : aI} {fr : Fr} {K : XE → StB → Option R} {KL : StB → Option R} {c0 : Nat} {ρ0 : Nms} (hK : gJ Q0 D fr Φ c0 ρ0 r K) : ∀ (c : Code) {Q : aI} {st : StB} {ρ : Nms} {w : World},
  (∀ e (E : Env) (ρ : Nms) w, e ≠ .nrm → AtX Q0 e ρ fr.n D E w → AtX Q e ρ fr.n D E w) →
  (∀ st1 ρ1 w1, aw c0 ρ0 ρ1 → c0 ≤ st1.c → KL st1 = some r → Sat (items ρ1 [] st1.G ++ (items ρ1 [] fr.H ++ Φ)) w1 → ∀ a, Fits fr.n (ai ρ1 [] st1.E fr.F) a → a.defers = D → lab X.P σ l c Q .normal a w1) →
  iI l c = true → aw c0 ρ0 ρ → c0 ≤ st.c → Sat (items ρ [] st.G ++ (items ρ [] fr.H ++ Φ)) w →
  uq X tb tp l fr K KL c st = some r → WC X.P σ c Q fr.n D (ai ρ [] st.E fr.F) w := fun c => by
 induction c with
 | label j => intro Q st ρ w hQ hL _ ha hc hs h; exact Cd (fun a hf hd => hL st ρ w ha hc h hs a hf hd)
 | seq x y ihx ihy =>
  intro Q st ρ w hQ hL hh ha hc hs h
  obtain ⟨p1, p2, p3⟩ := E5 (st := st)
  unfold uq at h
  cases hx : iI l x
  ·rw [hx] at h
   simp only [iI, hx, Bool.false_or] at hh
   refine oP ?_
   have := eD (σ := σ) (D := D) hΓ htb htp x (fr := fr) (st := nA st) (ρ := ρ) (w := w) (Q := Exit.then (y.wpIn (FW σ) 0 X.P Q) Q) (by rw [p3]; exact hs) h (fun e st' ρ' w' a1 a2 a3 a4 => ?_)
   ·rw [p2] at this; exact this
   ·rw [p1] at a1 a2
    by_cases he : e = .nrm
    ·subst he
     refine kE (ihy hQ (fun st1 ρ1 w1 b1 b2 b3 b4 a hf hd => ?_) hh (ha.trans a1 hc) (Nat.le_trans hc a2) a4 a3)
     have := hL st1 ρ1 w1 b1 b2 b3 b4 a hf hd
     unfold lab at this
     rw [hx] at this
     exact this
    ·rw [jA he] at a3
     exact fz he (hQ _ _ _ _ he (hK e st' ρ' w' (ha.trans a1 hc) (Nat.le_trans hc a2) a3 a4))
  ·rw [hx] at h
   refine oP ?_
   have := ihx (Q := Exit.then (y.wpIn (FW σ) 0 X.P Q) Q) (st := nA st) (ρ := ρ) (w := w) (fun e E ρ w hne he => fz hne (hQ e E ρ w hne he)) (fun st1 ρ1 w1 b1 b2 b3 b4 a hf hd => ?_) hx ha (by rw [p1]; exact hc) (by rw [p3]; exact hs) h
   ·rw [p2] at this; exact this
   ·have := hL st1 ρ1 w1 b1 b2 b3 b4 a hf hd
    unfold lab at this
    rw [hx] at this
    exact this
 | _ => intro Q st ρ w hQ hL hh; cases hh
theorem M6 {c : Code} {Q : aI} {fr : Fr} {K : XE → StB → Option R} {st : StB} {ρ : Nms} {w : World} (hΓ : ∀ it ∈ X.Γ, it ∈ Φ) (htb : ∀ e ∈ tb, e.Ok X.P X.Γ) (htp : ∀ e ∈ tp, e.Ok X.P X.Γ) (hs : Sat (items ρ [] st.G ++ (items ρ [] fr.H ++ Φ)) w)
  (h : Ka X tb tp c fr K st = some r) (hK : gJ Q D fr Φ st.c ρ r K) : WC X.P σ (.scope c) Q fr.n D (ai ρ [] st.E fr.F) w := by
 unfold Ka at h
 split at h
 ·rename_i l tm p q hh
  obtain ⟨hlab, h0⟩ := ar h
  obtain ⟨rest, hrest⟩ := Bx c hlab
  -- what holds at the label
  let F : En → (Tup (ek tm.vs) → Option R) → Tup (ek tm.vs) → Option R := fun E0 again s => uG X tb tp l E0.fr c (gtk l (fun st' => match gm E0 tm st'.E st'.G with
     | some s => again s
     | none => none) (fun e st' => K e (pf E0 st'))) (bp E0 tm s q)
  let I : Nat → Act → World → Prop := fun m a w => ∃ (E0 : En) (ρ1 : Nms), (E0.fr.F = E0.E ++ fr.F ∧ E0.fr.H = E0.G ++ fr.H ∧ E0.fr.n = fr.n ∧ al.low E0.c E0.fr.F = true ∧ aS E0.c E0.fr.H = true ∧ (∀ t q, E0.fix t = some q → q.1.low E0.c = true ∧ AV.aY E0.c q.2 = true)) ∧ aw st.c ρ ρ1 ∧ st.c ≤ E0.c ∧
   nR (an (F E0) m) r (fun s (g : Nms) w' => aw E0.c ρ1 g ∧ Sat (items g [] (bp E0 tm s q).G ++ (items g [] E0.fr.H ++ Φ)) w') (fun s g => ai g [] (bp E0 tm s q).E E0.fr.F) fr.n D a w
  have at_lab : ∀ m a w, I m a w → lab X.P σ l c (Exit.jump l (fun a' w' => ∃ m' < m, I m' a' w') Q) .normal a w := by
   rintro m a w ⟨E0, ρ1, ⟨ff, fh, fn, lF, lH, fx⟩, hag, hle, s, g, hm, hJ, hF, hD⟩
   obtain ⟨m', rfl, hm'⟩ := nc hm
   have eL : ∀ s E' R' k DD, c8 (fun n => E0.c + n) E0.fix tm.vs 0 (unt _ s) = ⟨E', R', k, DD⟩ → bp E0 tm s q = ⟨E0.c + k, E', rowsOf R', q⟩ := fun s E' R' k DD hb => by unfold bp; rw [hb]
   have hc : E0.c ≤ (bp E0 tm s q).c := by
    unfold bp
    generalize c8 (fun n => E0.c + n) E0.fix tm.vs 0 (unt _ s) = L
    obtain ⟨a, b, c, d⟩ := L
    exact Nat.le_add_right _ _
   refine IH (σ := σ) (D := D) hΓ htb htp c (fr := E0.fr) (st := bp E0 tm s q) (ρ := g) (Q := Exit.jump l (fun a' w' => ∃ m'' < m' + 1, I m'' a' w') Q) hJ.2 hm' (fun e st' ρ' w2 a1 a2 a3 a4 => ?_) a (by rw [fn]; exact hF) hD
   by_cases he : ∃ j, e = .gto j
   ·obtain ⟨j, rfl⟩ := he
    unfold gtk at a3
    obtain ⟨hj, a5⟩ := ar a3
    have := Nat.eq_of_beq_eq_true hj
    subst this
    dsimp only at a5
    split at a5
    ·rename_i s' hb
     obtain ⟨ρ3, E2, R2, k2, DD2, d1, d2, d3, d4⟩ := jb lF lH fx a4 hb
     refine fun a2' hf2 hd2 => ⟨rfl, m', Nat.lt_succ_self _, E0, ρ1, ⟨ff, fh, fn, lF, lH, fx⟩, hag, hle, s', ρ3, a5, ⟨(hJ.1.trans (a1.less hc) (Nat.le_refl _)).trans d2 (Nat.le_refl _), ?_⟩, ?_, hd2⟩
     ·rw [eL _ _ _ _ _ d1]; exact d4
     ·rw [fn] at hf2
      show Fits fr.n (ai ρ3 [] (bp E0 tm s' q).E E0.fr.F) a2'
      rw [eL _ _ _ _ _ d1]
      exact hf2.iR d3
    ·cases a5
   ·have hne : ∀ j, e ≠ .gto j := fun j hj => he ⟨j, hj⟩
    have a3' : K e (pf E0 st') = some r := by
     cases e <;> first | exact ((hne _) rfl).elim | exact a3
    exact ER hne (kM hK hag hle ff fh fn e st' ρ' w2 (hJ.1.trans (a1.less hc) (Nat.le_refl _)) (Nat.le_trans hc a2) a3' a4)
  refine fun a hf hd => pO l I hrest ?_ (fun m a w hI => JK c hrest (at_lab m a w hI))
  -- the way to the label
  have hK' : gJ (Exit.jump l (fun a w => ∃ m, I m a w) Q) D fr Φ st.c ρ r (gtk l (fun _ => none) K) := fun e st1 ρ' w' a1 a2 a3 a4 => by
   by_cases he : ∃ j, e = .gto j
   ·obtain ⟨j, rfl⟩ := he
    unfold gtk at a3
    obtain ⟨_, a5⟩ := ar a3
    cases a5
   ·have hne : ∀ j, e ≠ .gto j := fun j hj => he ⟨j, hj⟩
    have a3' : K e st1 = some r := by
     cases e <;> first | exact ((hne _) rfl).elim | exact a3
    exact ER hne (hK e st1 ρ' w' a1 a2 a3' a4)
  refine HR (σ := σ) hΓ htb htp hK' c (Q := Exit.jump l (fun a w => ∃ m, I m a w) Q) (st := { st with h := p }) (ρ := ρ) (fun _ _ _ _ _ h => h) (fun st1 ρ' w' a1 a2 a3 a4 a' hf' hd' => ?_) hlab .refl (Nat.le_refl _) hs h0 a hf hd
  obtain ⟨hl, h2⟩ := ar a3
  obtain ⟨ρ1, en⟩ := mo (tm := tm) (m := oC l c) hl a4
  generalize enter fr tm (oC l c) st1 = E0 at h2 en
  split at h2
  ·rename_i s0 hb0
   obtain ⟨ρ2, E', R', k, DD, b1, b2, b3, b4⟩ := jb en.lF en.lH en.fx en.sat hb0
   have eL : bp E0 tm s0 q = ⟨E0.c + k, E', rowsOf R', q⟩ := by unfold bp; rw [b1]
   have key : I au a' w' := by
    refine ⟨E0, ρ1, ⟨en.ff, en.fh, en.fn, en.lF, en.lH, en.fx⟩, a1.trans en.ag a2, Nat.le_trans a2 en.le, s0, ρ2, h2, ⟨b2, ?_⟩, ?_, hd'⟩
    ·rw [eL]; exact b4
    ·show Fits fr.n (ai ρ2 [] (bp E0 tm s0 q).E E0.fr.F) a'
     rw [eL]; exact hf'.iR (b3.trans en.sub)
   have mono : ∀ (c : Code) (Q1 Q2 : aI), (∀ e a w, Q1 e a w → Q2 e a w) → ∀ a w, lab X.P σ l c Q1 .normal a w → lab X.P σ l c Q2 .normal a w := fun c => by
    induction c with
    | seq x y ihx ihy =>
     intro Q1 Q2 hq a w h
     unfold lab at h ⊢
     cases hx : iI l x
     ·rw [hx] at h; exact ihy Q1 Q2 hq a w h
     ·rw [hx] at h
      refine ihx _ _ (fun e a w he => ?_) a w h
      cases e with
      | normal => exact wpIn_mono he hq
      | _ => exact hq _ _ _ he
    | _ => intro Q1 Q2 hq a w h; exact hq _ _ _ h
   exact mono c _ _ (fun e a w he => by
    cases e <;> first | exact he | exact ⟨he.1, let ⟨m', _, hI⟩ := he.2; ⟨m', hI⟩⟩) a' w' (at_lab au a' w' key)
  ·cases h2
 ·cases h
end
end Go.Proofs.YtpnogcmollnjeaaGreatDoor
namespace Go.Proofs.YtpnogcmollnjeaaGreatDoor
open Go.Lib
def jY : Nat → List AV → al
 | _, [] => []
 | k, v :: vs => (k, none, v) :: jY (k + 1) vs
theorem sw {ρ : Nms} : {vs : List AV} → {k : Nat} → al.env ρ [] (jY k vs) = iota k (AV.ae ρ vs)
 | [], _ => rfl
 | v :: vs, k => by simp only [jY, al.env, AV.ae, iota, Tbl.get_none, sw]
structure Clo where
 f : FuncId
 fn : Func
def Clo.Ok (P : Program) (c : Clo) : Prop := Enters P c.f ∧ P.funcs[c.f]? = some c.fn
def xF : List Clo → Nat → Option Clo
 | [], _ => none
 | c :: l, f => ifS (Nat.beq c.f f) (some c) (xF l f)
theorem vK {P : Program} {f : Nat} {c : Clo} : {l : List Clo} → (∀ c ∈ l, c.Ok P) → xF l f = some c → c.Ok P ∧ c.f = f
 | [], _, h => by cases h
 | c' :: l, hl, h => by
  unfold xF at h
  rcases cm h with ⟨h1, h2⟩ | ⟨_, h2⟩
  ·cases h2; exact ⟨hl _ (List.mem_cons_self ..), Nat.eq_of_beq_eq_true h1⟩
  ·exact vK (fun c hc => hl c (List.mem_cons_of_mem _ hc)) h2
structure YC (R : Type) where
 id : Nat
 rnd : List AV → StB → (Bool → Nat → StB → Option R) → Option R
def YOk {R : Type} (X : Cx) (y : YC R) (r : R) (ly : Nat) (ρ0 : Nms) (H0 : List Row) (Φ : Nat → Ctx) : Prop :=
 ∀ (vs : List AV) (st : StB) (ρ : Nms) (w : World) (H1 : List Row) (KY : Bool → Nat → StB → Option R), y.id < st.c → aw (y.id + 1) ρ0 ρ → AV.aY st.c vs = true → aS st.c st.G = true → aS st.c (H1 ++ H0) = true →
  Sat (items ρ [] st.G ++ (items ρ [] (H1 ++ H0) ++ Φ 0)) w → y.rnd vs st KY = some r →
  Yld X.P ly (AV.ae ρ vs) w (fun v w' => ∃ b p' st' ρ', v = .bool b ∧ aw st.c ρ ρ' ∧ st.c ≤ st'.c ∧ KY b p' st' = some r ∧ Sat (items ρ' [] st'.G ++ (items ρ' [] (H1 ++ H0) ++ Φ p')) w')
def noG : List Row → Bool
 | [] => true
 | r :: G => jQ r.gd && noG G
theorem Iw : {G : List Row} → noG G = true → ∀ r, r ∈ G → r.gd = none
 | [], _, _, h => by cases h
 | x :: G, h, r, hr => by
  simp only [noG, Bool.and_eq_true] at h
  rcases List.mem_cons.1 hr with rfl | hr
  ·cases hg : r.gd with
   | none => rfl
   | some k => rw [hg] at h; cases h.1
  ·exact Iw h.2 r hr
theorem yr {ρ : Nms} {T T' : Tbl} {G : List Row} (h : ∀ r, r ∈ G → r.gd = none) : items ρ T G = items ρ T' G :=
 List.map_congr_left fun r hr => Row.oy (by rw [h r hr]; simp)
theorem Ck {ρ : Nms} {T : Tbl} {fr : Fr} (hf : FT T fr) : items ρ T fr.H = items ρ [] fr.H :=
 List.map_congr_left fun r hr => Row.oy (hf.2 r hr)
def GG {R : Type} (y : YC R) (T : Tbl) (fr : Fr) (st : StB) (o : Oper) (p : Nat) (K : Nat → Go_ R) : Option (Option R) := match o.guard, o.op, o.dst with
 | none, .call c, some d => (match c.callee with
  | .value fo => (match opA T st.E fr.F none fo with
   | some (.nv i) => some (ifS (Nat.beq i y.id && Nat.beq p 0 && Nat.blt d fr.n && jr (some d) T && st.low fr && noG st.G) (match nz T st.E fr.F none c.args.toList with
     | some vs => ifS (AV.aY st.c vs) (y.rnd vs st (fun b p' st' => K p' { st' with E := bH (some d) none (.bool b) st.E, G := gI st'.G, h := st.h })) none
     | none => none) none)
   | _ => none)
  | _ => none)
 | _, _, _ => none
inductive UG where
 | bq | skip | run | no
def unK (ops : List Oper) (fr : Fr) (kn : List Nat) (E : al) (o : Oper) : UG := match o.guard with
 | none => .bq
 | some k => ifS (kB k.1 kn) (match (ops[k.1]?).bind (·.dst) with
  | some rj => ifS (Nat.blt rj fr.n) (match cC E fr.F rj with
   | some (none, .bool b) => (match mG k.2 b with
    | true => .run
    | false => .skip)
   | _ => .no) .no
  | none => .no) .bq
def knT (ops : List Oper) (t : Tmp) : List Nat → Bool
 | [] => false
 | j :: kn => (match (ops[j]?).bind (·.dst) with
  | some d => Nat.beq d t
  | none => false) || knT ops t kn
def zu (ops : List Oper) (fr : Fr) (kn : List Nat) (E : al) (o : Oper) : Oper := match o.guard, o.op with
 | none, .pick (.tmp t) x y => ifS (knT ops t kn) (match cC E fr.F t with
  | some (none, .bool v) => (match v with
   | true => { o with op := .move x }
   | false => { o with op := .move y })
  | _ => o) o
 | _, _ => o
def unO (ops : List Oper) (fr : Fr) (kn : List Nat) (E : al) (o : Oper) : UG → Oper
 | .run => { o with guard := none }
 | _ => zu ops fr kn E o
noncomputable def hU {R : Type} (X : Cx) (tb : List Ent) (y : YC R) (ops : List Oper) (fr : Fr) : List Oper → List Nat → Tbl → StB → Nat → (Nat → Go_ R) → Option R
 | [], _, T, st, p, K => ifS (tU T fr st) (K p (mM T st)) none
 | o :: l, kn, T, st, p, K => match unK ops fr kn st.E o with
  | .no => none
  | .skip => (match o.guard with
   | some k => ifS (ub fr.n o.dst && jr o.dst T && !(vJ k T)) (hU X tb y ops fr l kn T { st with E := bH o.dst (some k) (.raw undef) st.E } p K) none
   | none => none)
  | u => match GG y T fr st (unO ops fr kn st.E o u) p (fun p' st' => hU X tb y ops fr l kn T st' p' K) with
   | some q => q
   | none => stepG ops T fr st (unO ops fr kn st.E o u) fun T g => opD X tb T fr st g (unO ops fr kn st.E o u) fun st' => match st'.h, o.dst with
    | .n j (.c ha hb), some d => ifS (Nat.beq j (ops.length - l.length - 1) && jr (some d) T) (match aG st'.E d with
      | some (none, .bool b) => cond b (hU X tb y ops fr l (j :: kn) T { st' with E := (d, none, .bool true) :: st'.E, h := ha } p K) (hU X tb y ops fr l (j :: kn) T { st' with E := (d, none, .bool false) :: st'.E, h := hb } p K)
      | _ => none) (hU X tb y ops fr l kn T st' p K)
    | _, _ => hU X tb y ops fr l kn T st' p K
section
variable {R : Type} {r : R} {X : Cx} {tb : List Ent} {y : YC R} {σ : Option Nat} {Q : aI} {D : List Deferred} {ops : List Oper} {fr : Fr} {Φ : Nat → Ctx} {ly : Nat} {H0 H1 : List Row} {ρ0 : Nms}
theorem NC {P : Program} {n : Nat} {E : Env} {w : World} {ops : Array Oper} {rest : List Oper} {o : Oper} {j : Nat} {pol : Bool} {rj : Tmp} {bj : Bool} (hgd : o.guard = some (j, pol)) (hj : (ops[j]?).bind (·.dst) = some rj) (hl : look E rj = some (true, .bool bj)) (hn : Nat.blt rj n = true) (hb : mG pol bj = true)
  (h : WL P σ ops Q n D ({ o with guard := none } :: rest) E w) : WL P σ ops Q n D (o :: rest) E w := fun a hf hD => by
 have h1 := h a hf hD
 have hw := ng (ops := ops) hgd hj hl hf hn
 rw [← uA, hb] at hw
 unfold wpListIn at h1 ⊢
 rw [hw]
 have e : Region.wanted { o with guard := none } (yielded ops a.tmps) = true := by simp [Region.wanted]
 rw [e] at h1
 simp only [Bool.true_and, if_true] at h1 ⊢
 exact h1
theorem NM {P : Program} {n : Nat} {E : Env} {w : World} {ops : Array Oper} {rest : List Oper} {o : Oper} {j : Nat} {pol : Bool} {rj : Tmp} {bj : Bool} (hgd : o.guard = some (j, pol)) (hj : (ops[j]?).bind (·.dst) = some rj) (hl : look E rj = some (true, .bool bj)) (hn : Nat.blt rj n = true) (hb : mG pol bj = false) (hd : ub n o.dst = true)
  (h : WL P σ ops Q n D rest (jN o.dst false undef E) w) : WL P σ ops Q n D (o :: rest) E w := fun a hf hD =>
 wpListIn_step fun K hK => by
  rw [ng hgd hj hl hf hn, ← uA, hb]
  simp only [Bool.true_and, Bool.false_eq_true, if_false]
  have := hf.jN (g := false) (v := undef) hd
  exact ⟨fun _ _ => trivial, hK _ _ (h _ this (by rw [fQ]; exact hD))⟩
def IsY (y : YC R) (ρ0 : Nms) (ρ : Nms) (c : Nat) : Prop := y.id < c ∧ aw (y.id + 1) ρ0 ρ
theorem IsY.less {ρ0 ρ ρ' : Nms} {c c' : Nat} (h : IsY y ρ0 ρ c) (ha : aw c ρ ρ') (hc : c ≤ c') : IsY y ρ0 ρ' c' := ⟨Nat.lt_of_lt_of_le h.1 hc, h.2.trans ha h.1⟩
theorem O9 {T : Tbl} {st : StB} {o : Oper} {p : Nat} {K : Nat → Go_ R} {l : List Oper} {ρ : Nms} {w : World} {q : Option R} (hyv : (ρ0 y.id).x = .func (.yield ly) #[] #[]) (hY : YOk X y r ly ρ0 H0 Φ) (hH : fr.H = H1 ++ H0) (hI : IsY y ρ0 ρ st.c) (h1 : dB T st.E fr.F) (hf : FT T fr)
  (hs : Sat (items ρ T st.G ++ (items ρ T fr.H ++ Φ p)) w) (h : GG y T fr st o p K = some q) (hq : q = some r)
  (next : ∀ p' st' ρ' w', dB T st'.E fr.F → aw st.c ρ ρ' → st.c ≤ st'.c → K p' st' = some r → Sat (items ρ' T st'.G ++ (items ρ' T fr.H ++ Φ p')) w' → WL X.P σ ops.toArray Q fr.n D l (ai ρ' T st'.E fr.F) w') :
  WL X.P σ ops.toArray Q fr.n D (o :: l) (ai ρ T st.E fr.F) w := by
 obtain ⟨dst, op, ty, pos, af, gd⟩ := o
 unfold GG at h
 split at h
 ·rename_i c d hg ho hd
  simp only at hg ho hd
  subst hg ho hd
  split at h
  ·rename_i fo hc
   split at h
   ·rename_i i hfo
    injection h with h
    rw [hq] at h
    obtain ⟨b1, h'⟩ := ar h
    clear h
    simp only [Bool.and_eq_true] at b1
    obtain ⟨⟨⟨⟨⟨c1, c2⟩, c3⟩, c4⟩, c5⟩, c6⟩ := b1
    have e1 := Nat.eq_of_beq_eq_true c1
    have e2 := Nat.eq_of_beq_eq_true c2
    subst e1 e2
    split at h'
    ·rename_i vs hvs
     obtain ⟨b2, h⟩ := ar h'
     obtain ⟨cc, xs, tys⟩ := c
     simp only at hc hvs
     subst hc
     have hfo' := bd (ρ := ρ) hfo
     simp only [AV.val] at hfo'
     rw [hI.2 _ (Nat.lt_succ_self _), hyv] at hfo'
     have hxs := iH (ρ := ρ) hvs
     rw [Tbl.get_none] at hxs
     obtain ⟨_, _, l3, l4⟩ := StB.bJ.1 c5
     have hG := Iw c6
     have hs0 : Sat (items ρ [] st.G ++ (items ρ [] (H1 ++ H0) ++ Φ 0)) w := by
      rw [← hH, ← Ck hf, yr (T' := T) hG]; exact hs
     have hyl := hY vs st ρ w H1 _ hI.1 hI.2 b2 l3 (by rw [← hH]; exact l4) hs0 h
     refine JC (xs := xs.toList) (vs := AV.ae ρ vs) hfo' hxs c3 hyl (fun v w' hv => ?_)
     obtain ⟨b, p', st', ρ', rfl, a1, a2, a3, a4⟩ := hv
     rw [← hH] at a4
     have hE : ai ρ' T st.E fr.F = ai ρ T st.E fr.F := iL c5 a1
     have := next p' { st' with E := bH (some d) none (.bool b) st.E, G := gI st'.G, h := st.h } ρ' w' (h1.out (d := some d) c4 none (.bool b)) a1 a2 a3 (by
      have s1 := nM (A := []) a4
      have e3 : items ρ' T (gI st'.G) = items ρ' [] (gI st'.G) := yr mN
      have s2 : Sat (items ρ' T (gI st'.G) ++ (items ρ' T fr.H ++ Φ p')) w' := by rw [e3, Ck hf]; exact s1
      exact s2)
     rw [mJ, hE] at this
     simpa [jN, AV.val] using this
    ·cases h'
   ·cases h
  ·cases h
 ·cases h
theorem LW {P : Program} {n : Nat} {E : Env} {w : World} {ops : Array Oper} {rest : List Oper} {c x y : Operand} {v : Bool} {dst : Option Tmp} {ty : TypeId} {pos : String} {af : Array Edge} (hc : Opd E true c (.bool v))
  (h : WL P σ ops Q n D (⟨dst, .move (cond v x y), ty, pos, af, none⟩ :: rest) E w) : WL P σ ops Q n D (⟨dst, .pick c x y, ty, pos, af, none⟩ :: rest) E w := fun a hf hD =>
 wpListIn_plain rfl fun K hK => iE rfl (by
  have h1 := h a hf hD
  unfold wpListIn at h1
  have e0 : Region.wanted ⟨dst, .move (cond v x y), ty, pos, af, none⟩ (yielded ops a.tmps) = true := rfl
  rw [if_pos e0] at h1
  have h2 := Oper.wpIn_mono hK h1
  obtain ⟨_, h3⟩ := h2
  rw [show (FW σ).round = σ from rfl, rL rfl] at h3
  have e : (execOp a.eval ⟨dst, .pick c x y, ty, pos, af, none⟩).run P w = (execOp a.eval ⟨dst, .move (cond v x y), ty, pos, af, none⟩).run P w := by
   cases v <;> simp [execOp, hc n a hf rfl, asBool]
  rw [e]
  exact h3)
theorem Jo {kn : List Nat} {E : al} {o : Oper} : (zu ops fr kn E o).dst = o.dst := by
 unfold zu
 split
 ·cases knT ops _ kn
  ·rfl
  ·split
   ·split <;> rfl
   ·rfl
 ·rfl
theorem OZ {kn : List Nat} {E : al} {o : Oper} {ρ : Nms} {T : Tbl} {w : World} {l : List Oper} (h : WL X.P σ ops.toArray Q fr.n D (zu ops fr kn E o :: l) (ai ρ T E fr.F) w) : WL X.P σ ops.toArray Q fr.n D (o :: l) (ai ρ T E fr.F) w := by
 obtain ⟨dst, op, ty, pos, af, gd⟩ := o
 unfold zu at h
 split at h
 ·rename_i t x y hg ho
  simp only at hg ho
  subst hg ho
  cases hk : knT ops t kn
  ·rw [hk] at h; exact h
  ·rw [hk] at h
   split at h
   ·rename_i v hl
    refine LW (v := v) ?_ (by cases v <;> exact h)
    exact Opd.t (by rw [fc, hl]; simp [AV.val])
   ·exact h
 ·exact h
theorem Bv {k : Nat × Bool} : {T : Tbl} → vJ k T = false → T.get (some k) = false
 | [], _ => rfl
 | (k', par, rj, b) :: T, h => by
  simp only [vJ, Bool.or_eq_false_iff] at h
  have h2 : GK.eq (some k') (some k) = false := by
   cases hb : GK.eq (some k') (some k)
   ·rfl
   ·have e := GK.eq_eq hb
    cases e
    rw [GK.E3] at h
    cases h.1
  unfold Tbl.get
  rw [h2]
  exact Bv h.2
theorem Fw (hΓ : ∀ p, ∀ it ∈ X.Γ, it ∈ Φ p) (htb : ∀ e ∈ tb, e.Ok X.P X.Γ) (hyv : (ρ0 y.id).x = .func (.yield ly) #[] #[]) (hY : YOk X y r ly ρ0 H0 Φ) (hH : fr.H = H1 ++ H0) {K : Nat → Go_ R} : ∀ {l : List Oper} {kn : List Nat} {T : Tbl} {st : StB} {p : Nat} {ρ : Nms} {w : World}, IsY y ρ0 ρ st.c → dB T st.E fr.F → iX ops fr.n T → FT T fr → Sat (items ρ T st.G ++ (items ρ T fr.H ++ Φ p)) w →
  hU X tb y ops fr l kn T st p K = some r →
  (∀ p' st' ρ' w', aw st.c ρ ρ' → st.c ≤ st'.c → K p' st' = some r → Sat (items ρ' [] st'.G ++ (items ρ' [] fr.H ++ Φ p')) w' → At Q .normal fr.n D (ai ρ' [] st'.E fr.F) w') →
  WL X.P σ ops.toArray Q fr.n D l (ai ρ T st.E fr.F) w
 | [], kn, T, st, p, ρ, w, hI, h1, h2, hf, hs, h, next => by
  unfold hU at h
  obtain ⟨h3, h4⟩ := ar h
  obtain ⟨k1, k2, k3⟩ := rI h3 hf hs
  exact w5 fun a hfi hd => next p _ ρ w .refl (by rw [k1]; exact Nat.le_refl _) h4 k3 a (hfi.iR k2) hd
 | o :: l, kn, T, st, p, ρ, w, hI, h1, h2, hf, hs, h, next => by
  have rc : ∀ {kn : List Nat} {T' : Tbl} {st' : StB} {p' : Nat} {ρ' : Nms} {w' : World}, aw st.c ρ ρ' → st.c ≤ st'.c → dB T' st'.E fr.F → iX ops fr.n T' → FT T' fr → Sat (items ρ' T' st'.G ++ (items ρ' T' fr.H ++ Φ p')) w' → hU X tb y ops fr l kn T' st' p' K = some r →
    WL X.P σ ops.toArray Q fr.n D l (ai ρ' T' st'.E fr.F) w' := fun {kn T' st' p' ρ' w'} a1 a2 a3 a4 a5 a6 a7 =>
   Fw hΓ htb hyv hY hH (hI.less a1 a2) a3 a4 a5 a6 a7 (fun p2 st2 ρ2 w2 b1 b2 b3 b4 => next p2 st2 ρ2 w2 (a1.trans b1 a2) (Nat.le_trans a2 b2) b3 b4)
  -- the operation itself, guarded or not
  have main : ∀ o' : Oper, o'.dst = o.dst → (match GG y T fr st o' p (fun p' st' => hU X tb y ops fr l kn T st' p' K) with
   | some q => q
   | none => stepG ops T fr st o' fun T g => opD X tb T fr st g o' fun st' => match st'.h, o.dst with
    | .n j (.c ha hb), some d => ifS (Nat.beq j (ops.length - l.length - 1) && jr (some d) T) (match aG st'.E d with
      | some (none, .bool b) => cond b (hU X tb y ops fr l (j :: kn) T { st' with E := (d, none, .bool true) :: st'.E, h := ha } p K) (hU X tb y ops fr l (j :: kn) T { st' with E := (d, none, .bool false) :: st'.E, h := hb } p K)
      | _ => none) (hU X tb y ops fr l kn T st' p K)
    | _, _ => hU X tb y ops fr l kn T st' p K) = some r → WL X.P σ ops.toArray Q fr.n D (o' :: l) (ai ρ T st.E fr.F) w := fun o' ho' h => by
   split at h
   ·rename_i q hq
    exact O9 hyv hY hH hI h1 hf hs hq h (fun p' st' ρ' w' a1 a2 a3 a4 a5 => rc a2 a3 a1 h2 hf a5 a4)
   ·refine CK (K := fun T st' => match st'.h, o.dst with
     | .n j (.c ha hb), some d => ifS (Nat.beq j (ops.length - l.length - 1) && jr (some d) T) (match aG st'.E d with
       | some (none, .bool b) => cond b (hU X tb y ops fr l (j :: kn) T { st' with E := (d, none, .bool true) :: st'.E, h := ha } p K) (hU X tb y ops fr l (j :: kn) T { st' with E := (d, none, .bool false) :: st'.E, h := hb } p K)
       | _ => none) (hU X tb y ops fr l kn T st' p K)
     | _, _ => hU X tb y ops fr l kn T st' p K) h1 h2 rfl (fun _ h => h) hf hs (hΓ p) htb h (fun T' st' ρ' w' a1 a2 a3 a4 a5 a6 a7 a8 => ?_)
    split at a6
    ·rename_i j ha hb d hh hd
     rcases cm a6 with ⟨b1, b2⟩ | ⟨_, b2⟩
     ·simp only [Bool.and_eq_true] at b1
      split at b2
      ·rename_i b hl
       have one : ∀ (v : Bool) (h' : HT), b = v → hU X tb y ops fr l (j :: kn) T' { st' with E := (d, none, .bool v) :: st'.E, h := h' } p K = some r → WL X.P σ ops.toArray Q fr.n D l (ai ρ' T' st'.E fr.F) w' := fun v h' hb hv => by
        have := rc (st' := { st' with E := (d, none, .bool v) :: st'.E, h := h' }) a4 a5 (a1.out (d := some d) b1.2 none (.bool v)) a2 a3 a8 hv
        refine fun a hfi hd' => this a (hfi.iR ?_) hd'
        intro t pp hp
        rw [fc] at hp ⊢
        unfold cC at hp ⊢
        cases hq : Nat.beq d t
        ·rw [cI hq] at hp; exact hp
        ·have := Nat.eq_of_beq_eq_true hq
         subst this
         rw [ej hq] at hp
         rw [hl, hb]; exact hp
       rcases oF b2 with ⟨c1, c2⟩ | ⟨c1, c2⟩
       ·exact one true ha c1 c2
       ·exact one false hb c1 c2
      ·cases b2
     ·exact rc a4 a5 a1 a2 a3 a8 b2
    ·exact rc a4 a5 a1 a2 a3 a8 a6
  unfold hU at h
  -- what is known of its guard
  have kk : ∀ {v : Bool}, (unK ops fr kn st.E o = .run ∧ v = true ∨ unK ops fr kn st.E o = .skip ∧ v = false) → ∃ j pol rj bj, o.guard = some (j, pol) ∧ (ops[j]?).bind (·.dst) = some rj ∧ look (ai ρ T st.E fr.F) rj = some (true, .bool bj) ∧ Nat.blt rj fr.n = true ∧ mG pol bj = v := fun {v} hv => by
   unfold unK at hv
   split at hv
   ·rcases hv with ⟨h, _⟩ | ⟨h, _⟩ <;> cases h
   ·rename_i k hg
    obtain ⟨j, pol⟩ := k
    cases hm : kB j kn
    ·simp only [hm] at hv
     rcases hv with ⟨h, _⟩ | ⟨h, _⟩ <;> cases h
    ·simp only [hm] at hv
     split at hv
     ·rename_i rj hr
      cases hb : Nat.blt rj fr.n
      ·simp only [hb] at hv
       rcases hv with ⟨h, _⟩ | ⟨h, _⟩ <;> cases h
      ·simp only [hb] at hv
       split at hv
       ·rename_i b hl
        refine ⟨j, pol, rj, b, hg, hr, by rw [fc, hl]; simp [AV.val], hb, ?_⟩
        cases hp : mG pol b
        ·simp only [hp] at hv
         rcases hv with ⟨h, _⟩ | ⟨_, h⟩
         ·cases h
         ·exact h.symm
        ·simp only [hp] at hv
         rcases hv with ⟨_, h⟩ | ⟨h, _⟩
         ·exact h.symm
         ·cases h
       ·rcases hv with ⟨h, _⟩ | ⟨h, _⟩ <;> cases h
     ·rcases hv with ⟨h, _⟩ | ⟨h, _⟩ <;> cases h
  cases hu : unK ops fr kn st.E o with
  | no => rw [hu] at h; cases h
  | bq => rw [hu] at h; exact OZ (by exact main (zu ops fr kn st.E o) Jo h)
  | run =>
   rw [hu] at h
   obtain ⟨j, pol, rj, bj, g1, g2, g3, g4, g5⟩ := kk (v := true) (.inl ⟨hu, rfl⟩)
   exact NC g1 (by simpa using g2) g3 g4 g5 (main { o with guard := none } rfl h)
  | skip =>
   rw [hu] at h
   obtain ⟨j, pol, rj, bj, g1, g2, g3, g4, g5⟩ := kk (v := false) (.inr ⟨hu, rfl⟩)
   dsimp only at h
   rw [g1] at h
   obtain ⟨b1, b2⟩ := ar h
   simp only [Bool.and_eq_true] at b1
   refine NM g1 (by simpa using g2) g3 g4 g5 b1.1.1 ?_
   have := rc (st' := { st with E := bH o.dst (some (j, pol)) (.raw undef) st.E }) .refl (Nat.le_refl _) (h1.out b1.1.2 _ _) h2 hf hs b2
   rw [mJ] at this
   have hg : T.get (some (j, pol)) = false := Bv (by simpa using b1.2)
   rw [hg] at this
   exact this
end
noncomputable def fY {R : Type} (X : Cx) (tb : List Ent) (y : YC R) : Code → Fr → (Nat → XE → StB → Option R) → Nat → StB → Option R
 | .skip, _, K, p, st => K p .nrm st
 | .exit i, _, K, p, st => K p (.ext i) st
 | .ret, _, K, p, st => K p .ret st
 | .block i c, fr, K, p, st => fY X tb y c fr (fun p => brk i (K p)) p st
 | .cond c a b, fr, K, p, st => match opA [] st.E fr.F none c with
  | some (.bool v) => cnd v (fun h => fY X tb y a fr K p { st with h := h }) (fun h => fY X tb y b fr K p { st with h := h }) st.h
  | _ => none
 | .seq a b, fr, K, p, st => fY X tb y a fr (fun p => thn (fY X tb y b fr K p) (K p)) p (match st.h with
  | .s h => { st with h := h }
  | _ => st)
 | .loop c, fr, K, p, st => match st.h with
  | .l tm q => ifS (st.low fr) (
   match gm (enter fr tm (bh c) st) tm (enter fr tm (bh c) st).Et (enter fr tm (bh c) st).Gt with
   | some s => an (fun again s => fY X tb y c (enter fr tm (bh c) st).fr (fun p' => thn (fun st' => match gm (enter fr tm (bh c) st) tm st'.E st'.G with
      | some s => ifS (Nat.beq p' p) (again s) none
      | none => none) (fun e st' => K p' e (pf (enter fr tm (bh c) st) st'))) p (bp (enter fr tm (bh c) st) tm s q)) au s
   | none => none ) none
  | _ => none
 | .region _ ops false, fr, K, p, st => hU X tb y ops.toList fr ops.toList [] [] st p (fun p => K p .nrm)
 | .region _ ops true, fr, K, p, st => match st.h with
  | .r th h => ss X tb [] (fun _ _ => none) ops fr th { st with h := h } (K p .nrm)
  | _ => ss X tb [] (fun _ _ => none) ops fr [] st (K p .nrm)
 | _, _, _, _, _ => none
section
variable {R : Type} {r : R} {X : Cx} {tb : List Ent} {y : YC R} {D : List Deferred} {Φ : Nat → Ctx} {ly : Nat} {H0 : List Row} {ρ0 : Nms}
def Bc (Q : aI) (D : List Deferred) (fr : Fr) (Φ : Nat → Ctx) (c0 : Nat) (ρ0 : Nms) (r : R) (K : Nat → XE → StB → Option R) : Prop := ∀ p, gJ Q D fr (Φ p) c0 ρ0 r (K p)
theorem Bc.less {Q : aI} {fr : Fr} {c0 c1 : Nat} {ρ0 ρ1 : Nms} {K : Nat → XE → StB → Option R} (h : Bc Q D fr Φ c0 ρ0 r K) (ha : aw c0 ρ0 ρ1) (hc : c0 ≤ c1) : Bc Q D fr Φ c1 ρ1 r K := fun p => (h p).less ha hc
theorem mh (hΓ : ∀ p, ∀ it ∈ X.Γ, it ∈ Φ p) (htb : ∀ e ∈ tb, e.Ok X.P X.Γ) (hyv : (ρ0 y.id).x = .func (.yield ly) #[] #[]) (hY : YOk X y r ly ρ0 H0 Φ) : ∀ (c : Code) {Q : aI} {fr : Fr} {H1 : List Row} {K : Nat → XE → StB → Option R} {p : Nat} {st : StB} {ρ : Nms} {w : World}, fr.H = H1 ++ H0 → IsY y ρ0 ρ st.c → Sat (items ρ [] st.G ++ (items ρ [] fr.H ++ Φ p)) w →
  fY X tb y c fr K p st = some r → Bc Q D fr Φ st.c ρ r K → WC X.P none c Q fr.n D (ai ρ [] st.E fr.F) w
 | .skip, Q, fr, H1, K, p, st, ρ, w, hH, hI, hs, h, hK => Ew (hK p .nrm st ρ w .refl (Nat.le_refl _) (by unfold fY at h; exact h) hs)
 | .exit i, Q, fr, H1, K, p, st, ρ, w, hH, hI, hs, h, hK => y6 (hK p (.ext i) st ρ w .refl (Nat.le_refl _) (by unfold fY at h; exact h) hs)
 | .ret, Q, fr, H1, K, p, st, ρ, w, hH, hI, hs, h, hK => Bp (hK p .ret st ρ w .refl (Nat.le_refl _) (by unfold fY at h; exact h) hs)
 | .block i c, Q, fr, H1, K, p, st, ρ, w, hH, hI, hs, h, hK => wa (mh hΓ htb hyv hY c hH hI hs (by unfold fY at h; exact h) (fun p => wy (hK p)))
 | .cond c a b, Q, fr, H1, K, p, st, ρ, w, hH, hI, hs, h, hK => by
  unfold fY at h
  split at h
  ·rename_i v hb
   have hc := bd (ρ := ρ) hb
   simp only [AV.val] at hc
   obtain ⟨h1, h2, q1, q2⟩ := vX h
   exact yw hc (fun hv => mh hΓ htb hyv hY a (st := { st with h := h1 }) hH hI hs (q1 hv) hK) (fun hv => mh hΓ htb hyv hY b (st := { st with h := h2 }) hH hI hs (q2 hv) hK)
  ·cases h
 | .seq a b, Q, fr, H1, K, p, st, ρ, w, hH, hI, hs, h, hK => by
  unfold fY at h
  have plain : ∀ h', fY X tb y a fr (fun p => thn (fY X tb y b fr K p) (K p)) p { st with h := h' } = some r → WC X.P none (.seq a b) Q fr.n D (ai ρ [] st.E fr.F) w := fun h' hd => by
   refine oP (mh hΓ htb hyv hY a (st := { st with h := h' }) hH hI hs hd (fun p' e st' ρ' w' a1 a2 a3 a4 => ?_))
   by_cases he : e = .nrm
   ·subst he
    exact kE (mh hΓ htb hyv hY b hH (hI.less a1 a2) a4 a3 (hK.less a1 a2))
   ·rw [jA he] at a3
    exact fz he (hK p' e st' ρ' w' a1 a2 a3 a4)
  split at h
  ·rename_i h' hh; exact plain h' h
  ·exact plain st.h h
 | .loop c, Q, fr, H1, K, p, st, ρ, w, hH, hI, hs, h, hK => by
  unfold fY at h
  split at h
  ·rename_i tm q hh
   obtain ⟨hl, h2⟩ := ar h
   obtain ⟨ρ1, en⟩ := mo (tm := tm) (m := bh c) hl hs
   generalize enter fr tm (bh c) st = E0 at h2 en
   split at h2
   ·rename_i s0 hb0
    obtain ⟨ρ2, E', R', k, DD, b1, b2, b3, b4⟩ := jb en.lF en.lH en.fx en.sat hb0
    have eL : ∀ s E' R' k DD, c8 (fun n => E0.c + n) E0.fix tm.vs 0 (unt _ s) = ⟨E', R', k, DD⟩ → bp E0 tm s q = ⟨E0.c + k, E', rowsOf R', q⟩ := fun s E' R' k DD hb => by unfold bp; rw [hb]
    refine CG (γ := Nms) (fun s g w' => aw E0.c ρ1 g ∧ Sat (items g [] (bp E0 tm s q).G ++ (items g [] E0.fr.H ++ Φ p)) w') (fun s g => ai g [] (bp E0 tm s q).E E0.fr.F) h2 ρ2 ⟨b2, ?_⟩ ?_ (fun again s g w' hag hJ => ?_)
    ·rw [eL _ _ _ _ _ b1]; exact b4
    ·rw [eL _ _ _ _ _ b1]; exact b3.trans en.sub
    ·have hc : E0.c ≤ (bp E0 tm s q).c := by
      unfold bp
      generalize c8 (fun n => E0.c + n) E0.fix tm.vs 0 (unt _ s) = L
      obtain ⟨a, b, c, d⟩ := L
      exact Nat.le_add_right _ _
     have hx := mh hΓ htb hyv hY c (fr := E0.fr) (H1 := E0.G ++ H1) (st := bp E0 tm s q) (ρ := g) (Q := Exit.then (nR again r (fun s g w' => aw E0.c ρ1 g ∧ Sat (items g [] (bp E0 tm s q).G ++ (items g [] E0.fr.H ++ Φ p)) w') (fun s g => ai g [] (bp E0 tm s q).E E0.fr.F) fr.n D) Q)
      (by rw [en.fh, hH, List.append_assoc]) ((hI.less en.ag en.le).less hJ.1 hc) hJ.2 hag (fun p' e st' ρ' w2 a1 a2 a3 a4 => ?_)
     ·rw [en.fn] at hx; exact hx
     ·by_cases he : e = .nrm
      ·subst he
       have a3' : (match gm E0 tm st'.E st'.G with | some s => ifS (Nat.beq p' p) (again s) none | none => none) = some r := a3
       split at a3'
       ·rename_i s' hb
        obtain ⟨hp, a5⟩ := ar a3'
        have := Nat.eq_of_beq_eq_true hp
        subst this
        obtain ⟨ρ3, E2, R2, k2, DD2, d1, d2, d3, d4⟩ := jb en.lF en.lH en.fx a4 hb
        rw [en.fn]
        refine Ay s' ρ3 a5 ⟨(hJ.1.trans (a1.less hc) (Nat.le_refl _)).trans d2 (Nat.le_refl _), ?_⟩ ?_
        ·rw [eL _ _ _ _ _ d1]; exact d4
        ·rw [eL _ _ _ _ _ d1]; exact d3
       ·cases a3'
      ·rw [jA he] at a3
       have := kM (hK p') en.ag en.le en.ff en.fh en.fn e st' ρ' w2 (hJ.1.trans (a1.less hc) (Nat.le_refl _)) (Nat.le_trans hc a2) a3 a4
       exact fz he this
   ·cases h2
  ·cases h
 | .region id ops false, Q, fr, H1, K, p, st, ρ, w, hH, hI, hs, h, hK => by
  unfold fY at h
  obtain ⟨l⟩ := ops
  exact sS (Fw (σ := none) hΓ htb hyv hY hH hI (fun x h => by cases h) (fun x h => by cases h) ⟨fun x _ => rfl, fun x _ => rfl⟩ hs h (fun p' st' ρ' w' a1 a2 a3 a4 => hK p' .nrm st' ρ' w' a1 a2 a3 a4))
 | .region id ops true, Q, fr, H1, K, p, st, ρ, w, hH, hI, hs, h, hK => by
  unfold fY at h
  have key : ∀ th h', ss X tb [] (fun _ _ => none) ops fr th { st with h := h' } (K p .nrm) = some r → WC X.P none (.region id ops true) Q fr.n D (ai ρ [] st.E fr.F) w := fun th h' hd =>
   wE (K := fun e st => match e with
    | .nrm => K p .nrm st
    | _ => none) (st := { st with h := h' }) (hΓ p) htb (fun _ h => by cases h) hs hd (fun e st' ρ' w' a1 a2 a3 a4 => by
     cases e with
     | nrm => exact hK p .nrm st' ρ' w' a1 a2 a3 a4
     | _ => cases a3)
  split at h
  ·exact key _ _ h
  ·exact key [] st.h h
 | .label _, Q, fr, H1, K, p, st, ρ, w, hH, hI, hs, h, hK => by unfold fY at h; cases h
 | .goto _, Q, fr, H1, K, p, st, ρ, w, hH, hI, hs, h, hK => by unfold fY at h; cases h
 | .scope _, Q, fr, H1, K, p, st, ρ, w, hH, hI, hs, h, hK => by unfold fY at h; cases h
 | .rangeFunc _ _ _ _, Q, fr, H1, K, p, st, ρ, w, hH, hI, hs, h, hK => by unfold fY at h; cases h
end
end Go.Proofs.YtpnogcmollnjeaaGreatDoor
namespace Go.Proofs.YtpnogcmollnjeaaGreatDoor
open Go.Lib
theorem Sat.swap {w : World} {C D : Ctx} : ∀ {B A : Ctx}, Sat (A ++ (B ++ (C ++ D))) w → Sat (A ++ (C ++ (B ++ D))) w
 | [], A, h => h
 | x :: B, A, h => by
  have h1 : Sat ((A ++ [x]) ++ (B ++ (C ++ D))) w := by simpa using h
  have h2 : Sat (A ++ x :: (C ++ (B ++ D))) w := by simpa using h1.swap
  simpa using Sat.move h2
theorem Sat.front {w : World} {A B : Ctx} {x : Item} (h : Sat (A ++ x :: B) w) : Sat (x :: (A ++ B)) w := by
 have := Sat.swap (A := []) (B := A) (C := [x]) (D := B) (by simpa using h)
 simpa using this
theorem Sat.behind {w : World} {A B : Ctx} {x : Item} (h : Sat (x :: (A ++ B)) w) : Sat (A ++ x :: B) w := Sat.move (A := []) h
theorem sP {α : Type} {A B : List α} {x : α} : (A ++ x :: B)[A.length]? = some x := by simp
theorem Fj {α : Type} {A B : List α} {x y : α} : (A ++ x :: B).set A.length y = A ++ y :: B := by
 induction A with
 | nil => rfl
 | cons a A ih => simp [ih]
def pq : Nat → Option Code
 | 0 => none
 | 1 => some .ret
 | n + 2 => ifS (Nat.beq (n % 2) 0) (some (.exit (n / 2))) (some (.goto (n / 2)))
def B6 : Nat → XE
 | 0 => .nrm
 | 1 => .ret
 | n + 2 => ifS (Nat.beq (n % 2) 0) (.ext (n / 2)) (.gto (n / 2))
def tv : Nat → LoopState
 | 0 => .ready
 | _ + 1 => .done
theorem Js (i : Nat) : pq (2 * i + 2) = some (.exit i) := by
 have h1 : 2 * i % 2 = 0 := Nat.mul_mod_right 2 i
 have h2 : 2 * i / 2 = i := Nat.mul_div_cancel_left i (by decide)
 show ifS (Nat.beq (2 * i % 2) 0) (some (Code.exit (2 * i / 2))) _ = _
 rw [h1, h2]
theorem KD (i : Nat) : pq (2 * i + 3) = some (.goto i) := by
 have h1 : (2 * i + 1) % 2 = 1 := by omega
 have h2 : (2 * i + 1) / 2 = i := by omega
 show ifS (Nat.beq ((2 * i + 1) % 2) 0) _ (some (Code.goto ((2 * i + 1) / 2))) = _
 rw [h1, h2]
def IJ : List Tmp → List AV → al → Option al
 | [], [], E => some E
 | p :: ps, v :: vs, E => IJ ps vs ((p, none, v) :: E)
 | _, _, _ => none
theorem EO {ρ : Nms} {F : Env} : {ps : List Tmp} → {vs : List AV} → {E E' : al} → IJ ps vs E = some E' → al.env ρ [] E' ++ F = BY ps (AV.ae ρ vs) (al.env ρ [] E ++ F) ∧ Nat.beq (AV.ae ρ vs).length ps.length = true
 | [], [], E, E', h => by cases h; exact ⟨rfl, rfl⟩
 | p :: ps, v :: vs, E, E', h => by
  obtain ⟨h1, h2⟩ := EO (ρ := ρ) (F := F) (ps := ps) (vs := vs) (E := (p, none, v) :: E) h
  refine ⟨?_, ?_⟩
  ·rw [h1]; simp [al.env, AV.ae, BY]
  ·simpa [AV.ae] using h2
 | [], _ :: _, _, _, h => by cases h
 | _ :: _, [], _, _, h => by cases h
noncomputable def Cq {R : Type} (X : Cx) (tb : List Ent) (tp : List bK) (ps : List Tmp) (assign body : Code) (fr : Fr) (E : al) (hb : HT) (vs : List AV) (st : StB) (KY : Bool → Nat → StB → Option R) : Option R := match IJ ps vs E with
 | some E' => den X tb tp assign fr (fun e st1 => match e with
  | .nrm => den X tb tp body fr (fun e st2 => match e with
   | .nrm => KY true 0 st2
   | .ret => KY false 1 st2
   | .ext i => KY false (2 * i + 2) st2
   | .gto l => KY false (2 * l + 3) st2
   | _ => none) { st1 with h := hb }
  | _ => none) ⟨st.c, E', st.G, .o⟩
 | none => none
section
variable {R : Type} {r : R} {X : Cx} {tb : List Ent} {tp : List bK} {fr : Fr}
theorem Jg {Φ1 : Ctx} (hΓ : ∀ it ∈ X.Γ, it ∈ Φ1) (htb : ∀ e ∈ tb, e.Ok X.P X.Γ) (htp : ∀ e ∈ tp, e.Ok X.P X.Γ) {ps : List Tmp} {assign body : Code} {E : al} {hb : HT} {c0 l b : Nat} {ρ0 : Nms} {r0 : LoopState → Option Code → Loop}
  (hr : Rec fr.n (ai ρ0 [] E fr.F) ps.toArray assign body b r0) (hE : E.low c0 = true) (hF : al.low c0 fr.F = true) (hp : ps.all (fun p => Nat.blt p fr.n) = true) :
  YOk X ⟨c0, Cq X tb tp ps assign body fr E hb⟩ r l ρ0 fr.H (fun p => bI l r0 (tv p) (pq p) :: Φ1) := by
 intro vs st ρ w H1 KY hid hag hvs hG hH hs h
 have h' : Cq X tb tp ps assign body fr E hb vs st KY = some r := h
 unfold Cq at h'
 split at h'
 ·rename_i E' hz
  have hag0 : aw c0 ρ0 ρ := hag.less (Nat.le_succ _)
  obtain ⟨z1, z2⟩ := EO (ρ := ρ) (F := al.env ρ [] fr.F) hz
  have eE : ai ρ0 [] E fr.F = ai ρ [] E fr.F := by
   rw [ai, ai, jL hag0 hE, jL hag0 hF]
  rw [eE] at hr
  have lH1 : aS st.c H1 = true := by
   clear h h' hs hz
   induction H1 with
   | nil => rfl
   | cons x H1 ih =>
    simp only [List.cons_append, aS, Bool.and_eq_true] at hH ⊢
    exact ⟨hH.1, ih hH.2⟩
  -- the row, parted in another way
  have toR : ∀ {G : List Row} {ρ' : Nms} {x : Item} {w' : World}, Sat (items ρ' [] G ++ (items ρ' [] (H1 ++ fr.H) ++ x :: Φ1)) w' → Sat (items ρ' [] G ++ (items ρ' [] fr.H ++ (items ρ' [] H1 ++ x :: Φ1))) w' := fun {G ρ' x w'} hw => by
   rw [aF, List.append_assoc] at hw
   exact hw.swap
  have frR : ∀ {G : List Row} {ρ' : Nms} {x : Item} {w' : World}, Sat (items ρ' [] G ++ (items ρ' [] fr.H ++ (items ρ' [] H1 ++ x :: Φ1))) w' → Sat (items ρ' [] G ++ (items ρ' [] (H1 ++ fr.H) ++ x :: Φ1)) w' := fun {G ρ' x w'} hw => by
   rw [aF, List.append_assoc]
   exact hw.swap
  -- the loop's row, exchanged
  have mid : ∀ {G : List Row} {ρ' : Nms} {x : Item}, ∃ A : Ctx, items ρ' [] G ++ (items ρ' [] fr.H ++ (items ρ [] H1 ++ x :: Φ1)) = A ++ x :: Φ1 ∧ ∀ z, A ++ z :: Φ1 = items ρ' [] G ++ (items ρ' [] fr.H ++ (items ρ [] H1 ++ z :: Φ1)) := fun {G ρ' x} =>
   ⟨items ρ' [] G ++ (items ρ' [] fr.H ++ items ρ [] H1), by simp, fun z => by simp⟩
  have hs1 := toR hs
  have hΓ1 : ∀ x : Item, ∀ it ∈ X.Γ, it ∈ items ρ [] H1 ++ x :: Φ1 := fun x it hi => List.mem_append_right _ (List.mem_cons_of_mem _ (hΓ it hi))
  have hs0 : Sat (bI l r0 .ready none :: (items ρ [] st.G ++ (items ρ [] (H1 ++ fr.H) ++ Φ1))) w := by
   have : Sat ((items ρ [] st.G ++ items ρ [] (H1 ++ fr.H)) ++ bI l r0 .ready none :: Φ1) w := by
    rw [List.append_assoc]; exact hs
   have := this.front
   rw [List.append_assoc] at this
   exact this
  refine Of hr hs0 z2 hp ?_
  rw [← z1]
  refine eD (σ := some l) (D := []) (Φ := items ρ [] H1 ++ bI l r0 .ready none :: Φ1) (hΓ1 _) htb htp assign (fr := fr) (st := ⟨st.c, E', st.G, .o⟩) (ρ := ρ) hs1 h' (fun e st1 ρ1 w1 a1 a2 a3 a4 => ?_)
  cases e with
  | nrm =>
   obtain ⟨A, e1, e2⟩ := mid (G := st1.G) (ρ' := ρ1) (x := bI l r0 .ready none)
   have a4' : Sat (A ++ bI l r0 .ready none :: Φ1) w1 := by rw [← e1]; exact a4
   refine KX (i := A.length) hr a4' sP (fun w2 hs2 => ?_)
   rw [Fj, e2] at hs2
   refine eD (σ := some l) (D := []) (Φ := items ρ [] H1 ++ bI l r0 .busy none :: Φ1) (hΓ1 _) htb htp body (fr := fr) (st := { st1 with h := hb }) (ρ := ρ1) hs2 a3 (fun e st2 ρ2 w3 b1 b2 b3 b4 => ?_)
   obtain ⟨A2, e3, e4⟩ := mid (G := st2.G) (ρ' := ρ2) (x := bI l r0 .busy none)
   have b4' : Sat (A2 ++ bI l r0 .busy none :: Φ1) w3 := by rw [← e3]; exact b4
   have ag2 : aw st.c ρ ρ2 := a1.trans b1 a2
   have le2 : st.c ≤ st2.c := Nat.le_trans a2 b2
   have fin : ∀ {bv : Bool} {p' : Nat} {w4 : World}, KY bv p' st2 = some r → Sat ((A2 ++ bI l r0 .busy none :: Φ1).set A2.length (bI l r0 (tv p') (pq p'))) w4 →
     ∃ b p' st' ρ', Value.bool bv = .bool b ∧ aw st.c ρ ρ' ∧ st.c ≤ st'.c ∧ KY b p' st' = some r ∧ Sat (items ρ' [] st'.G ++ (items ρ' [] (H1 ++ fr.H) ++ bI l r0 (tv p') (pq p') :: Φ1)) w4 := fun {bv p' w4} hk hw => by
    rw [Fj, e4, ← aH ag2 lH1] at hw
    exact ⟨bv, p', st2, ρ2, rfl, ag2, le2, hk, frR hw⟩
   cases e with
   | nrm => exact K6 (i := A2.length) hr b4' sP (fun w4 hw => fin (p' := 0) b3 hw)
   | ret => exact Dl (i := A2.length) hr b4' sP (fun w4 hw => fin (p' := 1) b3 hw)
   | ext i => exact AJ (i := A2.length) hr b4' sP (fun w4 hw => fin (p' := 2 * i + 2) b3 (by rw [Js]; exact hw))
   | gto j => exact AX (i := A2.length) hr b4' sP (fun w4 hw => fin (p' := 2 * j + 3) b3 (by rw [KD]; exact hw))
   | pan v => cases b3
   | panE v => cases b3
  | _ => cases a3
 ·cases h'
end
def sR : al → al
 | [] => []
 | (t, _, v) :: E => (t + 10000, some (1000000000, false), v) :: sR E
theorem Fu {ρ : Nms} : {E : al} → {t : Nat} → {p : Bool × Value} → look (al.env ρ [] (sR E)) t = some p → 10000 ≤ t ∧ p.1 = false
 | [], _, _, h => by cases h
 | (t', g, v) :: E, t, p, h => by
  simp only [sR, al.env, look] at h
  cases hb : Nat.beq (t' + 10000) t
  ·rw [hb, cond_false] at h; exact Fu h
  ·rw [hb, cond_true] at h
   have := Nat.eq_of_beq_eq_true hb
   cases h
   exact ⟨by omega, rfl⟩
theorem Fits.far {n : Nat} {E : Env} {a : Act} {ρ : Nms} {F : al} (h : Fits n E a) (hn : n ≤ 10000) : Fits n (E ++ al.env ρ [] (sR F)) a := by
 refine ⟨h.size, fun t g v ht => ?_⟩
 rw [qn] at ht
 split at ht
 ·rename_i p hp
  cases ht
  exact h.at_ t g v hp
 ·obtain ⟨h1, h2⟩ := Fu ht
  simp only at h2
  subst h2
  have hs := h.size
  have : ¬ t < a.tmps.size := by omega
  simp [Array.getD, this, nt]
def itE {R : Type} (Kend : Nat → StB → Option R) (p : Nat) : XE → StB → Option R
 | .nrm, st => Kend p st
 | .ret, st => Kend p st
 | _, _ => none
noncomputable def rfD {R : Type} (X : Cx) (tb : List Ent) (tp : List bK) (tc : List Clo) (ps : List Tmp) (assign body : Code) (gv : AV) (fr : Fr) (st : StB) (hi hb : HT) (Kend : Nat → StB → Option R) : Option R := match gv with
 | .fn f a b => (match xF tc f with
  | some cl => (match cl.fn.body with
   | some ib => ifS (cl.fn.results.isEmpty && Nat.ble (a.length + (b.length + 1)) cl.fn.ntmps && Nat.ble cl.fn.ntmps 10000 && st.low fr && ps.all (fun p => Nat.blt p fr.n) && AV.aY st.c a && AV.aY st.c b) (
     fY X tb ⟨st.c, Cq X tb tp ps assign body fr st.E hb⟩ ib ⟨sR (st.E ++ fr.F), fr.H, cl.fn.ntmps⟩ (itE Kend) 0 ⟨st.c + 1, jY 0 (a ++ .nv st.c :: b), st.G, hi⟩) none
   | none => none)
  | none => none)
 | _ => none
section
variable {P : Program} {n : Nat} {D0 : List Deferred} {E : Env} {w : World} {Γ : Ctx} {Q : aI}
theorem AO {g : Operand} {ps : Array Tmp} {assign body : Code} {f : FuncId} {first cap : List Value} (ds : List Nat)
  (he : Enters P f) (hg : Opd E true g (.func (.func f) first.toArray cap.toArray)) (hs : Sat (bR ds :: Γ) w)
  (h : ∀ (l b : Nat) (r : LoopState → Option Code → Loop) w1, Rec n E ps assign body b r → Sat (bI l r .ready none :: bR (b :: ds) :: Γ) w1 →
   jw P f (first ++ [Value.func (.yield l) #[] #[]] ++ cap) w1 (fR P none l n (mk (b :: ds) ++ D0) Q E)) :
  WC P none (.rangeFunc g ps assign body) Q n (mk ds ++ D0) E w := fun a hf hd => by
 refine wpIn_rangeFunc fun fn hfn => ?_
 obtain ⟨r, hr⟩ : ∃ r : LoopState → Option Code → Loop, r = fun st pe => { state := st, pending := pe, fn, tmps := a.tmps, params := ps, assign, body, defers := w.heap.size } := ⟨_, rfl⟩
 obtain ⟨W1, hW1⟩ : ∃ W1, (w.alloc (.deferred (some []))).alloc (.loop (r .ready none)) = W1 := ⟨_, rfl⟩
 have hs1 : Sat (jf w.heap.size (.deferred (some [])) :: bR ds :: Γ) (w.alloc (.deferred (some []))) := hs.push (dF _ _) (fun b hb => by
  have : b = w.heap.size := by simpa [jf] using hb
  subst this; simp) (fun _ _ => World.alloc_heap_new w _)
 have hs2 : Sat (bI (w.heap.size + 1) r .ready none :: bR (w.heap.size :: ds) :: Γ) W1 := by
  rw [← hW1]
  have := hs1.dfr.push (new := bI (w.alloc (.deferred (some []))).heap.size r .ready none) (dF _ _) (fun b hb => by
   have : b = (w.alloc (.deferred (some []))).heap.size := by simpa [jf] using hb
   subst this; simp) (fun _ _ => World.alloc_heap_new (w.alloc (.deferred (some []))) (.loop (r .ready none)))
  rwa [World.size_alloc] at this
 have hrec : Rec n E ps assign body w.heap.size r := ⟨fn, a.tmps, ⟨hf.size, hf.at_⟩, hr⟩
 have hev : a.eval g = Value.func (.func f) first.toArray cap.toArray := hg n a hf rfl
 refine ⟨w.heap.size + 1, [{ target := .collected w.heap.size, args := #[] }], W1, { target := .fn (.func f) cap.toArray, args := first.toArray ++ #[Value.func (.yield (w.heap.size + 1)) #[] #[]] }, W1, f,
  (first ++ [Value.func (.yield (w.heap.size + 1)) #[] #[]] ++ cap).toArray, W1, ?_, ?_, fun _ _ => trivial, ?_, pr, ?_⟩
 ·rw [← hW1, hr]; exact run_enterLoop_outer _ _ _ _ _
 ·simp only [resolve, hev, Deferred.ofValue]
  simp [Act.eval]
 ·have := he (first ++ [Value.func (.yield (w.heap.size + 1)) #[] #[]] ++ cap).toArray W1
  simp only [invoke]
  simpa using this
 ·refine se (Calls.mono (h (w.heap.size + 1) w.heap.size r W1 hrec hs2) fun e w' he => ?_)
  cases e with
  | returned v =>
   obtain ⟨j, w'', h1, h2⟩ := he
   refine ⟨j, w'', h1, ?_⟩
   have hf' : Fits n E { a with defers := [{ target := .collected w.heap.size, args := #[] }] ++ a.defers } := ⟨hf.size, hf.at_⟩
   cases j with
   | none => exact h2 _ hf' (by simp [hd, mk])
   | some c => exact h2 _ hf' (by simp [hd, mk])
  | panicked c => exact he.elim
  | outgrown => exact he.elim
end
section
variable {R : Type} {r : R} {X : Cx} {tb : List Ent} {tp : List bK} {tc : List Clo} {fr : Fr} {Φ : Ctx} {D : List Deferred} {Q : aI}
theorem Nx (hΓ : ∀ it ∈ X.Γ, it ∈ Φ) (htb : ∀ e ∈ tb, e.Ok X.P X.Γ) (htp : ∀ e ∈ tp, e.Ok X.P X.Γ) (htc : ∀ c ∈ tc, c.Ok X.P) {g : Operand} {ps : Array Tmp} {assign body : Code} {gv : AV} {st : StB} {hi hb : HT} {Kend : Nat → StB → Option R} {ρ : Nms} {w : World} {ds : List Nat}
  (hg : opA [] st.E fr.F none g = some gv) (hs : Sat (items ρ [] st.G ++ (items ρ [] fr.H ++ bR ds :: Φ)) w) (h : rfD X tb tp tc ps.toList assign body gv fr st hi hb Kend = some r)
  (hend : ∀ p st1 ρ1 w1 ds', aw st.c ρ ρ1 → st.c ≤ st1.c → Kend p st1 = some r → Sat (items ρ1 [] st1.G ++ (items ρ1 [] fr.H ++ bR ds' :: Φ)) w1 → AtX Q (B6 p) ρ1 fr.n (mk ds' ++ D) (ai ρ1 [] st.E fr.F) w1) :
  WC X.P none (.rangeFunc g ps assign body) Q fr.n (mk ds ++ D) (ai ρ [] st.E fr.F) w := by
 unfold rfD at h
 split at h
 ·rename_i f a b
  split at h
  ·rename_i cl hcl
   obtain ⟨c1, c2⟩ := vK htc hcl
   subst c2
   split at h
   ·rename_i ib hib
    obtain ⟨k1, h1⟩ := ar h
    simp only [Bool.and_eq_true] at k1
    obtain ⟨⟨⟨⟨⟨⟨d1, d2⟩, d3⟩, d4⟩, d5⟩, d6⟩, d7⟩ := k1
    have hres : cl.fn.results = #[] := by simpa using d1
    have hn1 : cl.fn.ntmps ≤ 10000 := Nat.le_of_ble_eq_true d3
    obtain ⟨l1, l2, l3, l4⟩ := StB.bJ.1 d4
    have hg' := bd (ρ := ρ) hg
    simp only [AV.val] at hg'
    have hab : AV.aY st.c a = true ∧ AV.aY st.c b = true := ⟨d6, d7⟩
    -- the marks in front
    have hs0 : Sat (bR ds :: (items ρ [] st.G ++ (items ρ [] fr.H ++ Φ))) w := by
     have : Sat ((items ρ [] st.G ++ items ρ [] fr.H) ++ bR ds :: Φ) w := by rw [List.append_assoc]; exact hs
     have := this.front
     rwa [List.append_assoc] at this
    refine AO ds c1.1 hg' hs0 (fun l bb r0 w1 hr hs1 => ?_)
    have hr' : Rec fr.n (ai ρ [] st.E fr.F) ps.toList.toArray assign body bb r0 := by simpa using hr
    -- yield's name
    generalize hρ : ρ.set st.c { nm0 with x := .func (.yield l) #[] #[] } = ρ1
    have hag : aw st.c ρ ρ1 := by rw [← hρ]; exact Nms.aM
    have hyv : (ρ1 st.c).x = .func (.yield l) #[] #[] := by rw [← hρ, Nms.bc]
    have hvals : AV.ae ρ1 (a ++ .nv st.c :: b) = AV.ae ρ a ++ [Value.func (.yield l) #[] #[]] ++ AV.ae ρ b := by
     rw [bS]
     simp only [AV.ae, AV.val, hyv]
     rw [AV.aZ hag _ hab.1, AV.aZ hag _ hab.2]
     simp
    rw [← hvals]
    -- the rows
    have hs2 : Sat (items ρ1 [] st.G ++ (items ρ1 [] fr.H ++ (bI l r0 (tv 0) (pq 0) :: bR (bb :: ds) :: Φ))) w1 := by
     rw [aH hag l3, aH hag l4]
     have e1 : Sat ([] ++ ([bI l r0 .ready none, bR (bb :: ds)] ++ ((items ρ [] st.G ++ items ρ [] fr.H) ++ Φ))) w1 := by simpa using hs1
     have := e1.swap
     simp only [List.nil_append, List.append_assoc, List.cons_append] at this
     exact this
    have hΓ1 : ∀ p, ∀ it ∈ X.Γ, it ∈ (bI l r0 (tv p) (pq p) :: bR (bb :: ds) :: Φ) := fun p it hi => List.mem_cons_of_mem _ (List.mem_cons_of_mem _ (hΓ it hi))
    have hrr : Rec fr.n (ai ρ1 [] st.E fr.F) ps.toList.toArray assign body bb r0 := by rw [iL d4 hag]; exact hr'
    have hY := Jg (r := r) (tp := tp) (hb := hb) (Φ1 := bR (bb :: ds) :: Φ) (fun it hi => List.mem_cons_of_mem _ (hΓ it hi)) htb htp (l := l) hrr l1 l2 d5
    refine Calls.mono (tz (S := fR X.P none l fr.n (mk (bb :: ds) ++ D) Q (ai ρ [] st.E fr.F)) (Sp := fun _ _ => False) c1.2 hib rfl (by rw [AV.aK]; simpa [Nat.add_comm, Nat.add_left_comm, Nat.add_assoc] using d2) ?_) (fun e w' he => he)
    have hE : ai ρ1 [] (jY 0 (a ++ .nv st.c :: b)) (sR (st.E ++ fr.F)) = iota 0 (AV.ae ρ1 (a ++ .nv st.c :: b)) ++ al.env ρ1 [] (sR (st.E ++ fr.F)) := by
     show al.env ρ1 [] (jY 0 _) ++ al.env ρ1 [] _ = _
     rw [sw]
    have hx := mh (r := r) (D := []) (Φ := fun p => bI l r0 (tv p) (pq p) :: bR (bb :: ds) :: Φ) hΓ1 htb (y := ⟨st.c, Cq X tb tp ps.toList assign body fr st.E hb⟩) hyv hY ib (Q := BP X.P cl.fn (fR X.P none l fr.n (mk (bb :: ds) ++ D) Q (ai ρ [] st.E fr.F)) (fun _ _ => False)) (fr := ⟨sR (st.E ++ fr.F), fr.H, cl.fn.ntmps⟩) (H1 := []) (K := itE Kend) (st := ⟨st.c + 1, jY 0 (a ++ .nv st.c :: b), st.G, hi⟩) (ρ := ρ1) (w := w1) rfl ⟨Nat.lt_succ_self _, .refl⟩ hs2 h1 (fun p e st1 ρ2 w2 a1 a2 a3 a4 => ?_)
    ·rw [hE] at hx
     exact fun aa hf hd => hx aa (hf.far hn1) hd
    · -- the iterator's end
     have ag2 : aw st.c ρ ρ2 := hag.trans (a1.less (Nat.le_succ _)) (Nat.le_refl _)
     have le2 : st.c ≤ st1.c := Nat.le_of_succ_le a2
     have eE : ai ρ2 [] st.E fr.F = ai ρ [] st.E fr.F := iL d4 ag2
     have fin : Kend p st1 = some r → fR X.P none l fr.n (mk (bb :: ds) ++ D) Q (ai ρ [] st.E fr.F) (.tuple #[]) w2 := fun hk => by
      have b4 : Sat (bI l r0 (tv p) (pq p) :: (items ρ2 [] st1.G ++ (items ρ2 [] fr.H ++ bR (bb :: ds) :: Φ))) w2 := by
       have : Sat ((items ρ2 [] st1.G ++ items ρ2 [] fr.H) ++ bI l r0 (tv p) (pq p) :: bR (bb :: ds) :: Φ) w2 := by rw [List.append_assoc]; exact a4
       have := this.front
       rwa [List.append_assoc] at this
      have at_ : ∀ w3, Sat (items ρ2 [] st1.G ++ (items ρ2 [] fr.H ++ bR (bb :: ds) :: Φ)) w3 → AtX Q (B6 p) ρ2 fr.n (mk (bb :: ds) ++ D) (ai ρ [] st.E fr.F) w3 := fun w3 hw => by
       have := hend p st1 ρ2 w3 (bb :: ds) ag2 le2 hk hw
       rwa [eE] at this
      match p, b4, at_ with
      | 0, b4, at_ => exact fR.go hr b4 (fun w3 hw => at_ w3 hw)
      | 1, b4, at_ => exact fR.jump hr b4 (fun w3 hw => Bp (at_ w3 hw))
      | q + 2, b4, at_ =>
       simp only [pq, B6] at b4 at_
       cases hq : Nat.beq (q % 2) 0
       ·simp only [hq] at b4 at_
        exact fR.jump hr b4 (fun w3 hw => Ez (at_ w3 hw))
       ·simp only [hq] at b4 at_
        exact fR.jump hr b4 (fun w3 hw => y6 (at_ w3 hw))
     cases e with
     | nrm => exact (Jx (vs := []) (by simp [hres]) (fun aa hf => by rw [hres]; simp) (v := .tuple #[]) rfl (fin a3) : At (BP X.P cl.fn _ _) .ret cl.fn.ntmps [] _ w2)
     | ret => exact Jx (vs := []) (by simp [hres]) (fun aa hf => by rw [hres]; simp) (v := .tuple #[]) rfl (fin a3)
     | _ => cases a3
   ·cases h
  ·cases h
 ·cases h
end
def jn : Code → Bool
 | .rangeFunc .. => true
 | .seq a b => jn a || jn b
 | .cond _ a b => jn a || jn b
 | .block _ c => jn c
 | .loop c => jn c
 | .scope c => jn c
 | _ => false
noncomputable def fL {R : Type} (X : Cx) (tb : List Ent) (tp : List bK) (tc : List Clo) : Code → Fr → (XE → StB → Option R) → StB → Option R
 | .block i c, fr, K, st => fL X tb tp tc c fr (brk i K) st
 | .cond c x y, fr, K, st => ifS (jn x || jn y) (match opA [] st.E fr.F none c with
  | some (.bool b) => cnd b (fun h => fL X tb tp tc x fr K { st with h := h }) (fun h => fL X tb tp tc y fr K { st with h := h }) st.h
  | _ => none) (den X tb tp (.cond c x y) fr K st)
 | .seq x y, fr, K, st => ifS (jn x || jn y) (match st.h with
  | .j tm p q => ifS (st.low fr) (
   ab (fun s : Tup (ek tm.vs) => fL X tb tp tc y fr K (dO (enter fr tm (bh x) st) tm s q)) fun k =>
   fL X tb tp tc x (enter fr tm (bh x) st).fr (thn (fun st' => match gm (enter fr tm (bh x) st) tm st'.E st'.G with
     | some s => k s
     | none => none) (fun e st' => K e (pf (enter fr tm (bh x) st) st'))) ⟨(enter fr tm (bh x) st).c, (enter fr tm (bh x) st).Et, (enter fr tm (bh x) st).Gt, p⟩ ) none
  | .s h => fL X tb tp tc x fr (thn (fL X tb tp tc y fr K) K) { st with h := h }
  | _ => fL X tb tp tc x fr (thn (fL X tb tp tc y fr K) K) st) (den X tb tp (.seq x y) fr K st)
 | .loop c, fr, K, st => ifS (jn c) (match st.h with
  | .l tm p => ifS (st.low fr) (
   match gm (enter fr tm (bh c) st) tm (enter fr tm (bh c) st).Et (enter fr tm (bh c) st).Gt with
   | some s => an (fun again s => fL X tb tp tc c (enter fr tm (bh c) st).fr (thn (fun st' => match gm (enter fr tm (bh c) st) tm st'.E st'.G with
      | some s => again s
      | none => none) (fun e st' => K e (pf (enter fr tm (bh c) st) st'))) (bp (enter fr tm (bh c) st) tm s p)) au s
   | none => none ) none
  | _ => none) (den X tb tp (.loop c) fr K st)
 | .rangeFunc g ps assign body, fr, K, st => match st.h with
  | .c (.c hi hb) hr => (match opA [] st.E fr.F none g with
   | some gv => rfD X tb tp tc ps.toList assign body gv fr st hi hb (fun p st1 => K (B6 p) { st1 with E := st.E, h := hr })
   | none => none)
  | _ => none
 | c, fr, K, st => den X tb tp c fr K st
section
variable {P : Program} {ρ : Option Nat} {Q : aI} {n : Nat} {E : Env} {w : World}
def Gc {γ : Type} (J : γ → World → Prop) (Es : γ → Env) (n : Nat) (Ds : γ → List Deferred) (a : Act) (w : World) : Prop :=
 ∃ g, J g w ∧ Fits n (Es g) a ∧ a.defers = Ds g
theorem DJ {γ : Type} (J : γ → World → Prop) (Es : γ → Env) (Ds : γ → List Deferred) {D : List Deferred} {x y : Code}
  (hy : ∀ g w', J g w' → WC P ρ y Q n (Ds g) (Es g) w') (hx : WC P ρ x (Exit.then (Gc J Es n Ds) Q) n D E w) : WC P ρ (.seq x y) Q n D E w :=
 fun a hf hd => wpIn_seq (wpIn_mono (hx a hf hd) (fun e a' w' h => by
  cases e <;> first | exact h | (obtain ⟨g, hJ, hF, hD⟩ := h; exact hy g w' hJ a' hF hD)))
theorem Kx {γ : Type} {J : γ → World → Prop} {Es : γ → Env} {Ds : γ → List Deferred} {D : List Deferred} (g : γ) (hJ : J g w) (hs : fE (Es g) E) (hD : D = Ds g) : At (Exit.then (Gc J Es n Ds) Q) .normal n D E w :=
 fun _a hf hd => ⟨g, hJ, hf.iR hs, hd.trans hD⟩
def yn {σ γ τ : Type} (again : σ → Option τ) (r : τ) (J : σ → γ → World → Prop) (Es : σ → γ → Env) (n : Nat) (Ds : γ → List Deferred) (a : Act) (w : World) : Prop :=
 ∃ s g, again s = some r ∧ J s g w ∧ Fits n (Es s g) a ∧ a.defers = Ds g
theorem Ko {σ γ τ : Type} {F : (σ → Option τ) → σ → Option τ} {r : τ} (J : σ → γ → World → Prop) (Es : σ → γ → Env) (Ds : γ → List Deferred) {body : Code} {D : List Deferred}
  {N : Nat} {s0 : σ} (hm : an F N s0 = some r) (g0 : γ) (h0 : J s0 g0 w) (hE : fE (Es s0 g0) E) (hD : D = Ds g0)
  (round : ∀ again s g w, F again s = some r → J s g w → WC P ρ body (Exit.then (yn again r J Es n Ds) Q) n (Ds g) (Es s g) w) :
  WC P ρ (.loop body) Q n D E w := fun a hf hd =>
 ra (fun m => yn (an F m) r J Es n Ds) N ⟨s0, g0, hm, h0, hf.iR hE, hd.trans hD⟩ fun m a w ⟨s, g, hs, hJ, hF, hD⟩ => by
  obtain ⟨m', rfl, hs'⟩ := nc hs
  exact wpIn_mono (round (an F m') s g w hs' hJ a hF hD) fun e a w h => by
   cases e <;> first | exact h | exact ⟨m', Nat.lt_succ_self _, h⟩
theorem Iz {σ γ τ : Type} {again : σ → Option τ} {r : τ} {J : σ → γ → World → Prop} {Es : σ → γ → Env} {Ds : γ → List Deferred} {D : List Deferred}
  (s : σ) (g : γ) (hm : again s = some r) (hJ : J s g w) (hs : fE (Es s g) E) (hD : D = Ds g) : At (Exit.then (yn again r J Es n Ds) Q) .normal n D E w :=
 fun _a hf hd => ⟨s, g, hm, hJ, hf.iR hs, hd.trans hD⟩
end
section
variable {R : Type} {r : R} {X : Cx} {tb : List Ent} {tp : List bK} {tc : List Clo} {Φ : Ctx} {D : List Deferred}
def xO (Q : aI) (D : List Deferred) (fr : Fr) (Φ : Ctx) (c0 : Nat) (ρ0 : Nms) (r : R) (K : XE → StB → Option R) : Prop := ∀ ds, gJ Q (mk ds ++ D) fr (bR ds :: Φ) c0 ρ0 r K
theorem xO.less {Q : aI} {fr : Fr} {c0 c1 : Nat} {ρ0 ρ1 : Nms} {K : XE → StB → Option R} (h : xO Q D fr Φ c0 ρ0 r K) (ha : aw c0 ρ0 ρ1) (hc : c0 ≤ c1) : xO Q D fr Φ c1 ρ1 r K := fun ds => (h ds).less ha hc
theorem L4 (hΓ : ∀ it ∈ X.Γ, it ∈ Φ) (htb : ∀ e ∈ tb, e.Ok X.P X.Γ) (htp : ∀ e ∈ tp, e.Ok X.P X.Γ) (htc : ∀ c ∈ tc, c.Ok X.P) : ∀ (c : Code) {Q : aI} {fr : Fr} {K : XE → StB → Option R} {st : StB} {ρ : Nms} {w : World} {ds : List Nat}, Sat (items ρ [] st.G ++ (items ρ [] fr.H ++ bR ds :: Φ)) w →
  fL X tb tp tc c fr K st = some r → xO Q D fr Φ st.c ρ r K → WC X.P none c Q fr.n (mk ds ++ D) (ai ρ [] st.E fr.F) w := fun c => by
 have hΓ' : ∀ ds : List Nat, ∀ it ∈ X.Γ, it ∈ bR ds :: Φ := fun ds it hi => List.mem_cons_of_mem _ (hΓ it hi)
 have jH : ∀ (c : Code) {Q : aI} {fr : Fr} {K : XE → StB → Option R} {st : StB} {ρ : Nms} {w : World} {ds : List Nat}, Sat (items ρ [] st.G ++ (items ρ [] fr.H ++ bR ds :: Φ)) w →
   den X tb tp c fr K st = some r → xO Q D fr Φ st.c ρ r K → WC X.P none c Q fr.n (mk ds ++ D) (ai ρ [] st.E fr.F) w := fun c {Q fr K st ρ w ds} hs h hK =>
  eD (hΓ' ds) htb htp c hs h (hK ds)
 induction c with
 | block i c ih =>
  intro Q fr K st ρ w ds hs h hK
  exact wa (ih hs (by unfold fL at h; exact h) (fun ds => wy (hK ds)))
 | cond c x y ihx ihy =>
  intro Q fr K st ρ w ds hs h hK
  unfold fL at h
  rcases cm h with ⟨_, h⟩ | ⟨_, h⟩
  ·split at h
   ·rename_i b hb
    have hc := bd (ρ := ρ) hb
    simp only [AV.val] at hc
    obtain ⟨p, q, h1, h2⟩ := vX h
    exact yw hc (fun hb => ihx (st := { st with h := p }) hs (h1 hb) hK) (fun hb => ihy (st := { st with h := q }) hs (h2 hb) hK)
   ·cases h
  ·exact jH _ hs h hK
 | seq x y ihx ihy =>
  intro Q fr K st ρ w ds hs h hK
  unfold fL at h
  rcases cm h with ⟨_, h⟩ | ⟨_, h⟩
  ·have plain : ∀ h', fL X tb tp tc x fr (thn (fL X tb tp tc y fr K) K) { st with h := h' } = some r → WC X.P none (.seq x y) Q fr.n (mk ds ++ D) (ai ρ [] st.E fr.F) w := fun h' hd => by
    refine oP (ihx (st := { st with h := h' }) hs hd (fun ds' e st' ρ' w' a1 a2 a3 a4 => ?_))
    by_cases he : e = .nrm
    ·subst he
     exact kE (ihy a4 a3 (hK.less a1 a2))
    ·rw [jA he] at a3
     exact fz he (hK ds' e st' ρ' w' a1 a2 a3 a4)
   split at h
   ·rename_i tm p q hh
    obtain ⟨hl, h2⟩ := ar h
    obtain ⟨ρ1, en⟩ := mo (tm := tm) (m := bh x) hl hs
    generalize enter fr tm (bh x) st = E0 at h2 en
    unfold ab at h2
    refine DJ (γ := (Tup (ek tm.vs) × Nms) × List Nat) (fun g w' => fL X tb tp tc y fr K (dO E0 tm g.1.1 q) = some r ∧ aw E0.c ρ1 g.1.2 ∧ Sat (items g.1.2 [] (dO E0 tm g.1.1 q).G ++ (items g.1.2 [] fr.H ++ bR g.2 :: Φ)) w') (fun g => ai g.1.2 [] (dO E0 tm g.1.1 q).E fr.F) (fun g => mk g.2 ++ D) (fun g w' hg => ?_) ?_
    ·obtain ⟨g1, g2, g3⟩ := hg
     refine ihy g3 g1 (hK.less (en.ag.trans g2 en.le) ?_)
     have : E0.c ≤ (dO E0 tm g.1.1 q).c := by
      unfold dO
      generalize c8 (fun n => E0.c + n) E0.fix tm.vs 0 (unt _ g.1.1) = L
      obtain ⟨a, b, c, d⟩ := L
      exact Nat.le_add_right _ _
     exact Nat.le_trans en.le this
    ·have hx := ihx (fr := E0.fr) (st := ⟨E0.c, E0.Et, E0.Gt, p⟩) (ρ := ρ1) (Q := Exit.then (Gc (fun (g : (Tup (ek tm.vs) × Nms) × List Nat) w' => fL X tb tp tc y fr K (dO E0 tm g.1.1 q) = some r ∧ aw E0.c ρ1 g.1.2 ∧ Sat (items g.1.2 [] (dO E0 tm g.1.1 q).G ++ (items g.1.2 [] fr.H ++ bR g.2 :: Φ)) w') (fun g => ai g.1.2 [] (dO E0 tm g.1.1 q).E fr.F) fr.n (fun g => mk g.2 ++ D)) Q) en.sat h2 (fun ds' e st' ρ' w' a1 a2 a3 a4 => ?_)
     ·rw [en.fn] at hx
      exact hx.iR _ en.sub
     ·by_cases he : e = .nrm
      ·subst he
       have a3' : (match gm E0 tm st'.E st'.G with | some s => fL X tb tp tc y fr K (dO E0 tm s q) | none => none) = some r := a3
       split at a3'
       ·rename_i s hb
        obtain ⟨ρ2, E', R', k, DD, b1, b2, b3, b4⟩ := jb en.lF en.lH en.fx a4 hb
        have eJ : dO E0 tm s q = ⟨E0.c + k, E' ++ E0.E, rowsOf R' ++ E0.G, q⟩ := by unfold dO; rw [b1]
        rw [en.fn]
        refine Kx ((s, ρ2), ds') ⟨a3', a1.trans b2 (Nat.le_refl _), ?_⟩ ?_ rfl
        ·rw [eJ]
         show Sat (items ρ2 [] (rowsOf R' ++ E0.G) ++ _) w'
         rw [aF, List.append_assoc]
         rw [en.fh, aF, List.append_assoc] at b4
         exact b4
        ·rw [eJ]
         show fE (al.env ρ2 [] (E' ++ E0.E) ++ _) _
         rw [en.ff] at b3
         have e2 : ai ρ2 [] E' (E0.E ++ fr.F) = al.env ρ2 [] (E' ++ E0.E) ++ al.env ρ2 [] fr.F := by
          show al.env ρ2 [] E' ++ al.env ρ2 [] (E0.E ++ fr.F) = _
          rw [iJ, iJ, List.append_assoc]
         rw [← e2, en.ff]; exact b3
       ·cases a3'
      ·rw [jA he] at a3
       have := kM (hK ds') en.ag en.le en.ff en.fh en.fn e st' ρ' w' a1 a2 a3 a4
       exact fz he this
   ·rename_i h' hh; exact plain h' h
   ·exact plain st.h h
  ·exact jH _ hs h hK
 | loop c ih =>
  intro Q fr K st ρ w ds hs h hK
  unfold fL at h
  rcases cm h with ⟨_, h⟩ | ⟨_, h⟩
  ·split at h
   ·rename_i tm p hh
    obtain ⟨hl, h2⟩ := ar h
    obtain ⟨ρ1, en⟩ := mo (tm := tm) (m := bh c) hl hs
    generalize enter fr tm (bh c) st = E0 at h2 en
    split at h2
    ·rename_i s0 hb0
     obtain ⟨ρ2, E', R', k, DD, b1, b2, b3, b4⟩ := jb en.lF en.lH en.fx en.sat hb0
     have eL : ∀ s E' R' k DD, c8 (fun n => E0.c + n) E0.fix tm.vs 0 (unt _ s) = ⟨E', R', k, DD⟩ → bp E0 tm s p = ⟨E0.c + k, E', rowsOf R', p⟩ := fun s E' R' k DD hb => by unfold bp; rw [hb]
     refine Ko (γ := Nms × List Nat) (fun s g w' => aw E0.c ρ1 g.1 ∧ Sat (items g.1 [] (bp E0 tm s p).G ++ (items g.1 [] E0.fr.H ++ bR g.2 :: Φ)) w') (fun s g => ai g.1 [] (bp E0 tm s p).E E0.fr.F) (fun g => mk g.2 ++ D) h2 (ρ2, ds) ⟨b2, ?_⟩ ?_ rfl (fun again s g w' hag hJ => ?_)
     ·rw [eL _ _ _ _ _ b1]; exact b4
     ·rw [eL _ _ _ _ _ b1]; exact b3.trans en.sub
     ·have hc : E0.c ≤ (bp E0 tm s p).c := by
       unfold bp
       generalize c8 (fun n => E0.c + n) E0.fix tm.vs 0 (unt _ s) = L
       obtain ⟨a, b, c, d⟩ := L
       exact Nat.le_add_right _ _
      have hx := ih (fr := E0.fr) (st := bp E0 tm s p) (ρ := g.1) (ds := g.2) (Q := Exit.then (yn again r (fun s (g : Nms × List Nat) w' => aw E0.c ρ1 g.1 ∧ Sat (items g.1 [] (bp E0 tm s p).G ++ (items g.1 [] E0.fr.H ++ bR g.2 :: Φ)) w') (fun s g => ai g.1 [] (bp E0 tm s p).E E0.fr.F) fr.n (fun g => mk g.2 ++ D)) Q) hJ.2 hag (fun ds' e st' ρ' w2 a1 a2 a3 a4 => ?_)
      ·rw [en.fn] at hx; exact hx
      ·by_cases he : e = .nrm
       ·subst he
        have a3' : (match gm E0 tm st'.E st'.G with | some s => again s | none => none) = some r := a3
        split at a3'
        ·rename_i s' hb
         obtain ⟨ρ3, E2, R2, k2, DD2, d1, d2, d3, d4⟩ := jb en.lF en.lH en.fx a4 hb
         rw [en.fn]
         refine Iz s' (ρ3, ds') a3' ⟨(hJ.1.trans (a1.less hc) (Nat.le_refl _)).trans d2 (Nat.le_refl _), ?_⟩ ?_ rfl
         ·rw [eL _ _ _ _ _ d1]; exact d4
         ·rw [eL _ _ _ _ _ d1]; exact d3
        ·cases a3'
       ·rw [jA he] at a3
        have := kM (hK ds') en.ag en.le en.ff en.fh en.fn e st' ρ' w2 (hJ.1.trans (a1.less hc) (Nat.le_refl _)) (Nat.le_trans hc a2) a3 a4
        exact fz he this
    ·cases h2
   ·cases h
  ·exact jH _ hs h hK
 | rangeFunc g ps assign body =>
  intro Q fr K st ρ w ds hs h hK
  unfold fL at h
  split at h
  ·rename_i hi hb hr hh
   split at h
   ·rename_i gv hg
    exact Nx hΓ htb htp htc hg hs h (fun p st1 ρ1 w1 ds' a1 a2 a3 a4 => hK ds' (B6 p) { st1 with E := st.E, h := hr } ρ1 w1 a1 a2 a3 a4)
   ·cases h
  ·cases h
 | _ => intro Q fr K st ρ w ds hs h hK; exact jH _ hs (by unfold fL at h; exact h) hK
def Lp (K : XE → StB → Option R) : XE → StB → Option R
 | .nrm, st => K .nrm st
 | .ret, st => K .ret st
 | _, _ => none
theorem K0 (hΓ : ∀ it ∈ X.Γ, it ∈ Φ) (htb : ∀ e ∈ tb, e.Ok X.P X.Γ) (htp : ∀ e ∈ tp, e.Ok X.P X.Γ) (htc : ∀ c ∈ tc, c.Ok X.P) {fn : Func} {S : Value → World → Prop} {Sp : List PanicEntry → World → Prop} (c : Code) {fr : Fr} {K : XE → StB → Option R} {st : StB} {ρ : Nms} {w : World}
  (hs : Sat (items ρ [] st.G ++ (items ρ [] fr.H ++ Φ)) w) (h : fL X tb tp tc c fr (Lp K) st = some r) (hK : gJ (BP X.P fn S Sp) [] fr Φ st.c ρ r K) : WC X.P none c (BP X.P fn S Sp) fr.n [] (ai ρ [] st.E fr.F) w := by
 have hs1 : Sat (items ρ [] st.G ++ (items ρ [] fr.H ++ bR [] :: Φ)) w := by
  have h1 : Sat (bR [] :: ((items ρ [] st.G ++ items ρ [] fr.H) ++ Φ)) w := by
   rw [List.append_assoc]; exact hs.LX
  have := h1.behind
  rwa [List.append_assoc] at this
 refine L4 (D := []) (ds := []) hΓ htb htp htc c hs1 h (fun ds e st' ρ' w' a1 a2 a3 a4 => ?_)
 have a5 : Sat (bR ds :: (items ρ' [] st'.G ++ (items ρ' [] fr.H ++ Φ))) w' := by
  have h1 : Sat ((items ρ' [] st'.G ++ items ρ' [] fr.H) ++ bR ds :: Φ) w' := by rw [List.append_assoc]; exact a4
  have := h1.front
  rwa [List.append_assoc] at this
 rw [List.append_nil]
 cases e with
 | nrm => exact De ds a5 (fun w2 hw => hK .nrm st' ρ' w2 a1 a2 a3 hw)
 | ret => exact vN ds a5 (fun w2 hw => hK .ret st' ρ' w2 a1 a2 a3 hw)
 | _ => cases a3
end
end Go.Proofs.YtpnogcmollnjeaaGreatDoor
namespace Go.Proofs.YtpnogcmollnjeaaGreatDoor
open Go.Lib
abbrev Pv {R : Type} (E0 : al) (K : StB → Option R) : XE → StB → Option R
 | .nrm, st => K { st with E := E0 }
 | .ret, st => K { st with E := E0 }
 | _, _ => none
noncomputable def C9 {R : Type} (X : Cx) (tb : List Ent) (tp : List bK) (cl : Clo) (cap : List AV) (v : AV) (fr : Fr) (st : StB) (K : StB → Option R) : Option R := match cl.fn.body with
 | some (.seq (.region _ ops false) y) => (match ops.toList with
  | ⟨some d, .call ⟨.builtin .recover, xs, _⟩, _, _, _, none⟩ :: l => ifS (xs.isEmpty && l.all Ba && cl.fn.results.isEmpty && Nat.ble cap.length cl.fn.ntmps && Nat.blt d cl.fn.ntmps) (
    oY X tb tp (fun _ _ => none) ops.toList ⟨[], fr.H, cl.fn.ntmps⟩ l [] { st with E := (d, none, v) :: jY 0 cap, h := .c (.r (List.range cap.length) .o) .o } (fun st1 => den X tb tp y ⟨[], fr.H, cl.fn.ntmps⟩ (Pv st.E K) st1)) none
  | _ => none)
 | _ => none
section
variable {X : Cx} {tb : List Ent} {tp : List bK} {D : List Deferred} {R : Type} {r : R} {Φ : Ctx}
theorem zK {cl : Clo} {cap : List AV} {v : AV} {fr : Fr} {st : StB} {K : StB → Option R} {ρ : Nms} {w : World} {u u' : FrameMode} {T : World → Prop} (hcl : cl.Ok X.P) (hΓ : ∀ it ∈ X.Γ, it ∈ Φ) (htb : ∀ e ∈ tb, e.Ok X.P X.Γ) (htp : ∀ e ∈ tp, e.Ok X.P X.Γ)
  (hs : Sat (items ρ [] st.G ++ (items ρ [] fr.H ++ Φ)) w) (hu : (u = .returning ∧ u' = .returning ∧ v.val ρ = .nilIface) ∨ (u = .panicking (pan (v.val ρ)) ∧ u' = .panicking [{ v := v.val ρ, recovered := true }]))
  (h : C9 X tb tp cl cap v fr st K = some r) (hK : ∀ (st' : StB) (ρ' : Nms) (w' : World), aw st.c ρ ρ' → st.c ≤ st'.c → K { st' with E := st.E } = some r → Sat (items ρ' [] st'.G ++ (items ρ' [] fr.H ++ Φ)) w' → T w') :
  tK X.P cl.f (AV.ae ρ cap) u w fun u2 w' => u2 = u' ∧ T w' := by
 unfold C9 at h
 split at h
 ·rename_i id ops y hb
  split at h
  ·rename_i d xs tys ty pos af l hops
   obtain ⟨h1, h2⟩ := ar h
   simp only [Bool.and_eq_true] at h1
   obtain ⟨⟨⟨⟨h3, h4⟩, h5⟩, h6⟩, h7⟩ := h1
   have hxs : xs = #[] := by simpa using h3
   subst hxs
   have hres : cl.fn.results = #[] := by simpa using h5
   refine zm (n := cl.fn.ntmps) hcl.2 hb hops h4 hres rfl (by rw [AV.aK]; exact h6) h7 hu ?_
   obtain ⟨opl⟩ := ops
   simp only at hops h2
   have := Ft (σ := none) (D := []) (Q := Exit.then (y.wpIn (FW none) 0 X.P (QB T)) (QB T)) (ρ := ρ) (w := w) (r := r) (ops := opl) (fr := ⟨[], fr.H, cl.fn.ntmps⟩) (st := { st with E := (d, none, v) :: jY 0 cap, h := .c (.r (List.range cap.length) .o) .o }) hΓ htb htp (fun x h => by cases h) (fun x h => by cases h) ⟨fun x _ => rfl, fun x _ => rfl⟩ hs h2 (fun st1 ρ1 w1 a1 a2 a3 a4 => ?_) (fun v st1 ρ1 w1 a1 a2 a3 a4 => by cases a3)
   ·have e1 : ai ρ [] ((d, none, v) :: jY 0 cap) [] = (d, true, v.val ρ) :: iota 0 (AV.ae ρ cap) := by
     show al.env ρ [] ((d, none, v) :: jY 0 cap) ++ [] = _
     simp only [al.env, Tbl.get_none, sw, List.append_nil]
    have e2 : ai ρ [] ({ st with E := (d, none, v) :: jY 0 cap, h := .c (.r (List.range cap.length) .o) .o } : StB).E (⟨[], fr.H, cl.fn.ntmps⟩ : Fr).F = (d, true, v.val ρ) :: iota 0 (AV.ae ρ cap) := e1
    rw [e2] at this
    exact this
   ·refine kE (eD (σ := none) (D := []) hΓ htb htp y (fr := ⟨[], fr.H, cl.fn.ntmps⟩) a4 a3 (fun e st2 ρ2 w2 b1 b2 b3 b4 => ?_))
    cases e with
    | nrm => exact OW (hK st2 ρ2 w2 (a1.trans b1 a2) (Nat.le_trans a2 b2) b3 b4)
    | ret => exact NR (hK st2 ρ2 w2 (a1.trans b1 a2) (Nat.le_trans a2 b2) b3 b4)
    | ext i => cases b3
    | gto l => cases b3
    | pan v => cases b3
    | panE v => cases b3
  ·cases h
 ·cases h
end
def F3 : List Oper → Option (List Oper × Operand)
 | [] => none
 | o :: l => (match l with
  | [] => (match o with
   | ⟨none, .defer ⟨.value fo, xs, _⟩, _, _, _, none⟩ => ifS xs.isEmpty (some ([], fo)) none
   | _ => none)
  | _ :: _ => (match F3 l with
   | some p => some (o :: p.1, p.2)
   | none => none))
theorem Fk : {l l' : List Oper} → {fo : Operand} → F3 l = some (l', fo) → ∃ tys ty pos af, l = l' ++ [⟨none, .defer ⟨.value fo, #[], tys⟩, ty, pos, af, none⟩]
 | [], _, _, h => by cases h
 | o :: l, l', fo, h => by
  unfold F3 at h
  split at h
  ·split at h
   ·obtain ⟨h1, h2⟩ := ar h
    rename_i xs _ _ _ _
    have : xs = #[] := by simpa using h1
    subst this
    cases h2
    exact ⟨_, _, _, _, rfl⟩
   ·cases h
  ·split at h
   ·rename_i p hp
    cases h
    obtain ⟨tys, ty, pos, af, h2⟩ := Fk (fo := p.2) (l' := p.1) (by rw [hp])
    exact ⟨tys, ty, pos, af, by rw [h2]; rfl⟩
   ·cases h
def Gb : Code → Option (List Oper × List Oper × Operand)
 | .region _ ops false => (match F3 ops.toList with
  | some p => some (ops.toList, p.1, p.2)
  | none => none)
 | _ => none
def LB : Code → Bool
 | .scope _ => true
 | .seq x y => (Gb x).isSome || LB y
 | _ => false
noncomputable def Pl {R : Type} (X : Cx) (tb : List Ent) (tp : List bK) (cl : Clo) (cap : List AV) (fr : Fr) (K : XE → StB → Option R) : XE → StB → Option R
 | .nrm, st => ifS (st.low fr) (C9 X tb tp cl cap (.raw .nilIface) fr st (K .ret)) none
 | .ret, st => ifS (st.low fr) (C9 X tb tp cl cap (.raw .nilIface) fr st (K .ret)) none
 | .panE v, st => ifS (st.low fr) (C9 X tb tp cl cap v fr st (K .ret)) none
 | _, _ => none
noncomputable def GJ {R : Type} (X : Cx) (tb : List Ent) (tp : List bK) (tc : List Clo) : Code → Fr → (XE → StB → Option R) → StB → Option R
 | .scope c, fr, K, st => Ka X tb tp c fr K st
 | .seq x y, fr, K, st => (match Gb x with
  | some p => oY X tb tp (fun v st => K (.panE v) st) p.1 fr p.2.1 [] (nA st) (fun st1 => match opA [] st1.E fr.F none p.2.2 with
   | some (.fn f [] cap) => (match xF tc f with
    | some cl => ifS (AV.aY st1.c cap) (den X tb tp y fr (Pl X tb tp cl cap fr K) st1) none
    | none => none)
   | _ => none)
  | none => ifS (LB y) (den X tb tp x fr (thn (GJ X tb tp tc y fr K) K) (nA st)) (ifS (jn x || jn y) (fL X tb tp tc (.seq x y) fr (Lp K) st) (den X tb tp (.seq x y) fr K st)))
 | c, fr, K, st => den X tb tp c fr K st
section
variable {X : Cx} {tb : List Ent} {tp : List bK} {tc : List Clo} {R : Type} {r : R} {Φ : Ctx} {fn : Func} {S : Value → World → Prop} {Sp : List PanicEntry → World → Prop}
theorem Nd {c : Code} {p : List Oper × List Oper × Operand} (h : Gb c = some p) : ∃ id ops, c = .region id ops false ∧ ops.toList = p.1 ∧ ∃ tys ty pos af, p.1 = p.2.1 ++ [⟨none, .defer ⟨.value p.2.2, #[], tys⟩, ty, pos, af, none⟩] := by
 unfold Gb at h
 split at h
 ·rename_i id ops
  split at h
  ·rename_i q hq
   cases h
   exact ⟨id, ops, rfl, rfl, Fk hq⟩
  ·cases h
 ·cases h
theorem MT (hΓ : ∀ it ∈ X.Γ, it ∈ Φ) (htb : ∀ e ∈ tb, e.Ok X.P X.Γ) (htp : ∀ e ∈ tp, e.Ok X.P X.Γ) (htc : ∀ c ∈ tc, c.Ok X.P) : ∀ (c : Code) {fr : Fr} {K : XE → StB → Option R} {st : StB} {ρ : Nms} {w : World}, Sat (items ρ [] st.G ++ (items ρ [] fr.H ++ Φ)) w →
  GJ X tb tp tc c fr K st = some r → gJ (BP X.P fn S Sp) [] fr Φ st.c ρ r K → WC X.P none c (BP X.P fn S Sp) fr.n [] (ai ρ [] st.E fr.F) w := fun c => by
 induction c with
 | scope c => intro fr K st ρ w hs h hK; exact M6 hΓ htb htp hs h hK
 | seq x y ihx ihy =>
  intro fr K st ρ w hs h hK
  obtain ⟨p1, p2, p3⟩ := E5 (st := st)
  unfold GJ at h
  split at h
  ·rename_i p hp
   obtain ⟨id, ops, rfl, e1, tys, ty, pos, af, e2⟩ := Nd hp
   refine oP (sS ?_)
   obtain ⟨opl⟩ := ops
   simp only at e1
   subst e1
   have hw := rk (σ := none) (D := []) (Q := Exit.then (y.wpIn (FW none) 0 X.P (BP X.P fn S Sp)) (BP X.P fn S Sp)) (ρ := ρ) (w := w) (st := nA st) (rest := [⟨none, .defer ⟨.value p.2.2, #[], tys⟩, ty, pos, af, none⟩]) hΓ htb htp (fun x h => by cases h) (fun x h => by cases h) ⟨fun x _ => rfl, fun x _ => rfl⟩ (by rw [p3]; exact hs) h (fun st1 ρ1 w1 a1 a2 a3 a4 => ?_) (fun v st1 ρ1 w1 a1 a2 a3 a4 => ?_)
   ·rw [p2, ← e2] at hw
    exact hw
   ·split at a3
    ·rename_i f cap hfo
     split at a3
     ·rename_i cl hcl
      obtain ⟨b1, b2⟩ := ar a3
      obtain ⟨c1, c2⟩ := vK htc hcl
      have hfo' := bd (ρ := ρ1) hfo
      simp only [AV.val, AV.ae] at hfo'
      subst c2
      refine JH hfo' (w5 (kE ?_))
      rw [p1] at a1 a2
      refine eD (σ := none) (D := [dfr cl.f (AV.ae ρ1 cap)]) hΓ htb htp y a4 b2 (fun e st2 ρ2 w2 d1 d2 d3 d4 => ?_)
      have hcap : AV.ae ρ2 cap = AV.ae ρ1 cap := AV.aZ d1 _ b1
      have kk : st2.low fr = true → ∀ (st3 : StB) (ρ3 : Nms) (w3 : World), aw st2.c ρ2 ρ3 → st2.c ≤ st3.c → K .ret { st3 with E := st2.E } = some r → Sat (items ρ3 [] st3.G ++ (items ρ3 [] fr.H ++ Φ)) w3 → At (BP X.P fn S Sp) .ret fr.n [] (ai ρ2 [] st2.E fr.F) w3 := fun hl st3 ρ3 w3 f1 f2 f3 f4 => by
       have := hK .ret { st3 with E := st2.E } ρ3 w3 (a1.trans (d1.trans f1 d2) a2) (Nat.le_trans a2 (Nat.le_trans d2 f2)) f3 f4
       rw [← iL hl f1]
       exact this
      rw [← hcap]
      cases e with
      | nrm =>
       obtain ⟨l1, l2⟩ := ar d3
       exact HE c1.1 (zK (u := .returning) (T := fun w' => At (BP X.P fn S Sp) .ret fr.n [] (ai ρ2 [] st2.E fr.F) w') c1 hΓ htb htp d4 (.inl ⟨rfl, rfl, rfl⟩) l2 (kk l1)) (fun _ h => h)
      | ret =>
       obtain ⟨l1, l2⟩ := ar d3
       exact HE c1.1 (zK (u := .returning) (T := fun w' => At (BP X.P fn S Sp) .ret fr.n [] (ai ρ2 [] st2.E fr.F) w') c1 hΓ htb htp d4 (.inl ⟨rfl, rfl, rfl⟩) l2 (kk l1)) (fun _ h => h)
      | ext i => cases d3
      | gto l => cases d3
      | pan v => cases d3
      | panE v =>
       obtain ⟨l1, l2⟩ := ar d3
       have hp := zK (u := .panicking (pan (v.val ρ2))) (T := fun w' => At (BP X.P fn S Sp) .ret fr.n [] (ai ρ2 [] st2.E fr.F) w') c1 hΓ htb htp d4 (.inr ⟨rfl, rfl⟩) l2 (kk l1)
       exact MP c1.1 hp (fun _ h => h)
     ·cases a3
    ·cases a3
   ·rw [p1] at a1 a2
    exact AT (hK (.panE v) st1 ρ1 w1 a1 a2 a3 a4)
  ·rename_i hp
   rcases cm h with ⟨h1, h2⟩ | ⟨_, h2⟩
   ·refine oP ?_
    have := eD (σ := none) (D := []) hΓ htb htp x (fr := fr) (st := nA st) (ρ := ρ) (w := w) (Q := Exit.then (y.wpIn (FW none) 0 X.P (BP X.P fn S Sp)) (BP X.P fn S Sp)) (by rw [p3]; exact hs) h2 (fun e st' ρ' w' a1 a2 a3 a4 => ?_)
    ·rw [p2] at this; exact this
    ·rw [p1] at a1 a2
     by_cases he : e = .nrm
     ·subst he
      exact kE (ihy a4 a3 (hK.less a1 a2))
     ·rw [jA he] at a3
      exact fz he (hK e st' ρ' w' a1 a2 a3 a4)
   ·rcases cm h2 with ⟨_, h3⟩ | ⟨_, h3⟩
    ·exact K0 hΓ htb htp htc (.seq x y) hs h3 hK
    ·exact eD hΓ htb htp (.seq x y) hs h3 hK
 | _ => intro fr K st ρ w hs h hK; exact eD hΓ htb htp _ hs h hK
end
end Go.Proofs.YtpnogcmollnjeaaGreatDoor
namespace Go.Proofs.YtpnogcmollnjeaaGreatDoor
open Go.Lib
def cb : List (Bool × Row) → List Row
 | [] => []
 | x :: R => ifS x.1 (x.2 :: cb R) (cb R)
def gu : List (Bool × Row) → List Row
 | [] => []
 | x :: R => ifS x.1 (gu R) (x.2 :: gu R)
def tZ : List Row → List Nat
 | [] => []
 | r :: G => (match r with
  | .box j _ _ => j :: tZ G
  | _ => tZ G)
def idB : Nat → Nat → List (Option Nat)
 | 0, _ => []
 | n + 1, k => some k :: idB n (k + 1)
def CA : List (Nat × List AV) → List (List AV) → List (Nat × List AV)
 | x :: X, cs :: C => (x.1, cs) :: CA X C
 | _, _ => []
def sZ (X : Cx) (fr : Fr) (st : StB) : ResultVar → Option AV
 | .tmp t => ni st.E fr.F t
 | .cell p t => (match ni st.E fr.F p with
  | some v => (match qT [] st.G fr.H none v with
   | some cs => jv X.P t cs
   | none => none)
  | none => none)
def tN (vs : List AV) : AV := match vs with
 | [v] => v
 | vs => .tuple vs
def KV (e : Ent) (fr : Fr) (st : StB) (v : AV) (fix0 : Nat → Option AV) (fix : Nat → FxA) : List Row := frz (nN st.G fr.H e.r v ++ yc st.G fr.H fix0 fix e.os) st.G
def NU (e : Ent) (fr : Fr) (n : Nat) (G : List Row) (v : AV) (fix0 : Nat → Option AV) (fix : Nat → FxA) : Option (Tup (hol e.r ++ ek e.os)) := match mt G fr.H e.r v none none (idB n 0) with
 | some mr => (match mtV G fr.H fix0 fix e.os mr.B with
  | some mq => ifS (ph ((mr.S ++ mq.S).map fun x => bL G fr.H x.2) && ltT G.length ((mr.S ++ mq.S).map fun x => bL G fr.H x.2)) (tup _ (mr.D ++ mq.D)) none
  | none => none)
 | none => none
def JB (X : Cx) (e : Ent) (fn : Func) (fr : Fr) (n : Nat) (fix0 : Nat → Option AV) (fix : Nat → FxA) (st : StB) : Option (Tup (hol e.r ++ ek e.os)) := match mD (sZ X fr st) fn.results.toList with
 | some rs => NU e fr n (KV e fr st (tN rs) fix0 fix) (tN rs) fix0 fix
 | none => none
abbrev Ps {R : Type} (K : StB → Option R) : XE → StB → Option R
 | .nrm, st => K st
 | .ret, st => K st
 | _, _ => none
noncomputable def JE {R : Type} (X : Cx) (tb : List Ent) (tp : List bK) (tc : List Clo) (h : HT) (fn : Func) (ps : List Pt) (KF : List AV → List Row → Nat → List (Nat × List AV) → XE → StB → Option R) (s : Tup (jU ps)) : Option R :=
 match cB id ps [] 0 (unt _ s) with
 | ⟨vs, R, n, _, XA⟩ => match gS (tZ (cb R)) n (cb R) with
  | (G, Q, c) => match fn.body with
   | none => none
   | some body => ifS (Nat.ble vs.length fn.ntmps && AV.aY n vs && aS n (R.map (·.2))) (
    GJ X tb tp tc body ⟨[], Q ++ gu R, fn.ntmps⟩ (KF vs (Q ++ gu R) n (CA XA (bxs G))) ⟨c, jY 0 vs, G, h⟩) none
noncomputable def OC (X : Cx) (tb : List Ent) (tp : List bK) (tc : List Clo) (h : HT) (fn : Func) (e : Ent) (s : Tup (jU e.ps)) : Option (Tup (hol e.r ++ ek e.os)) :=
 JE X tb tp tc h fn e.ps (fun vs H n XX => Ps (JB X e fn ⟨[], H, fn.ntmps⟩ n (fun (i : Nat) => vs[i]?) (fxK e.ps vs XX))) s
def panV (e : bK) (fr : Fr) (v : AV) (st : StB) : Option (Tup (hol e.pp)) := match mt (frz (nN st.G fr.H e.pp v) st.G) fr.H e.pp v none none [] with
 | some mr => ifS (ph (mr.S.map fun x => bL (frz (nN st.G fr.H e.pp v) st.G) fr.H x.2) && ltT (frz (nN st.G fr.H e.pp v) st.G).length (mr.S.map fun x => bL (frz (nN st.G fr.H e.pp v) st.G) fr.H x.2)) (tup _ mr.D) none
 | none => none
abbrev inT {B : Type} : (nv : Bool) → (r : Pt) → (os : List (Bool × Nat × Pt)) → Option (Tup (hol r ++ ek os)) → Option (Except B (OkT nv r os))
 | true, _, _, _ => none
 | false, _, _, o => o.map .ok
abbrev endP {B : Type} (nv : Bool) (r : Pt) (os : List (Bool × Nat × Pt)) (K : StB → Option (Tup (hol r ++ ek os))) (KP : AV → StB → Option B) : XE → StB → Option (Except B (OkT nv r os))
 | .nrm, st => inT nv r os (K st)
 | .ret, st => inT nv r os (K st)
 | .pan v, st => (KP v st).map .error
 | .panE v, st => (KP v st).map .error
 | _, _ => none
theorem nG : {G H : List Row} → bxs (G ++ H) = bxs G ++ bxs H
 | [], _ => rfl
 | r :: G, H => by
  cases r <;> simp only [List.cons_append, bxs, nG]
theorem mR : {R S : List (Bool × Row)} → cb (R ++ S) = cb R ++ cb S
 | [], _ => rfl
 | x :: R, S => by
  have e : ∀ Q, cb (x :: Q) = ifS x.1 (x.2 :: cb Q) (cb Q) := fun _ => rfl
  rw [List.cons_append, e, e, mR]
  cases x.1 <;> rfl
theorem zd {nm : Nat → Nat} : (t : Ty) → (x : t.T) → (n : Nat) → (o : List (Option TypeId)) → bxs (cb (dQ nm t x n o).R) = []
 | .i _, _, _, _ | .bo, _, _, _ | .s, _, _, _ | .un, _, _, _ | .n, _, _, _ | .mp _ _, _, _, _ => rfl
 | .p a b, x, n, o => by
  unfold dQ
  have h1 := zd (nm := nm) a x.1 n o
  generalize dQ nm a x.1 n o = L at h1
  obtain ⟨u, p, n1, o1⟩ := L
  dsimp only
  have h2 := zd (nm := nm) b x.2 n1 o1
  generalize dQ nm b x.2 n1 o1 = L at h2
  obtain ⟨u2, p2, n2, o2⟩ := L
  show bxs (cb (p ++ p2)) = []
  rw [mR, nG, show bxs (cb p) = [] from h1, show bxs (cb p2) = [] from h2]
  rfl
 | .l t, x, n, o => by
  unfold dQ
  split <;> first | rfl | (rename_i e _; show bxs (cb [(ow e, _)]) = []; unfold cb; cases ow e <;> rfl)
 | .ex, x, n, o => by
  unfold dQ
  split <;> first | rfl | (rename_i e _; show bxs (cb [(ow e, _)]) = []; unfold cb; cases ow e <;> rfl)
mutual
theorem EM {nm : Nat → Nat} : (p : Pt) → (fx : FxA) → (sm : Option AV) → (n : Nat) → (D : List Dyn) → (fill nm p fx sm n D).X.map (·.2) = bxs (cb (fill nm p fx sm n D).R)
 | .int _, _, _, _, _ | .bool, _, _, _, _ | .str, _, _, _, _ | .sli _, _, _, _, _ | .slr _, _, _, _, _ | .ptr _ _, _, _, _, _ | .it, _, _, _, _ | .cst _, _, _, _, _ | .sfp, _, _, _, _ | .same, _, _, _, _ => rfl
 | .own t e m, fx, sm, n, D => by cases m <;> rfl
 | .mp k v m, fx, sm, n, D => by cases m <;> rfl
 | .bx t off m vs, fx, sm, n, D => by
  unfold fill
  have h := ky (nm := nm) vs (rh fx) (n + 1) D
  generalize cB nm vs (rh fx) (n + 1) D = L at h
  obtain ⟨cs, R, k, DD, XX⟩ := L
  have h' : XX.map (·.2) = bxs (cb R) := h
  cases m
  ·exact h'
  ·show reS (nmP nm fx n) vs cs :: XX.map (·.2) = reS (nmP nm fx n) vs cs :: bxs (cb R)
   rw [h']
 | .agg l, fx, sm, n, D => by
  unfold fill
  have h := ky (nm := nm) l [] n D
  generalize cB nm l [] n D = L at h
  obtain ⟨cs, R, k, DD, XX⟩ := L
  exact h
 | .tup l, fx, sm, n, D => by
  unfold fill
  have h := ky (nm := nm) l [] n D
  generalize cB nm l [] n D = L at h
  obtain ⟨cs, R, k, DD, XX⟩ := L
  exact h
 | .fn f a b, fx, sm, n, D => by
  unfold fill
  have h := ky (nm := nm) a [] n D
  generalize cB nm a [] n D = L at h
  obtain ⟨cs, R, k, DD, XX⟩ := L
  dsimp only
  have h2 := ky (nm := nm) b [] k DD
  generalize cB nm b [] k DD = L at h2
  obtain ⟨cs2, R2, k2, DD2, XX2⟩ := L
  show (XX ++ XX2).map (·.2) = bxs (cb (R ++ R2))
  rw [List.map_append, mR, nG, show XX.map (·.2) = bxs (cb R) from h, show XX2.map (·.2) = bxs (cb R2) from h2]
 | .ifc t p, fx, sm, n, D => by
  unfold fill
  have h := EM (nm := nm) p none none n D
  generalize fill nm p none none n D = L at h
  obtain ⟨v, R, k, DD, XX⟩ := L
  exact h
 | .dat t o, fx, sm, n, D => by
  unfold fill
  have h := zd (nm := nm) t (dR t D) n o
  generalize dQ nm t (dR t D) n o = L at h
  obtain ⟨cs, R, k, oo⟩ := L
  exact h.symm
theorem ky {nm : Nat → Nat} : (l : List Pt) → (sms : List AV) → (n : Nat) → (D : List Dyn) → (cB nm l sms n D).X.map (·.2) = bxs (cb (cB nm l sms n D).R)
 | [], _, _, _ => rfl
 | p :: l, sms, n, D => by
  unfold cB
  have h := EM (nm := nm) p none sms.head? n D
  generalize fill nm p none sms.head? n D = L at h
  obtain ⟨cs, R, k, DD, XX⟩ := L
  dsimp only
  have h2 := ky (nm := nm) l sms.tail k DD
  generalize cB nm l sms.tail k DD = L at h2
  obtain ⟨cs2, R2, k2, DD2, XX2⟩ := L
  show (XX ++ XX2).map (·.2) = bxs (cb (R ++ R2))
  rw [List.map_append, mR, nG, show XX.map (·.2) = bxs (cb R) from h, show XX2.map (·.2) = bxs (cb R2) from h2]
end
theorem Ch {ρ ρ' : Nms} : {X : List (Nat × List AV)} → {C : List (List AV)} → C.map (AV.ae ρ') = X.map (fun x => AV.ae ρ x.2) → bZ ρ' (CA X C) = bZ ρ X
 | [], [], _ => rfl
 | [], _ :: _, h => by cases h
 | _ :: _, [], h => by cases h
 | x :: X, cs :: C, h => by
  simp only [List.map_cons, List.cons.injEq] at h
  show (x.1, AV.ae ρ' cs) :: bZ ρ' (CA X C) = (x.1, AV.ae ρ x.2) :: bZ ρ X
  rw [h.1, Ch h.2]
section
variable {w : World} {ρ : Nms}
theorem Sat.OA {A B : Ctx} {x : Item} (h : Sat (A ++ B) w) (hx : x.own = [] ∧ ∀ M w, x.P M w) : Sat (A ++ x :: B) w := by
 refine h.qd (fun j k => (j < A.length ∧ k = j) ∨ (A.length < j ∧ k + 1 = j)) (fun j jt hj => ?_) (fun j k q hjk h1 h2 => by omega)
 by_cases e : j < A.length
 ·rw [List.getElem?_append_left e] at hj
  exact .inr ⟨j, jt, .inl ⟨e, rfl⟩, by rw [List.getElem?_append_left e]; exact hj, aX.refl⟩
 ·rw [List.getElem?_append_right (by omega)] at hj
  by_cases e2 : j = A.length
  ·subst e2
   simp at hj
   subst hj
   exact .inl hx
  ·refine .inr ⟨j - 1, jt, .inr ⟨by omega, by omega⟩, ?_, aX.refl⟩
   rw [List.getElem?_append_right (by omega)]
   have : j - A.length = (j - 1 - A.length) + 1 := by omega
   rw [this, List.getElem?_cons_succ] at hj
   exact hj
theorem Sat.Jd {A B : Ctx} (h : Sat (A ++ B) w) : ∀ (L : List Item), (∀ it ∈ L, it.bU = true ∧ ∀ M w, it.P M w) → Sat (A ++ (L ++ B)) w
 | [], _ => h
 | x :: L, hL => (Sat.Jd h L (fun it hit => hL it (List.mem_cons_of_mem _ hit))).OA ⟨x.hp (hL x (List.mem_cons_self ..)).1, (hL x (List.mem_cons_self ..)).2⟩
theorem Az {Φ : Ctx} {T : Tbl} : ∀ {R : List (Bool × Row)} {A : Ctx}, Sat (A ++ (items ρ T (R.map (·.2)) ++ Φ)) w → Sat (A ++ (items ρ T (cb R) ++ (items ρ T (gu R) ++ Φ))) w
 | [], _, h => h
 | x :: R, A, h => by
  have h1 : Sat ((A ++ [x.2.item ρ T]) ++ (items ρ T (R.map (·.2)) ++ Φ)) w := by simpa [items] using h
  have h2 := Az h1
  unfold cb gu
  cases x.1
  ·have h3 : Sat (A ++ x.2.item ρ T :: (items ρ T (cb R) ++ (items ρ T (gu R) ++ Φ))) w := by simpa using h2
   exact h3.move
  ·simpa [items] using h2
theorem ua {Φ : Ctx} {T : Tbl} : ∀ {R : List (Bool × Row)} {I : Its} {A : Ctx}, cT (RwI ρ T) R I → Sat (A ++ (items ρ T (gu R) ++ Φ)) w → Sat (A ++ (dY I ++ Φ)) w
 | _, _, _, .nil, h => h
 | _, _, A, .cons (a := a) (b := b) (l := l) (m := m) h1 hr, h => by
  unfold gu at h
  show Sat (A ++ (ifS b.1 gq b.2) :: (dY m ++ Φ)) w
  rw [← h1.1]
  cases ha : a.1
  ·rw [ha] at h
   have h2 : Sat (A ++ b.2 :: (items ρ T (gu l) ++ Φ)) w := by
    have h3 : Sat (A ++ a.2.item ρ T :: (items ρ T (gu l) ++ Φ)) w := h
    exact h3.le2 h1.2.2
   have h4 : Sat ((A ++ [b.2]) ++ (items ρ T (gu l) ++ Φ)) w := by simpa using h2
   have := ua hr h4
   simpa using this
  ·rw [ha] at h
   have h3 : Sat (A ++ (items ρ T (gu l) ++ Φ)) w := h
   exact (ua hr h3).OA ⟨rfl, fun _ _ => trivial⟩
theorem CI {c : Nat} : {R : List (Bool × Row)} → aS c (R.map (·.2)) = true → aS c (cb R) = true ∧ aS c (gu R) = true
 | [], _ => ⟨rfl, rfl⟩
 | x :: R, h => by
  simp only [List.map_cons, aS, Bool.and_eq_true] at h
  obtain ⟨h1, h2⟩ := CI h.2
  unfold cb gu
  cases x.1
  ·exact ⟨h1, by show aS c (x.2 :: gu R) = true; simp only [aS, Bool.and_eq_true]; exact ⟨h.1, h2⟩⟩
  ·exact ⟨by show aS c (x.2 :: cb R) = true; simp only [aS, Bool.and_eq_true]; exact ⟨h.1, h1⟩, h2⟩
theorem HV {N : List Nm} : ∀ {M : List Nm} {k : Nat}, (∀ i a, M[i]? = some a → ρ (k + i) = a) → NB ρ (idB M.length k) M
 | [], _, _ => .nil
 | a :: M, k, h => .cons (by
   have := h 0 a rfl
   rw [Nat.add_zero] at this
   exact ⟨by rw [this], by rw [this], by rw [this]⟩) (HV (N := N) fun i b hb => by
   have := h (i + 1) b (by simpa using hb)
   rw [← this]; congr 1; omega)
end
section
variable {X : Cx} {fr : Fr} {st : StB} {ρ : Nms} {Φ : Ctx} {w : World}
theorem Nf (hs : Sat (items ρ [] st.G ++ (items ρ [] fr.H ++ Φ)) w) {r : ResultVar} {v : AV} (h : sZ X fr st r = some v) : kg X.P (ai ρ [] st.E fr.F) w r (v.val ρ) := by
 cases r with
 | tmp t => exact kg.t (qu h)
 | cell p t =>
  unfold sZ at h
  dsimp only at h
  split at h
  ·rename_i u hu
   split at h
   ·rename_i cs hcs
    obtain ⟨ad, e1, hc⟩ := AB hs hcs Tbl.get_none
    have hl := qu (ρ := ρ) hu
    rw [e1] at hl
    have h' : jv X.P t (cs.drop 0) = some v := by simpa using h
    obtain ⟨d, n, bytes, z, c1, c2, c3⟩ := lY (ρ := ρ) h'
    cases hd : iu d
    ·rw [hd] at c3
     simp only [Bool.false_eq_true, if_false] at c3
     exact kg.c1 hl c1 hd hc c3
    ·unfold jv at h
     rw [c1] at h
     rcases cm h with ⟨_, h2⟩ | ⟨h1, _⟩
     ·split at h2
      ·rename_i q hq
       obtain ⟨n, bytes, z⟩ := q
       obtain ⟨h3, h4⟩ := ar h2
       cases h4
       have hle : n ≤ cs.length := Nat.le_of_ble_eq_true h3
       simp only [AV.val]
       refine kg.cA hl c1 hd (cn hq) (vs := AV.ae ρ (cs.take n)) ?_ (by rw [AV.aK, List.length_take, Nat.min_eq_left hle])
       have := hc.sub (us := AV.ae ρ (cs.take n)) 0 (by rw [AV.gR, List.drop_zero, List.length_take, AV.aK, Nat.min_eq_left hle])
       simpa [Addr.add] using this
      ·cases h2
     ·rw [hd] at h1; cases h1
   ·cases h
  ·cases h
theorem KI {rs : List AV} : (if h : (AV.ae ρ rs).length = 1 then (AV.ae ρ rs)[0] else .tuple (AV.ae ρ rs).toArray) = (tN rs).val ρ := by
 match rs with
 | [] => simp [tN, AV.ae, AV.val]
 | [v] => simp [tN, AV.ae]
 | u :: v :: l => simp [tN, AV.ae, AV.val]
theorem Og {fn : Func} {S : Value → World → Prop} {Sp : List PanicEntry → World → Prop} {rs : List AV} (hs : Sat (items ρ [] st.G ++ (items ρ [] fr.H ++ Φ)) w) (h : mD (sZ X fr st) fn.results.toList = some rs) (hS : S ((tN rs).val ρ) w) :
  At (BP X.P fn S Sp) .ret fr.n [] (ai ρ [] st.E fr.F) w := by
 have hlen : ∀ {α β : Type} {f : α → Option β} {l : List α} {ys : List β}, mD f l = some ys → l.length = ys.length := fun {α β f l} => by
  induction l with
  | nil => intro ys h; cases h; rfl
  | cons x l ih =>
   intro ys h
   unfold mD at h
   split at h
   ·split at h
    ·rename_i zs hz; cases h; simp [ih hz]
    ·cases h
   ·cases h
 have hmap : ∀ {l : List ResultVar} {ys : List AV}, mD (sZ X fr st) l = some ys → mD (fun r => (sZ X fr st r).map (AV.val ρ)) l = some (AV.ae ρ ys) := fun {l} => by
  induction l with
  | nil => intro ys h; cases h; simp [mD, AV.ae]
  | cons x l ih =>
   intro ys h
   unfold mD at h ⊢
   split at h
   ·rename_i y hy
    split at h
    ·rename_i zs hz
     cases h
     rw [hy, ih hz]
     simp [AV.ae]
    ·cases h
   ·cases h
 refine Jx (vs := AV.ae ρ rs) (by rw [AV.aK]; exact hlen h) (fun a hf => xQ (g := fun r => (sZ X fr st r).map (AV.val ρ)) (fun r v hv => ?_) (hmap h)) KI hS
 cases hr : sZ X fr st r with
 | none => rw [hr] at hv; cases hv
 | some u =>
  rw [hr] at hv
  cases hv
  exact (Nf hs hr).run hf
end
theorem L6 {R : Type} {X : Cx} {tb : List Ent} {tp : List bK} {tc : List Clo} {h : HT} {fn : Func} {f : FuncId} {ps : List Pt} {KF : List AV → List Row → Nat → List (Nat × List AV) → XE → StB → Option R} {s : Tup (jU ps)} {r : R} {S : Value → World → Prop} {Sp : List PanicEntry → World → Prop}
  (hfn : X.P.funcs[f]? = some fn) (htb : ∀ e ∈ tb, e.Ok X.P X.Γ) (htp : ∀ e ∈ tp, e.Ok X.P X.Γ) (htc : ∀ c ∈ tc, c.Ok X.P) (hd : JE X tb tp tc h fn ps KF s = some r) {vsV : List Value} {N : List Nm} {I : Its} {XX : Bxs} {Φ : Ctx} {w : World}
  (hS : lP ps vsV [] [] (unt _ s) I XX N) (hsat : Sat (ca I ++ Φ) w) (hΓ : ∀ it ∈ X.Γ, it ∈ Φ)
  (fin : ∀ (x : XE) (vs : List AV) (H : List Row) (XA : List (Nat × List AV)) (st : StB) (ρ : Nms) (w' : World), KF vs H N.length XA x st = some r → Sat (items ρ [] st.G ++ (items ρ [] H ++ Φ)) w' → NB ρ (idB N.length 0) N → AV.ae ρ vs = vsV → bZ ρ XA = XX →
   (∀ {A : Ctx} {w2 : World}, Sat (A ++ (items ρ [] H ++ Φ)) w2 → Sat (A ++ (dY I ++ Φ)) w2) → AtX (BP X.P fn S Sp) x ρ fn.ntmps [] (ai ρ [] st.E []) w') : gL X.P f vsV w S Sp := by
 -- names of the arguments
 have hnm : lU (fun (i : Nat) => (N[i]?).getD nm0) id 0 N := fun i a ha => by simp only [id, ha, Option.getD_some]; exact ⟨trivial, trivial, trivial, fun _ => trivial⟩
 have hN0 : ∀ (i : Nat) a, N[i]? = some a → (fun (i : Nat) => (N[i]?).getD nm0) (0 + i) = a := fun i a ha => by simp only [Nat.zero_add, ha, Option.getD_some]
 generalize (fun (i : Nat) => (N[i]?).getD nm0) = ρ at hnm hN0
 obtain ⟨f1, f2, f3, f4, f5⟩ := ki (T := []) (nm := id) ps vsV [] [] (unt _ s) I XX N (by simpa only [AV.ae] using hS) hnm (Nat.zero_le _) []
 have fb := ky (nm := id) ps [] 0 (unt _ s)
 simp only [List.append_nil, List.length_nil] at f1 f2 f3 f4 f5
 unfold JE at hd
 generalize cB id ps [] 0 (unt _ s) = L at f1 f2 f3 f4 f5 fb hd
 obtain ⟨vs, R, n, DD, XA⟩ := L
 simp only at f1 f2 f3 f4 f5 fb
 dsimp only at hd
 subst f2
 generalize hL : gS (tZ (cb R)) N.length (cb R) = L at hd
 obtain ⟨G, Qr, c⟩ := L
 dsimp only at hd
 split at hd
 ·cases hd
 rename_i body hbody
 obtain ⟨h1, h2⟩ := ar hd
 simp only [Bool.and_eq_true] at h1
 obtain ⟨⟨h3, h4⟩, h5⟩ := h1
 obtain ⟨l1, l2⟩ := CI h5
 obtain ⟨ρ1, lk⟩ := sc (ids := tZ (cb R)) (ρ := ρ) l1
 rw [hL] at lk
 have hc : N.length ≤ c := lk.le
 have hs1 : Sat (items ρ [] (R.map (·.2)) ++ Φ) w := Sat.leL (A := []) (B := ca I) (C := Φ) hsat f5.rw
 have hs2 := Az (A := []) hs1
 have e1 : items ρ1 [] G = items ρ [] (cb R) := lk.eq
 have hs3 : Sat (items ρ1 [] G ++ (items ρ1 [] (Qr ++ gu R) ++ Φ)) w := by
  rw [e1, aF, aH lk.ag l2, List.append_assoc]
  exact Sat.Jd (A := items ρ [] (cb R)) (B := items ρ [] (gu R) ++ Φ) hs2 (items ρ1 [] Qr) (fun it hit => by
   obtain ⟨q, hq, rfl⟩ := List.mem_map.1 hit
   exact lk.rp q hq)
 have hvs : AV.ae ρ1 vs = vsV := by rw [AV.aZ lk.ag _ h4, f1]
 refine tz hfn hbody rfl (by rw [← hvs, AV.aK]; exact h3) ?_
 have hE : ai ρ1 [] (jY 0 vs) [] = iota 0 vsV := by
  show al.env ρ1 [] (jY 0 vs) ++ [] = _
  rw [sw, hvs, List.append_nil]
 rw [← hE]
 refine MT (fr := ⟨[], Qr ++ gu R, fn.ntmps⟩) (st := ⟨c, jY 0 vs, G, h⟩) hΓ htb htp htc body hs3 h2 (fun x st' ρ' w' a1 a2 a3 a4 => ?_)
 have hag : aw N.length ρ ρ' := lk.ag.trans (a1.less hc) (Nat.le_refl _)
 refine fin x vs (Qr ++ gu R) (CA XA (bxs G)) st' ρ' w' a3 a4 (HV (N := N) (fun i a ha => by
   have hi : i < N.length := (List.getElem?_eq_some_iff.1 ha).1
   rw [hag _ (by omega)]; exact hN0 i a ha)) (by rw [AV.aZ hag _ h4, f1]) ?_ (fun {A w2} hw => ?_)
 ·rw [f4]
  refine Ch ?_
  have g1 : (bxs G).map (AV.ae ρ') = (bxs G).map (AV.ae ρ1) := s8 a1 lk.lw
  have g2 : (bxs G).map (AV.ae ρ1) = (bxs (cb R)).map (AV.ae ρ) := lk.bx
  rw [g1, g2, ← fb, List.map_map]; rfl
 ·rw [aF, List.append_assoc] at hw
  have p4 := hw.Bh
  have hfr : items ρ' [] (gu R) = items ρ [] (gu R) := aH hag l2
  rw [hfr] at p4
  exact ua f5 p4
theorem EE {X : Cx} {e : Ent} {fn : Func} {S : Value → World → Prop} {Sp : List PanicEntry → World → Prop} {q : Tup (hol e.r ++ ek e.os)} {vsV : List Value} {N : List Nm} {I : Its} {XX : Bxs} {Φ : Ctx} {vs : List AV} {H : List Row} {XA : List (Nat × List AV)} {st : StB} {ρ : Nms} {w' : World}
  (hk : JB X e fn ⟨[], H, fn.ntmps⟩ N.length (fun (i : Nat) => vs[i]?) (fxK e.ps vs XA) st = some q) (a4 : Sat (items ρ [] st.G ++ (items ρ [] H ++ Φ)) w') (hNB : NB ρ (idB N.length 0) N) (hvs' : AV.ae ρ vs = vsV) (hX : bZ ρ XA = XX)
  (hback : ∀ {A : Ctx} {w2 : World}, Sat (A ++ (items ρ [] H ++ Φ)) w2 → Sat (A ++ (dY I ++ Φ)) w2)
  (hSS : ∀ v w', (∃ (N1 N2 : List Nm) (D1 D2 : List Dyn) (I1 I2 : Its) (X1 X2 : Bxs), Sem e.r v none none N D1 I1 X1 N1 ∧ qj (fxS e.ps vsV XX) (fun (i : Nat) => vsV[i]?) e.os N1 D2 I2 X2 N2 ∧ D1 ++ D2 = unt _ q ∧ Sat ((ca I1 ++ ca I2) ++ (dY I ++ Φ)) w') → S v w') :
  At (BP X.P fn S Sp) .ret fn.ntmps [] (ai ρ [] st.E []) w' := by
 unfold JB at hk
 split at hk
 ·rename_i rs hrs
  refine Og (fr := ⟨[], H, fn.ntmps⟩) a4 hrs (hSS _ _ ?_)
  generalize tN rs = v at hk
  have b4 := iS (ids := nN st.G H e.r v ++ yc st.G H (fun (i : Nat) => vs[i]?) (fxK e.ps vs XA) e.os) a4
  change Sat (items ρ [] (KV e ⟨[], H, fn.ntmps⟩ st v (fun (i : Nat) => vs[i]?) (fxK e.ps vs XA)) ++ _) w' at b4
  generalize KV e ⟨[], H, fn.ntmps⟩ st v (fun (i : Nat) => vs[i]?) (fxK e.ps vs XA) = G' at hk b4
  unfold NU at hk
  split at hk
  ·rename_i mr hmr
   split at hk
   ·rename_i mq hmq
    obtain ⟨k1, k2⟩ := ar hk
    simp only [Bool.and_eq_true] at k1
    obtain ⟨N1, I1, s1, n1, q1⟩ := yf b4 e.r v none none _ mr N hmr hNB (fun q hq => by cases hq)
    obtain ⟨N2, I2, s2, n2, q2⟩ := xH b4 e.os mr.B mq N1 hmq n1
    have hfx : (fun i => ie ρ (fxK e.ps vs XA i)) = fxS e.ps vsV XX := by
     funext i
     rw [← E1, hvs', hX]
    have hval : (fun (i : Nat) => (vs[i]?).map (AV.val ρ)) = fun (i : Nat) => vsV[i]? := by
     funext i
     rw [← hvs', zy]
    rw [hfx, hval] at s2
    obtain ⟨p1, _⟩ := xD b4 (q1.append q2)
    obtain ⟨p2, _⟩ := oq b4 p1 (oh k1.1)
    rw [rz k1.2] at p2
    have p3 := p2.Bh
    have p5 := hback p3
    refine ⟨N1, N2, mr.D, mq.D, I1, I2, _, _, s1, s2, (qV _ k2).symm, ?_⟩
    simpa [ca] using p5
   ·cases hk
  ·cases hk
 ·cases hk
theorem NY {X : Cx} {tb : List Ent} {tp : List bK} {tc : List Clo} {h : HT} {fn : Func} {e : Ent} (hen : Enters X.P e.f) (hfn : X.P.funcs[e.f]? = some fn) (htb : ∀ e ∈ tb, e.Ok X.P X.Γ) (htp : ∀ e ∈ tp, e.Ok X.P X.Γ) (htc : ∀ c ∈ tc, c.Ok X.P) (hm : ∀ s r, e.m s = some r → OC X tb tp tc h fn e s = some r) : e.Ok X.P X.Γ := by
 refine ⟨hen, fun s r hr vsV N I XX Φ w hS hsat hΓ => ?_⟩
 refine L6 hfn htb htp htc (hm s r hr) hS hsat hΓ (fun x vs H XA st ρ w' hk a4 hNB hvs hX hback => ?_)
 cases x with
 | nrm => exact EE hk a4 hNB hvs hX hback (fun _ _ h => h)
 | ret => exact EE hk a4 hNB hvs hX hback (fun _ _ h => h)
 | ext i => cases hk
 | gto l => cases hk
 | pan v => cases hk
 | panE v => cases hk
theorem mC {X : Cx} {A B : Type} {E : (A → Option B) → Ent} {F : (A → Option B) → A → Option B} (h0 : (E fun _ => none).Ok X.P X.Γ) (step : ∀ k, (E k).Ok X.P X.Γ → (E (F k)).Ok X.P X.Γ) : ∀ n, (E (an F n)).Ok X.P X.Γ
 | 0 => h0
 | n + 1 => step _ (mC h0 step n)
theorem ay {X : Cx} {tb : List Ent} {tp : List bK} {tc : List Clo} {fn : Func} {e : Ent} (h : HT) (hen : Enters X.P e.f) (hfn : X.P.funcs[e.f]? = some fn) (htb : ∀ e ∈ tb, e.Ok X.P X.Γ) (htp : ∀ e ∈ tp, e.Ok X.P X.Γ) (htc : ∀ c ∈ tc, c.Ok X.P) (eq : ∀ s, OC X tb tp tc h fn e s = e.m s) : e.Ok X.P X.Γ :=
 NY hen hfn htb htp htc fun s _ hr => (eq s).trans hr
theorem ok0 {E : Type} {p : E → Prop} : ∀ e ∈ ([] : List E), p e := fun _ h => by cases h
theorem ok1 {E : Type} {p : E → Prop} {x : E} {l : List E} (hx : p x) (hl : ∀ e ∈ l, p e) : ∀ e ∈ x :: l, p e := fun e he => by
 rcases List.mem_cons.1 he with rfl | he
 ·exact hx
 ·exact hl e he
end Go.Proofs.YtpnogcmollnjeaaGreatDoor
namespace Go.Proofs.YtpnogcmollnjeaaGreatDoor
def ze (x : Int) : Bool := decide (-9223372036854775808 ≤ x) && decide (x ≤ 9223372036854775807)
theorem B8 {x : Int} : ze x = true ↔ -9223372036854775808 ≤ x ∧ x ≤ 9223372036854775807 := by simp [ze]
end Go.Proofs.YtpnogcmollnjeaaGreatDoor
