/-
  Own texts for the statement ModelJoins, cut down to what it needs: B18, B19, B20, B21, B26, B28, B29, B27, B22, KIt. (cut and joined by a program)
-/
import Derived.Test.YtdhgpnejphlfpaaDoorModelJoinsA
import Derived.Test.YtdhgpnejphlfpaaDoorModelJoinsB
import Derived.Test.YtdhgpnejphlfpaaDoorModelJoinsC
import Derived.Lib.ItoaNum
namespace Go.Proofs.YtdhgpnejphlfpaaDoor
open Go.Lib
abbrev Ha {R : Type} (fr : Fr) (KP : AV → StB → Option R) (T : Tbl) (v : AV) (st : StB) : Option R := ifS (wK T fr st) (KP v (oS T st)) none
noncomputable def qT {R : Type} (X : Cx) (tb : List Ent) (tp : List bc) (KP : AV → StB → Option R) (ops : List Oper) (fr : Fr) : List Oper → Tbl → StB → Go_ R → Option R
 | [], T, st, K => ifS (wK T fr st) (K (oS T st)) none
 | o :: l, T, st, K => match GR tp T fr st o (Ha fr KP T) (fun st => qT X tb tp KP ops fr l T st K) with
  | some q => q
  | none => stepG ops T fr st o fun T g => opD X tb T fr st g o fun st => qT X tb tp KP ops fr l T st K
section
variable {R : Type} {X : Cx} {tb : List Ent} {tp : List bc} {KP : AV → StB → Option R} {σ : Option Nat} {Q : aC} {D : List Deferred} {ops : List Oper} {r : R} {fr : Fr} {Φ : Ctx} {K : Go_ R}
theorem FK {T : Tbl} {v : AV} {st : StB} {ρ : Nms} {w : World} (hf : FT T fr) (h : Ha fr KP T v st = some r) (hs : Sat (items ρ T st.G ++ (items ρ T fr.H ++ Φ)) w) :
  ∃ st', KP v st' = some r ∧ st'.c = st.c ∧ gB (ai ρ [] st'.E fr.F) (ai ρ T st.E fr.F) ∧ Sat (items ρ [] st'.G ++ (items ρ [] fr.H ++ Φ)) w := by
 unfold Ha at h
 obtain ⟨h3, h4⟩ := al h
 obtain ⟨k1, k2, k3⟩ := uD h3 hf hs
 exact ⟨_, h4, k1, k2, k3⟩
theorem uN {rest : List Oper} (hΓ : ∀ it ∈ X.Γ, it ∈ Φ) (htb : ∀ e ∈ tb, e.Ok X.P X.Γ) (htp : ∀ e ∈ tp, e.Ok X.P X.Γ) : ∀ {l : List Oper} {T : Tbl} {st : StB} {ρ : Nms} {w : World}, dq T st.E fr.F → jW ops fr.n T → FT T fr → Sat (items ρ T st.G ++ (items ρ T fr.H ++ Φ)) w →
  qT X tb tp KP ops fr l T st K = some r →
  (∀ st' ρ' w', ax st.c ρ ρ' → st.c ≤ st'.c → K st' = some r → Sat (items ρ' [] st'.G ++ (items ρ' [] fr.H ++ Φ)) w' → WL X.P σ ops.toArray Q fr.n D rest (ai ρ' [] st'.E fr.F) w') →
  (∀ v st' ρ' w', ax st.c ρ ρ' → st.c ≤ st'.c → KP v st' = some r → Sat (items ρ' [] st'.G ++ (items ρ' [] fr.H ++ Φ)) w' → At Q (.panic (pan (v.val ρ'))) fr.n D (ai ρ' [] st'.E fr.F) w') →
  WL X.P σ ops.toArray Q fr.n D (l ++ rest) (ai ρ T st.E fr.F) w
 | [], T, st, ρ, w, h1, h2, hf, hs, h, next, pnext => by
  unfold qT at h
  obtain ⟨h3, h4⟩ := al h
  obtain ⟨k1, k2, k3⟩ := uD h3 hf hs
  exact fun a hf hd => next _ ρ w .refl (by rw [k1]; exact Nat.le_refl _) h4 k3 a (hf.jh k2) hd
 | o :: l, T, st, ρ, w, h1, h2, hf, hs, h, next, pnext => by
  unfold qT at h
  split at h
  ·rename_i q hq
   subst h
   refine MG h1 hs hΓ htp hq (fun st' ρ' w' a1 a4 a5 a6 a7 a8 => ?_) (fun v st' ρ' w' a1 a2 a3 ae1 ae2 a4 => ?_)
   ·exact uN hΓ htb htp a1 h2 hf a8 a6 (fun st2 ρ2 w2 b1 b2 b3 b4 => next st2 ρ2 w2 (a4.trans b1 a5) (Nat.le_trans a5 b2) b3 b4) (fun v st2 ρ2 w2 b1 b2 b3 b4 => pnext v st2 ρ2 w2 (a4.trans b1 a5) (Nat.le_trans a5 b2) b3 b4)
   ·obtain ⟨st2, k1, k2, k4, k3⟩ := FK hf a3 a4
    exact (pnext v st2 ρ' w' a1 (by omega) k1 k3).jh _ k4
  ·exact EC (K := fun T st => qT X tb tp KP ops fr l T st K) h1 h2 rfl (fun _ h => h) hf hs hΓ htb h (fun T' st' ρ' w' a1 a2 a3 a4 a5 a6 a7 a8 =>
    uN hΓ htb htp a1 a2 a3 a8 a6 (fun st2 ρ2 w2 b1 b2 b3 b4 => next st2 ρ2 w2 (a4.trans b1 a5) (Nat.le_trans a5 b2) b3 b4) (fun v st2 ρ2 w2 b1 b2 b3 b4 => pnext v st2 ρ2 w2 (a4.trans b1 a5) (Nat.le_trans a5 b2) b3 b4))
theorem Fm (hΓ : ∀ it ∈ X.Γ, it ∈ Φ) (htb : ∀ e ∈ tb, e.Ok X.P X.Γ) (htp : ∀ e ∈ tp, e.Ok X.P X.Γ) {l : List Oper} {T : Tbl} {st : StB} {ρ : Nms} {w : World} (h1 : dq T st.E fr.F) (h2 : jW ops fr.n T) (hf : FT T fr) (hs : Sat (items ρ T st.G ++ (items ρ T fr.H ++ Φ)) w)
  (h : qT X tb tp KP ops fr l T st K = some r)
  (next : ∀ st' ρ' w', ax st.c ρ ρ' → st.c ≤ st'.c → K st' = some r → Sat (items ρ' [] st'.G ++ (items ρ' [] fr.H ++ Φ)) w' → At Q .normal fr.n D (ai ρ' [] st'.E fr.F) w')
  (pnext : ∀ v st' ρ' w', ax st.c ρ ρ' → st.c ≤ st'.c → KP v st' = some r → Sat (items ρ' [] st'.G ++ (items ρ' [] fr.H ++ Φ)) w' → At Q (.panic (pan (v.val ρ'))) fr.n D (ai ρ' [] st'.E fr.F) w') :
  WL X.P σ ops.toArray Q fr.n D l (ai ρ T st.E fr.F) w := by
 have := uN (σ := σ) (Q := Q) (D := D) (rest := []) hΓ htb htp h1 h2 hf hs h (fun st' ρ' w' a1 a2 a3 a4 => zQ (next st' ρ' w' a1 a2 a3 a4)) pnext
 rwa [List.append_nil] at this
end
def iB (c : Nat) : List AV → List AV × List Row × Nat
 | [] => ([], [], c)
 | v :: vs => match v with
  | .nv u => match iB c vs with
   | (cs, R, c) => (.nv u :: cs, R, c)
  | v => match iB (c + 1) vs with
   | (cs, R, c') => (.nv c :: cs, .eq c v :: R, c')
structure ME (c : Nat) (vs : List AV) (ρ ρ' : Nms) (x : List AV × List Row × Nat) : Prop where
 ag : ax c ρ ρ'
 le : c ≤ x.2.2
 eq : AV.ae ρ' x.1 = AV.ae ρ vs
 lw : AV.aY x.2.2 x.1 = true
 rl : aO x.2.2 x.2.1 = true
 rp : ∀ r ∈ x.2.1, (r.item ρ' []).cC = true ∧ ∀ M w, (r.item ρ' []).P M w
 rg : ∀ r ∈ x.2.1, r.gd = none
theorem o8 {c d : Nat} (hcd : c ≤ d) : {G : List Row} → aO c G = true → aO d G = true
 | [], _ => rfl
 | r :: G, h => by
  simp only [aO, Bool.and_eq_true] at h ⊢
  exact ⟨Row.dK hcd h.1, o8 hcd h.2⟩
theorem lR {c : Nat} : {G H : List Row} → aO c G = true → aO c H = true → aO c (G ++ H) = true
 | [], _, _, h => h
 | r :: G, H, h, k => by
  simp only [List.cons_append, aO, Bool.and_eq_true] at h ⊢
  exact ⟨h.1, lR h.2 k⟩
theorem uQ : {vs : List AV} → {c : Nat} → {ρ : Nms} → AV.aY c vs = true → ∃ ρ', ME c vs ρ ρ' (iB c vs)
 | [], c, ρ, h => ⟨ρ, .refl, Nat.le_refl _, rfl, rfl, rfl, (fun _ h => by cases h), fun _ h => by cases h⟩
 | v :: vs, c, ρ, h => by
  simp only [AV.aY, Bool.and_eq_true] at h
  have other : (∀ u, v ≠ .nv u) → iB c (v :: vs) = (match iB (c + 1) vs with | (cs, R, c') => (.nv c :: cs, .eq c v :: R, c')) → ∃ ρ', ME c (v :: vs) ρ ρ' (iB c (v :: vs)) := fun _ e => by
   have a1 : ax c ρ (ρ.set c { nm0 with x := v.val ρ }) := Nms.aF
   obtain ⟨ρ', l⟩ := uQ (c := c + 1) (ρ := ρ.set c { nm0 with x := v.val ρ }) (AV.gI (Nat.le_succ c) _ h.2)
   rw [e]
   generalize iB (c + 1) vs = L at l
   obtain ⟨cs, R, c'⟩ := L
   have hag : ax c ρ ρ' := a1.trans l.ag (Nat.le_succ _)
   have hx : (ρ' c).x = v.val ρ := by rw [l.ag _ (Nat.lt_succ_self _), Nms.aV]
   have hle : c + 1 ≤ c' := l.le
   refine ⟨ρ', hag, Nat.le_trans (Nat.le_succ _) l.le, ?_, ?_, ?_, ?_, ?_⟩
   ·simp only [AV.ae, AV.val, hx]
    rw [l.eq, AV.aX a1 _ h.2]
   ·simp only [AV.aY, AV.low, Bool.and_eq_true, Nat.blt_eq]
    exact ⟨by omega, l.lw⟩
   ·simp only [aO, Row.low, Bool.and_eq_true, Nat.blt_eq]
    exact ⟨⟨by omega, AV.dK (by omega) _ h.1⟩, l.rl⟩
   ·intro r hr
    rcases List.mem_cons.1 hr with rfl | hr
    ·exact ⟨rfl, fun M w => by show (ρ' c).x = v.val ρ'; rw [hx, AV.iF hag _ h.1]⟩
    ·exact l.rp r hr
   ·intro r hr
    rcases List.mem_cons.1 hr with rfl | hr
    ·rfl
    ·exact l.rg r hr
  cases v with
  | nv u =>
   obtain ⟨ρ', l⟩ := uQ (c := c) (ρ := ρ) h.2
   unfold iB
   dsimp only
   generalize iB c vs = L at l
   obtain ⟨cs, R, c'⟩ := L
   refine ⟨ρ', l.ag, l.le, ?_, ?_, l.rl, l.rp, l.rg⟩
   ·simp only [AV.ae]
    rw [l.eq, AV.iF l.ag _ h.1]
   ·simp only [AV.aY, Bool.and_eq_true]
    exact ⟨AV.dK l.le _ h.1, l.lw⟩
  | _ => exact other (fun u h => by cases h) rfl
/-! regions that draw their order -/
noncomputable def IC {R : Type} (X : Cx) (T : Tbl) (fr : Fr) (st : StB) (g : GK) (op : Op) (dst : Option Tmp) (K : Go_ R) : Option R := match op, dst with
 | .indexAddr t x y, some d => (match fF X.P t with
  | some _ => Ig X T fr st g d t x y K
  | none => Ch X T fr st g d t x y K)
 | .slice t x lo hi mx, some d => GN X T fr st g d t x lo hi mx K
 | .call ⟨.builtin .unsafeSliceData, ⟨[x]⟩, _⟩, some d => gone g (Cp T fr st d x K)
 | .call ⟨.builtin .len, ⟨[x]⟩, ⟨[t]⟩⟩, some d => GO X T fr st g d t x K
 | _, _ => none
noncomputable def D8 {R : Type} (X : Cx) (T : Tbl) (fr : Fr) (st : StB) (g : GK) (o : Oper) (K : Go_ R) : Option R :=
 match GD X T st.E fr.F g o.op with
 | some cv => va cv.1 (g.map fun _ => T.get g) (K { st with E := bT o.dst g cv.2 st.E })
 | none => match G7 X T st.E fr.F [] fr.H g o.op with
  | some cv => va cv.1 (g.map fun _ => T.get g) (K { st with E := bT o.dst g cv.2 st.E })
  | none => ifS (st.low fr) (IC X T fr st g o.op o.dst K) none
def aL (p : Row → Bool) : List Row → List Row
 | [] => []
 | r :: G => ifS (p r) (r :: aL p G) (aL p G)
def cg (r : Row) : Bool := !r.cC
theorem Sat.move {A B C : Ctx} {x : Item} {w : World} (h : Sat (A ++ x :: (B ++ C)) w) : Sat (A ++ (B ++ x :: C)) w := by
 refine h.qi (fun j k => (j < A.length ∧ k = j) ∨ (A.length ≤ j ∧ j < A.length + B.length ∧ k = j + 1) ∨ (j = A.length + B.length ∧ k = A.length) ∨ (A.length + B.length < j ∧ k = j)) (fun j jt hj => ?_) (fun j k q hjk h1 h2 => by omega)
 by_cases e : j < A.length
 ·rw [List.getElem?_append_left e] at hj
  exact .inr ⟨j, jt, .inl ⟨e, rfl⟩, by rw [List.getElem?_append_left e]; exact hj, aU.refl⟩
 ·rw [List.getElem?_append_right (by omega)] at hj
  by_cases e2 : j < A.length + B.length
  ·rw [List.getElem?_append_left (by omega)] at hj
   refine .inr ⟨j + 1, jt, .inr (.inl ⟨by omega, e2, rfl⟩), ?_, aU.refl⟩
   rw [List.getElem?_append_right (by omega)]
   have : j + 1 - A.length = (j - A.length) + 1 := by omega
   rw [this, List.getElem?_cons_succ, List.getElem?_append_left (by omega)]
   exact hj
  ·rw [List.getElem?_append_right (by omega)] at hj
   by_cases e3 : j = A.length + B.length
   ·subst e3
    rw [show A.length + B.length - A.length - B.length = 0 by omega] at hj
    simp at hj
    subst hj
    exact .inr ⟨A.length, x, .inr (.inr (.inl ⟨rfl, rfl⟩)), by simp, aU.refl⟩
   ·refine .inr ⟨j, jt, .inr (.inr (.inr ⟨by omega, rfl⟩)), ?_, aU.refl⟩
    rw [List.getElem?_append_right (by omega)]
    have e4 : j - A.length - B.length = (j - A.length - B.length - 1) + 1 := by omega
    rw [e4, List.getElem?_cons_succ] at hj
    have e5 : j - A.length = (j - A.length - 1) + 1 := by omega
    rw [e5, List.getElem?_cons_succ, List.getElem?_append_right (by omega)]
    have e6 : j - A.length - 1 - B.length = j - A.length - B.length - 1 := by omega
    rw [e6]; exact hj
theorem Sat.qn {w : World} {B : Ctx} : ∀ {A : Ctx}, Sat (A ++ B) w → Sat B w
 | [], h => h
 | _x :: A, h => Sat.qn (A := A) (Sat.sf (A := []) h)
section
variable {ρ : Nms} {T : Tbl} {w : World}
theorem oI {p : Row → Bool} {H : List Row} {Φ : Ctx} : ∀ {G : List Row} {A : Ctx}, Sat (A ++ (items ρ T G ++ (items ρ T H ++ Φ))) w → Sat (A ++ (items ρ T (aL p G) ++ (items ρ T (aL (fun r => !(p r)) G ++ H) ++ Φ))) w
 | [], _, h => h
 | r :: G, A, h => by
  unfold aL
  cases hp : p r
  ·have h1 : Sat ((A ++ [r.item ρ T]) ++ (items ρ T G ++ (items ρ T H ++ Φ))) w := by simpa [items] using h
   have h2 := oI (p := p) (G := G) h1
   have h3 : Sat (A ++ r.item ρ T :: (items ρ T (aL p G) ++ (items ρ T (aL (fun r => !(p r)) G ++ H) ++ Φ))) w := by simpa using h2
   exact h3.move
  ·have h1 : Sat ((A ++ [r.item ρ T]) ++ (items ρ T G ++ (items ρ T H ++ Φ))) w := by simpa [items] using h
   have h2 := oI (p := p) (G := G) h1
   simpa [items] using h2
end
abbrev frM (fr : Fr) (A : List Row) (st : StB) : Fr := ⟨fr.F, aL (fun r => !(cg r)) st.G ++ (A ++ fr.H), fr.n⟩
abbrev stM (st : StB) : StB := { st with G := aL cg st.G }
abbrev Pdg := Nat × Nat × Nat × List Nat
def xi : List AV → Option (List Nat)
 | [] => some []
 | v :: l => (match v with
  | .nv u => (match xi l with
   | some us => some (u :: us)
   | none => none)
  | _ => none)
def Il : List AV → List Nat → Bool
 | _, [] => true
 | l, n :: ns => (match l with
  | .nv u :: l => Nat.beq u n && Il l ns
  | _ => false)
def pdB (G : List Row) : List Pdg → Bool
 | [] => true
 | x :: Pd => (match lx (sN x.2.1) G with
  | some (_, .box _ _ cs) => !(Nat.beq x.2.2.1 1000000000) && Il (cs.drop x.2.2.1) x.2.2.2
  | _ => false) && pdB G Pd
def dx (ops : List Oper) (k : Nat) : List Pdg → List Pdg
 | [] => []
 | x :: Pd => ifS (waits .any ops.toArray k x.1) (dx ops k Pd) (x :: dx ops k Pd)
def szA (P : Program) (t : TypeId) : Option Nat := match P.underlying t with
 | some d => ifS (ji d) (match tiA P t with
  | some z => some z.1
  | none => none) (some 1)
 | none => none
def GI {R : Type} (X : Cx) (T : Tbl) (fr : Fr) (st : StB) (g : GK) (k : Nat) (o : Oper) (K : List Row → Pdg → StB → Option R) : Option (Option R) := match o.op, o.dst with
 | .load t x, some d => (match opA T st.E fr.F g x with
  | some (.ptr id off) => (match lx (sN id) st.G with
   | some (j, .box _ bt cs) => some (match szA X.P t with
    | some n => (match kS X.P t ((cs.drop off).map (nw st.G fr.H)) with
     | some v => (match xi (iB st.c ((cs.drop off).take n)).1 with
      | some us => ifS (st.low fr && v.low st.c && Nat.ble (off + n) cs.length && !(Nat.beq off 1000000000)) (
        K (iB st.c ((cs.drop off).take n)).2.1 (k, id, off, us) { st with c := (iB st.c ((cs.drop off).take n)).2.2, E := bT (some d) g v st.E, G := st.G.set j (.box id bt (mA cs off (iB st.c ((cs.drop off).take n)).1)) } ) none
      | none => none)
     | none => none)
    | none => none)
   | _ => none)
  | _ => none)
 | _, _ => none
def ML (T : Tbl) (fr : Fr) (st : StB) (g : GK) (o : Oper) : Option (Tmp × TypeId × Nat × Nat) := match o.op, o.dst with
 | .load t x, some d => (match opA T st.E fr.F g x with
  | some (.adr q off) => (match tC T [] fr.H g (.adr q off) with
   | some _ => none
   | none => (match cX st.G fr.H (y4 q) with
    | some _ => some (d, t, q, off)
    | none => none))
  | _ => none)
 | _, _ => none
noncomputable def xf {R : Type} (X : Cx) (tb : List Ent) (tp : List bc) (KP : AV → StB → Option R) (ops : List Oper) (fr : Fr) (A : List Row) (T : Tbl) (st : StB) (o : Oper) (K : Tbl → Go_ R) : Option R :=
 match GR tp T (frM fr A st) (stM st) o (fun v st' => Ha fr KP T v { st' with G := st'.G ++ (aL (fun r => !(cg r)) st.G ++ A) }) (K T) with
 | some q => q
 | none => stepG ops T (frM fr A st) (stM st) o fun T g => opD X tb T (frM fr A st) (stM st) g o (K T)
def Px (X : Cx) (T : Tbl) (fr : Fr) (st : StB) (ops : List Oper) (k : Nat) (fl : List Nat) (rest : OT) (f : Nat) : Bool := (match ops[f]? with
 | some o => (match vn X T fr st o, o.dst with
  | some _, some d => gq o && Nat.blt d fr.n && (match cN st.E fr.F d with | some _ => false | none => true) && (o.looksAt ops.toArray).all (fun t => !(Nat.beq t d))
  | _, _ => false)
 | none => false) && (k :: rest.ops).all (fun j => ki ops.toArray j f) && (fl ++ rest.fls).all (fun j => Nat.beq j f || ki ops.toArray j f)
def GV {R : Type} (X : Cx) (ops : List Oper) (fr : Fr) (T : Tbl) : List Nat → StB → Go_ R → Option R
 | [], st, K => K st
 | f :: fs, st, K => (match ops[f]? with
  | some o => ifS (jC o.dst T && !(bY f fs)) (Lo X T fr st o fun st => GV X ops fr T fs st K) none
  | none => none)
abbrev frA (fr : Fr) (A : List Row) : Fr := ⟨fr.F, A ++ fr.H, fr.n⟩
noncomputable def j3 {R : Type} (X : Cx) (tb : List Ent) (tp : List bc) (KP : AV → StB → Option R) (ops : List Oper) (fr : Fr) : OT → List Row → List Pdg → Tbl → StB → Go_ R → Option R
 | .nil, A, _, T, st, K => ifS (wK T fr { st with G := st.G ++ A }) (K (oS T { st with G := st.G ++ A })) none
 | .q k _ rest, A, Pd, T, st, K => (match ops[k]? with
  | some o => stepG ops T (frM fr A st) (stM st) o fun T g => match GI X T (frM fr A st) (stM st) g k o (fun R p st' => j3 X tb tp KP ops fr rest (R ++ (aL (fun r => !(cg r)) st.G ++ A)) (p :: Pd) T st' K) with
   | some q => q
   | none => (match ML T (frM fr A st) (stM st) g o with
    | some p => ifS ((stM st).low (frM fr A st)) (Aj X T (frM fr A st) (stM st) g p.1 p.2.1 p.2.2.1 p.2.2.2 fun st' => j3 X tb tp KP ops fr rest (aL (fun r => !(cg r)) st.G ++ A) ((k, p.2.2.1, 1000000000, []) :: Pd) T st' K) none
    | none => D8 X T (frM fr A st) (stM st) g o fun st' => j3 X tb tp KP ops fr rest (aL (fun r => !(cg r)) st.G ++ A) Pd T st' K)
  | none => none)
 | .l k _ rest, A, Pd, T, st, K => (match ops[k]? with
  | some o => xf X tb tp KP ops fr A T st o fun T st' => ifS (pdB st'.G (dx ops k Pd)) (j3 X tb tp KP ops fr rest (aL (fun r => !(cg r)) st.G ++ A) (dx ops k Pd) T st' K) none
  | none => none)
 | .l2 _ k₁ r₁ k₂ r₂, A, Pd, T, st, K => both
  (match ops[k₁]? with
  | some o => xf X tb tp KP ops fr A T st o fun T st' => ifS (pdB st'.G (dx ops k₁ Pd)) (j3 X tb tp KP ops fr r₁ (aL (fun r => !(cg r)) st.G ++ A) (dx ops k₁ Pd) T st' K) none
  | none => none)
  (match ops[k₂]? with
  | some o => xf X tb tp KP ops fr A T st o fun T st' => ifS (pdB st'.G (dx ops k₂ Pd)) (j3 X tb tp KP ops fr r₂ (aL (fun r => !(cg r)) st.G ++ A) (dx ops k₂ Pd) T st' K) none
  | none => none)
 | .f k _ fl fs rest, A, Pd, T, st, K => ifS (fl.all (Px X T (frA fr A) st ops k fl rest) && pdB st.G Pd) (GV X ops (frA fr A) T fs st fun st => (match ops[k]? with
  | some o => xf X tb tp KP ops fr A T st o fun T st' => ifS (pdB st'.G (dx ops k Pd)) (j3 X tb tp KP ops fr rest (aL (fun r => !(cg r)) st.G ++ A) (dx ops k Pd) T st' K) none
  | none => none)) none
section
variable {R : Type} {X : Cx} {tb : List Ent} {tp : List bc} {KP : AV → StB → Option R} {σ : Option Nat} {Q : aC} {D : List Deferred} {ops : List Oper} {r : R} {fr : Fr} {Φ : Ctx} {K : Go_ R}
theorem II {T : Tbl} {st : StB} {g : GK} {o : Oper} {ρ : Nms} {w : World} (hΓ : ∀ it ∈ X.Γ, it ∈ Φ) (hT : dq T st.E fr.F) (hs : Sat (items ρ T st.G ++ (items ρ T fr.H ++ Φ)) w) (h : D8 X T fr st g o K = some r) :
  ∃ (v : Value) (J : World → Prop), (∀ w', (∃ Φ', Sat (items ρ T fr.H ++ Φ') w') → J w') ∧ (∀ w', J w' → Run X.P (ai ρ T st.E fr.F) (T.get g) o w' v) ∧ aA r K T fr st g o.dst ρ Φ v w := by
 obtain ⟨dst, op, ty, pos, af, gd⟩ := o
 unfold D8 at h
 simp only at h
 have okq : ∀ {O : Value → World → Prop}, Okq X.P T g (ai ρ T st.E fr.F) ⟨dst, op, ty, pos, af, gd⟩ w O → ∃ (v : Value) (J : World → Prop), (∀ w', (∃ Φ', Sat (items ρ T fr.H ++ Φ') w') → J w') ∧ (∀ w', J w' → Run X.P (ai ρ T st.E fr.F) (T.get g) ⟨dst, op, ty, pos, af, gd⟩ w' v) ∧ O v w := fun h => by
  obtain ⟨v, h1, h2⟩ := h
  exact ⟨v, fun _ => True, fun _ _ => trivial, fun w' _ => h1 w', h2⟩
 split at h
 ·rename_i cv hcv
  obtain ⟨h1, h2⟩ := kK h
  exact okq ⟨_, fun w' => Dy hT hcv h1, aA.old h2 (Nat.le_refl _) rfl rfl hs⟩
 ·split at h
  ·rename_i cv hcv
   obtain ⟨h1, h2⟩ := kK h
   refine ⟨_, fun w' => ∃ Φ', Sat (items ρ T fr.H ++ Φ') w', fun _ h => h, fun w' hw => ?_, aA.old h2 (Nat.le_refl _) rfl rfl hs⟩
   obtain ⟨Φ', hΦ⟩ := hw
   exact DQ (G := []) (Φ := Φ') hΦ hcv h1
  ·obtain ⟨h1, h2⟩ := al h
   unfold IC at h2
   split at h2
   ·split at h2
    ·exact okq (FJ h1 hs h2)
    ·exact okq (D7 h1 hΓ hs h2)
   ·exact okq (F1 h1 hs h2)
   ·obtain ⟨rfl, h3⟩ := dz h2
    exact okq (DU h1 hs h3)
   ·exact okq (KZ hs h2)
   ·cases h2
def BF (ρ : Nms) (x : Pdg) (w : World) : Prop := Nat.beq x.2.2.1 1000000000 = false ∧ ∃ cs t, cY w (ρ x.2.1).b t cs ∧ (cs.drop x.2.2.1).take x.2.2.2.length = x.2.2.2.map fun u => (ρ u).x
def GH (c : Nat) (Pd : List Pdg) : Prop := ∀ x, x ∈ Pd → x.2.1 < c ∧ ∀ u, u ∈ x.2.2.2 → u < c
theorem qU {ρ ρ' : Nms} {c : Nat} (ha : ax c ρ ρ') {x : Pdg} (hx : x.2.1 < c ∧ ∀ u, u ∈ x.2.2.2 → u < c) {w : World} : BF ρ' x w ↔ BF ρ x w := by
 unfold BF
 rw [ha _ hx.1]
 have : (x.2.2.2.map fun u => (ρ' u).x) = x.2.2.2.map fun u => (ρ u).x := List.map_congr_left fun u hu => by rw [ha _ (hx.2 u hu)]
 rw [this]
theorem BH {ρ : Nms} : ∀ {l : List AV} {us : List Nat}, Il l us = true → (AV.ae ρ l).take us.length = us.map fun u => (ρ u).x
 | l, [], _ => by simp
 | l, n :: ns, h => by
  unfold Il at h
  split at h
  ·rename_i u l'
   simp only [Bool.and_eq_true] at h
   have e := Nat.eq_of_beq_eq_true h.1
   subst e
   simp only [AV.ae, AV.val, List.length_cons, List.take_succ_cons, List.map_cons]
   rw [BH h.2]
  ·cases h
theorem zF {ρ : Nms} : ∀ {l : List AV} {us : List Nat}, xi l = some us → AV.ae ρ l = us.map (fun u => (ρ u).x) ∧ us.length = l.length
 | [], us, h => by cases h; simp [AV.ae]
 | v :: l, us, h => by
  unfold xi at h
  split at h
  ·rename_i u
   split at h
   ·rename_i us' hus
    cases h
    obtain ⟨h1, h2⟩ := zF (ρ := ρ) hus
    simp [AV.ae, AV.val, h1, h2]
   ·cases h
  ·cases h
theorem Bt {c : Nat} : ∀ {l : List AV} {us : List Nat}, xi l = some us → AV.aY c l = true → ∀ u, u ∈ us → u < c
 | [], us, h, _, u, hu => by cases h; cases hu
 | v :: l, us, h, hl, u, hu => by
  unfold xi at h
  split at h
  ·rename_i u'
   split at h
   ·rename_i us' hus
    cases h
    simp only [AV.aY, AV.low, Bool.and_eq_true, Nat.blt_eq] at hl
    rcases List.mem_cons.1 hu with rfl | hu
    ·exact hl.1
    ·exact Bt hus hl.2 u hu
   ·cases h
  ·cases h
theorem DW {ρ : Nms} {T : Tbl} {G : List Row} {B : Ctx} {w : World} (hs : Sat (items ρ T G ++ B) w) : ∀ {Pd : List Pdg}, pdB G Pd = true → ∀ x, x ∈ Pd → BF ρ x w
 | [], _, x, hx => by cases hx
 | y :: Pd, h, x, hx => by
  simp only [pdB, Bool.and_eq_true] at h
  rcases List.mem_cons.1 hx with rfl | hx
  ·have h1 := h.1
   split at h1
   ·rename_i j id t cs hf
    obtain ⟨f1, f2⟩ := jz hf
    have : id = x.2.1 := Nat.eq_of_beq_eq_true f2
    subst this
    have hb : cY w (ρ x.2.1).b t (AV.ae ρ cs) := hs.at_ (fc f1)
    simp only [Bool.and_eq_true] at h1
    refine ⟨by simpa using h1.1, _, t, hb, ?_⟩
    rw [← AV.eP]
    exact BH h1.2
   ·cases h1
  ·exact DW hs h.2 x hx
theorem nK {k : Nat} : ∀ {Pd : List Pdg} {x : Pdg}, x ∈ dx ops k Pd ↔ x ∈ Pd ∧ waits .any ops.toArray k x.1 = false
 | [], x => by simp [dx]
 | y :: Pd, x => by
  unfold dx
  cases hw : waits .any ops.toArray k y.1
  ·show x ∈ y :: dx ops k Pd ↔ _
   rw [List.mem_cons, List.mem_cons, nK]
   constructor
   ·rintro (rfl | ⟨h1, h2⟩)
    ·exact ⟨.inl rfl, hw⟩
    ·exact ⟨.inr h1, h2⟩
   ·rintro ⟨rfl | h1, h2⟩
    ·exact .inl rfl
    ·exact .inr ⟨h1, h2⟩
  ·show x ∈ dx ops k Pd ↔ _
   rw [List.mem_cons, nK]
   constructor
   ·rintro ⟨h1, h2⟩; exact ⟨.inr h1, h2⟩
   ·rintro ⟨rfl | h1, h2⟩
    ·rw [hw] at h2; cases h2
    ·exact ⟨h1, h2⟩
theorem F0 {pend : df} {w : World} (h : ∀ p, p ∈ pend → p.2 w) : eQ pend w := by
 induction pend with
 | nil => trivial
 | cons p l ih => exact ⟨h p (List.mem_cons_self ..), ih fun q hq => h q (List.mem_cons_of_mem _ hq)⟩
theorem Oe {P : Program} {ρ : Nms} {Ev : Env} {g : Bool} {t : TypeId} {x : Operand} {n : Nat} {l : List AV} {v : AV} {ad : Addr} {w : World} {dst : Option Tmp} {ty : TypeId} {pos : String} {af : Array Edge} {gd : Option (Nat × Bool)}
  (hx : Opd Ev g x (.pointer (some ad))) (hn : szA P t = some n) (hv : kS P t l = some v) (hl : n ≤ l.length) (hc : aI w ad ((AV.ae ρ l).take n)) : Run P Ev g ⟨dst, .load t x, ty, pos, af, gd⟩ w (v.val ρ) := by
 have h' : kS P t (l.drop 0) = some v := by simpa using hv
 obtain ⟨d, n', bytes, z, c1, c2, c3⟩ := nF (X := ⟨P, [], [], [], (fun _ h => nomatch h), 0⟩) (ρ := ρ) h'
 have c1 : P.underlying t = some d := c1
 unfold szA at hn
 rw [c1] at hn
 rcases cW hn with ⟨hd, h2⟩ | ⟨hd, h2⟩
 ·split at h2
  ·rename_i z2 hz2
   obtain ⟨m, b2, z2⟩ := z2
   cases h2
   unfold kS at hv
   rw [c1] at hv
   rcases cW hv with ⟨_, h3⟩ | ⟨h3, _⟩
   ·rw [hz2] at h3
    obtain ⟨_, h5⟩ := al h3
    cases h5
    simp only [AV.val, AV.iE]
    exact wo c1 hd (cH hz2) hx (fun _ => hc) (by rw [List.length_take, AV.aK]; exact Nat.min_eq_left hl)
   ·rw [hd] at h3; cases h3
  ·cases h2
 ·cases h2
  rw [hd] at c3
  simp only [Bool.false_eq_true, if_false] at c3
  refine wJ c1 hd hx (fun _ => ?_)
  have e : (AV.ae ρ l).take 1 = [v.val ρ] := by
   cases hq : AV.ae ρ l with
   | nil => rw [hq] at c3; cases c3
   | cons a l => rw [hq] at c3; cases c3; rfl
  rw [e] at hc; exact hc
theorem EY {l : List Value} {off n : Nat} (h : off + n ≤ l.length) : iY l off ((l.drop off).take n) = l := by
 unfold iY
 have e1 : ((l.drop off).take n).length = n := by rw [List.length_take, List.length_drop]; omega
 rw [e1]
 have e2 : (l.drop off).take n ++ l.drop (off + n) = l.drop off := by
  rw [← List.drop_drop, List.take_append_drop]
 rw [List.append_assoc, e2, List.take_append_drop]
theorem Ko {T : Tbl} {st : StB} {g : GK} {k : Nat} {o : Oper} {ρ : Nms} {w : World} {KQ : List Row → Pdg → StB → Option R} (hs : Sat (items ρ T st.G ++ (items ρ T fr.H ++ Φ)) w) (h : GI X T fr st g k o KQ = some (some r)) :
  ∃ (v : Value) (ρ' : Nms) (st' : StB) (av : AV) (Rq : List Row) (p : Pdg), KQ Rq p st' = some r ∧ ax st.c ρ ρ' ∧ st.c ≤ st'.c ∧ st'.E = bT o.dst g av st.E ∧ av.val ρ' = v ∧ ai ρ' T st.E fr.F = ai ρ T st.E fr.F ∧ items ρ' T fr.H = items ρ T fr.H ∧
   Sat (items ρ' T st'.G ++ (items ρ' T (Rq ++ fr.H) ++ Φ)) w ∧ p.1 = k ∧ BF ρ' p w ∧ (p.2.1 < st'.c ∧ ∀ u, u ∈ p.2.2.2 → u < st'.c) ∧ (∀ w', BF ρ' p w' → Run X.P (ai ρ T st.E fr.F) (T.get g) o w' v) := by
 obtain ⟨dst, op, ty, pos, af, gd⟩ := o
 unfold GI at h
 simp only at h
 split at h
 ·rename_i t x d
  split at h
  ·rename_i id off hx
   split at h
   ·rename_i j id' bt cs hf
    simp only [Option.some.injEq] at h
    split at h
    ·rename_i n hn
     split at h
     ·rename_i v hv
      split at h
      ·rename_i us hus
       obtain ⟨h1, h2⟩ := al h
       simp only [Bool.and_eq_true, Nat.ble_eq] at h1
       obtain ⟨⟨⟨hl, hvl⟩, hle⟩, hmk⟩ := h1
       obtain ⟨l1, l2, l3, l4⟩ := StB.bM.1 hl
       obtain ⟨f1, f2⟩ := jz hf
       have : id' = id := Nat.eq_of_beq_eq_true f2
       subst this
       have hj : j < st.G.length := (List.getElem?_eq_some_iff.1 f1).1
       have hrow := mE l3 f1
       simp only [Row.low, Bool.and_eq_true, Nat.blt_eq] at hrow
       have hsub : ∀ {l : List AV} {c m q : Nat}, AV.aY c l = true → AV.aY c ((l.drop m).take q) = true := fun {l c m q} h => by
        have dr : ∀ (l : List AV) (m : Nat), AV.aY c l = true → AV.aY c (l.drop m) = true := fun l => by
         induction l with
         | nil => intro m h; simp [AV.aY]
         | cons a l ih =>
          intro m h
          cases m with
          | zero => exact h
          | succ m => simp only [AV.aY, Bool.and_eq_true] at h; exact ih m h.2
        have tk : ∀ (l : List AV) (m : Nat), AV.aY c l = true → AV.aY c (l.take m) = true := fun l => by
         induction l with
         | nil => intro m h; simp [AV.aY]
         | cons a l ih =>
          intro m h
          cases m with
          | zero => rfl
          | succ m => simp only [AV.aY, Bool.and_eq_true, List.take_succ_cons] at h ⊢; exact ⟨h.1, ih m h.2⟩
        exact tk _ _ (dr _ _ h)
       obtain ⟨ρ', lk⟩ := uQ (ρ := ρ) (hsub (m := off) (q := n) hrow.2)
       obtain ⟨i1, i2⟩ := zF (ρ := ρ') hus
       have hil := Bt hus lk.lw
       generalize iB st.c ((cs.drop off).take n) = L at h2 lk hus i1 i2 hil
       obtain ⟨ls, Rq, c'⟩ := L
       have hcc : st.c ≤ c' := lk.le
       have hag : ax st.c ρ ρ' := lk.ag
       have heq : AV.ae ρ' ls = AV.ae ρ ((cs.drop off).take n) := lk.eq
       have hb : cY w (ρ id').b bt (AV.ae ρ cs) := hs.at_ (fc f1)
       have hcsl : AV.ae ρ' cs = AV.ae ρ cs := AV.aX hag _ hrow.2
       have hval : v.val ρ' = v.val ρ := AV.iF hag _ hvl
       have hus2 : us.length = n := by
        have e1 : (AV.ae ρ' ls).length = n := by rw [heq, AV.aK, List.length_take, List.length_drop]; omega
        rw [i2, ← AV.aK (ρ := ρ') (l := ls)]; exact e1
       have eG := aE (T := T) hag l3
       have eH := aE (T := T) hag l4
       have e3 : (us.map fun u => (ρ' u).x) = ((AV.ae ρ cs).drop off).take n := by rw [← i1, heq, AV.iE, AV.eP]
       refine ⟨v.val ρ, ρ', _, v, Rq, (k, id', off, us), h2, hag, hcc, rfl, hval, jM hl hag, eH, ?_, rfl, ⟨by simpa using hmk, AV.ae ρ cs, bt, ?_, ?_⟩, ⟨Nat.lt_of_lt_of_le hrow.1 hcc, hil⟩, fun w' hw => ?_⟩
       ·show Sat (items ρ' T (st.G.set j _) ++ (items ρ' T (Rq ++ fr.H) ++ Φ)) w
        rw [ei hj, eG]
        have e4 : (Row.box id' bt (mA cs off ls)).item ρ' T = (Row.box id' bt cs).item ρ T := by
         simp only [Row.item]
         rw [hag _ hrow.1, ← oP, hcsl, heq, AV.iE, AV.eP, EY (by rw [AV.aK]; exact hle)]
        have hi := fc (ρ := ρ) (T := T) (Φ := items ρ' T (Rq ++ fr.H) ++ Φ) f1
        have e5 : (items ρ T st.G ++ (items ρ' T (Rq ++ fr.H) ++ Φ)).set j ((Row.box id' bt (mA cs off ls)).item ρ' T) = items ρ T st.G ++ (items ρ' T (Rq ++ fr.H) ++ Φ) := by
         rw [e4]
         apply List.ext_getElem?
         intro q
         by_cases hq : q = j
         ·subst hq
          rw [List.getElem?_set_self (List.getElem?_eq_some_iff.1 hi).1, hi]
         ·rw [List.getElem?_set_ne (fun h => hq h.symm)]
        rw [e5, aG, eH, List.append_assoc]
        have ins : ∀ (L : List Item) (A B : Ctx), Sat (A ++ B) w → (∀ it ∈ L, it.own = [] ∧ ∀ M w, it.P M w) → Sat (A ++ (L ++ B)) w := fun L => by
         induction L with
         | nil => intro A B h _; exact h
         | cons x L ih =>
          intro A B h hL
          have h1 := ih A B h (fun it hit => hL it (List.mem_cons_of_mem _ hit))
          have hx := hL x (List.mem_cons_self ..)
          refine h1.qi (fun j k => (j < A.length ∧ k = j) ∨ (A.length < j ∧ k + 1 = j)) (fun j jt hj => ?_) (fun j k q hjk h1 h2 => by omega)
          by_cases e : j < A.length
          ·rw [List.getElem?_append_left e] at hj
           exact .inr ⟨j, jt, .inl ⟨e, rfl⟩, by rw [List.getElem?_append_left e]; exact hj, aU.refl⟩
          ·rw [List.getElem?_append_right (by omega)] at hj
           by_cases e2 : j = A.length
           ·subst e2
            simp at hj
            subst hj
            exact .inl hx
           ·refine .inr ⟨j - 1, jt, .inr ⟨by omega, by omega⟩, ?_, aU.refl⟩
            rw [List.getElem?_append_right (by omega)]
            have : j - A.length = (j - 1 - A.length) + 1 := by omega
            rw [this, List.cons_append, List.getElem?_cons_succ] at hj
            exact hj
        refine ins (items ρ' T Rq) (items ρ T st.G) (items ρ T fr.H ++ Φ) hs (fun it hit => ?_)
        obtain ⟨rw_, hr1, rfl⟩ := List.mem_map.1 hit
        have h9 := lk.rp rw_ hr1
        have h10 : rw_.item ρ' T = rw_.item ρ' [] := by
         have hgd : rw_.gd = none := lk.rg rw_ hr1
         exact Row.qV (by rw [hgd, Tbl.get_none, Tbl.get_none])
        rw [h10]
        exact ⟨(rw_.item ρ' []).hp h9.1, h9.2⟩
       ·show cY w (ρ' id').b bt _
        rw [hag _ hrow.1]; exact hb
       ·show ((AV.ae ρ cs).drop off).take us.length = us.map fun u => (ρ' u).x
        rw [hus2, e3]
       ·obtain ⟨_, csv, t2, b1, b2⟩ := hw
        have b1 : cY w' (ρ' id').b t2 csv := b1
        have b2 : (csv.drop off).take us.length = us.map fun u => (ρ' u).x := b2
        rw [hag _ hrow.1] at b1
        rw [hus2, e3] at b2
        have hx' := ay (ρ := ρ) hx
        simp only [AV.val] at hx'
        have e6 : AV.ae ρ ((cs.drop off).map (nw st.G fr.H)) = (AV.ae ρ cs).drop off := by rw [wY hs, AV.eP]
        refine Oe hx' hn hv (by rw [List.length_map, List.length_drop]; omega) ?_
        rw [e6]
        refine b1.part off ?_
        have : (((AV.ae ρ cs).drop off).take n).length = n := by rw [List.length_take, List.length_drop, AV.aK]; omega
        rw [this]; exact b2
      ·cases h
     ·cases h
    ·cases h
   ·cases h
  ·cases h
 ·cases h
theorem w6 {order : OT} {k mk_ : Nat} {pend : df} {EV : List Flt} {o : Oper} {T T' : Tbl} {g : GK} {fr1 : Fr} {st1 : StB} {ρ : Nms} {w : World} {v : Value} {J : World → Prop} (hn : fr1.n = fr.n) (so : JZ ops fr fr1 st1 ρ o T T' g) (ho : ops[k]? = some o) (hfr : ∀ x ∈ EV, ki ops.toArray k x.1 = true) (hJw : J w)
  (hr : ∀ w', J w' → Run X.P (ai ρ T' st1.E fr1.F) (T'.get g) o w' v) (hnext : WDE X.P σ ops.toArray Q fr.n D order EV ((k, J) :: pend) (kM o.dst (T'.get g) v (ai ρ T' st1.E fr1.F)) w) :
  WDE X.P σ ops.toArray Q fr.n D (.q k mk_ order) EV pend (ai ρ T' st1.E fr1.F) w := by
 have ho' : ops.toArray[k]? = some o := by simpa using ho
 have hds := so.ds
 rw [hn] at hds
 intro a hfit hD hC
 have hC' : ∀ v, ∀ x ∈ EV, ml X.P ops.toArray (a.put o.dst v) x := fun v x hx => (hC x hx).put ho' (hfr x hx)
 simp only [wpD, ho']
 cases hg : g with
 | none =>
  subst hg
  rw [Tbl.get_none] at hr hnext
  refine ⟨v, J, hJw, .inl ⟨by simp [Region.wanted, so.gg], fun w' hw' => hr w' hw' _ a hfit rfl⟩, ?_⟩
  exact hnext _ (hfit.kM hds) (by rw [fu]; exact hD) (hC' _)
 | some gk =>
  obtain ⟨rj, par, b, g1, g2, g3, g4⟩ := so.gk gk hg
  rw [hn] at g3
  subst hg
  have hw := oW (ops := ops.toArray) so.gg (by simpa using g1) g2 hfit g3
  rw [g4] at hw
  cases hT : T'.get (some gk)
  ·rw [hT] at hw hnext
   refine ⟨undef, J, hJw, .inr ⟨hw, rfl⟩, ?_⟩
   exact hnext _ (hfit.kM (g := false) (v := v) hds) (by rw [fu]; exact hD) (hC' _)
  ·rw [hT] at hw hr hnext
   refine ⟨v, J, hJw, .inl ⟨hw, fun w' hw' => hr w' hw' _ a hfit rfl⟩, ?_⟩
   exact hnext _ (hfit.kM hds) (by rw [fu]; exact hD) (hC' _)
theorem Ph {G H : List Row} {s : Src} {rw_ : Row} {q c : Nat} (h : s.at_ G H rw_) (hk : y4 q rw_ = true) (hG : aO c G = true) (hH : aO c H = true) : q < c := by
 have key : ∀ {L : List Row}, aO c L = true → rw_ ∈ L → q < c := fun {L} hl hm => by
  have hr : rw_.low c = true := by
   induction L with
   | nil => cases hm
   | cons x L ih =>
    simp only [aO, Bool.and_eq_true] at hl
    rcases List.mem_cons.1 hm with rfl | hm
    ·exact hl.1
    ·exact ih hl.2 hm
  unfold y4 at hk
  split at hk
  ·have e := Nat.eq_of_beq_eq_true hk
   subst e
   simp only [Row.low, Bool.and_eq_true, Nat.blt_eq] at hr
   exact hr.1.1
  ·cases hk
 cases s with
 | top i => exact key hG (List.mem_of_getElem? h)
 | frz i => exact key hH (List.mem_of_getElem? h)
 | nilI t => exact h.elim
 | nilO t e => exact h.elim
 | nilM k v => exact h.elim
def HP (ρ : Nms) (T : Tbl) (fr : Fr) (A : List Row) (Pd : List Pdg) (pend : df) : Prop := ∀ p, p ∈ pend → ∀ w', (∃ Φ', Sat (items ρ T (A ++ fr.H) ++ Φ') w') → (∀ x, x ∈ Pd → x.1 = p.1 → BF ρ x w') → p.2 w'
def EVI (EV : List Flt) : Ctx := EV.map fun x => box x.2.1 x.2.2.1 x.2.2.2
def Aw (ops : List Oper) (order : OT) (EV : List Flt) : Prop := ∀ x ∈ EV, (∀ j ∈ order.ops, ki ops.toArray j x.1 = true) ∧ ∀ j ∈ order.fls, j = x.1 ∨ ki ops.toArray j x.1 = true
theorem uw {B : Ctx} {w : World} {p : Flt → Bool} : ∀ {EV : List Flt} {A : Ctx}, Sat (A ++ (EVI EV ++ B)) w → Sat (A ++ (EVI (EV.filter p) ++ B)) w
 | [], _, h => h
 | x :: EV, A, h => by
  rw [List.filter_cons]
  split
  ·have h1 : Sat ((A ++ [box x.2.1 x.2.2.1 x.2.2.2]) ++ (EVI EV ++ B)) w := by simpa [EVI] using h
   have := uw (p := p) h1
   simpa [EVI] using this
  ·exact uw (p := p) (Sat.sf (A := A) (B := EVI EV ++ B) h)
theorem y6 {B : Ctx} {w : World} : ∀ {EV : List Flt} {A : Ctx}, Sat (A ++ (EVI EV ++ B)) w → Sat (A ++ B) w
 | [], _, h => h
 | _ :: EV, A, h => y6 (EV := EV) (Sat.sf (A := A) (B := EVI EV ++ B) h)
theorem Fits.old {n : Nat} {E : Env} {a : Act} {d : Tmp} {v : Value} (h : Fits n E a) (e : a.tmps.getD d undef = v) : Fits n ((d, true, v) :: E) a := by
 refine ⟨h.size, fun t g v' ht => ?_⟩
 simp only [look] at ht
 cases hb : Nat.beq d t
 ·rw [hb, cond_false] at ht
  exact h.at_ t g v' ht
 ·rw [hb, cond_true] at ht
  have := Nat.eq_of_beq_eq_true hb
  subst this
  cases ht
  exact e
theorem Fits.P5 {n : Nat} {E : Env} {a : Act} {d : Tmp} (h : Fits n E a) (hd : look E d = none) (v : Value) : Fits n E (a.put (some d) v) := by
 refine ⟨by simp [Act.put, h.size], fun t g v' ht => ?_⟩
 have hne : d ≠ t := fun e => by subst e; rw [hd] at ht; cases ht
 have := Act.eval_put (a := a) (dst := some d) (v := v) (x := .tmp t) (fun e he hc => hne (by cases he; cases hc; rfl))
 exact Eq.trans this (h.at_ t g v' ht)
theorem Nn {X : Cx} {T : Tbl} {fr : Fr} {st : StB} {o : Oper} {p : TypeId × List AV × List AV} (h : vn X T fr st o = some p) : o.guard = none ∧ ∀ cs b, o.op ≠ .select cs b := by
 unfold vn at h
 split at h
 ·rename_i e1 e2
  exact ⟨e2, fun cs b hc => by rw [e1] at hc; cases hc⟩
 ·rename_i e1 e2
  exact ⟨e2, fun cs b hc => by rw [e1] at hc; cases hc⟩
 ·cases h
theorem ml.same {P : Program} {ops : Array Oper} {a : Act} {x : Flt} {X : Cx} {T : Tbl} {fr : Fr} {st : StB} {ρ : Nms} {o : Oper} (hP : X.P = P) (h : ml P ops a x) (ho : ops[x.1]? = some o) (hf : Fits fr.n (ai ρ T st.E fr.F) a) :
  ∀ e vs cs, vn X T fr st o = some (e, vs, cs) → x.2.2.1 = e ∧ x.2.2.2 = AV.ae ρ cs := fun e vs cs hA => by
 subst hP
 obtain ⟨o', d, w0, h1, h2, h3, h4, h5, h6⟩ := h
 rw [ho] at h1
 cases h1
 have h7 := DN (ρ := ρ) hA w0 _ a hf
 rw [h6] at h7
 have h8 : w0.alloc (.cells x.2.2.2.toArray x.2.2.1) = w0.alloc (.cells (AV.ae ρ cs).toArray e) := by
  injection h7
 have h9 : (some (Obj.cells x.2.2.2.toArray x.2.2.1) : Option Obj) = some (.cells (AV.ae ρ cs).toArray e) := by
  rw [← heap_alloc_new w0 (.cells x.2.2.2.toArray x.2.2.1), ← heap_alloc_new w0 (.cells (AV.ae ρ cs).toArray e), h8]
 simp only [Option.some.injEq, Obj.cells.injEq] at h9
 exact ⟨h9.2.1, by simpa using h9.1⟩
theorem Fk {frx : Fr} {T : Tbl} {w : World} {a : Act} {KK : Go_ R} : ∀ {fs : List Nat} {EV : List Flt} {st : StB} {ρ : Nms}, dq T st.E frx.F → Sat (items ρ T st.G ++ (items ρ T frx.H ++ (EVI EV ++ Φ))) w → Fits frx.n (ai ρ T st.E frx.F) a →
  (∀ x ∈ EV, ml X.P ops.toArray a x) → (∀ f ∈ fs, f ∈ EV.map (·.1)) → GV X ops frx T fs st KK = some r →
  ∃ st' ρ', KK st' = some r ∧ ax st.c ρ ρ' ∧ st.c ≤ st'.c ∧ dq T st'.E frx.F ∧ Fits frx.n (ai ρ' T st'.E frx.F) a ∧ items ρ' T frx.H = items ρ T frx.H ∧
   Sat (items ρ' T st'.G ++ (items ρ' T frx.H ++ (EVI (EV.filter fun x => !(bY x.1 fs)) ++ Φ))) w
 | [], EV, st, ρ, ht, hs, hf, hC, _, h => by
  refine ⟨st, ρ, h, .refl, Nat.le_refl _, ht, hf, rfl, ?_⟩
  have e : (EV.filter fun x => !(bY x.1 [])) = EV := by
   rw [List.filter_eq_self]
   intro x _
   rfl
  rw [e]; exact hs
 | f :: fs, EV, st, ρ, ht, hs, hf, hC, hin, h => by
  unfold GV at h
  split at h
  ·rename_i o ho
   obtain ⟨h1, h2⟩ := al h
   simp only [Bool.and_eq_true, Bool.not_eq_true'] at h1
   obtain ⟨x, hx, hxf⟩ := List.mem_map.1 (hin f (List.mem_cons_self ..))
   subst hxf
   obtain ⟨E1, E2, hE⟩ := List.append_of_mem hx
   have ho' : ops.toArray[x.1]? = some o := by simpa using ho
   have hs1 : Sat (((items ρ T st.G ++ items ρ T frx.H) ++ EVI E1) ++ box x.2.1 x.2.2.1 x.2.2.2 :: (EVI E2 ++ Φ)) w := by
    have e : items ρ T st.G ++ (items ρ T frx.H ++ (EVI EV ++ Φ)) = ((items ρ T st.G ++ items ρ T frx.H) ++ EVI E1) ++ box x.2.1 x.2.2.1 x.2.2.2 :: (EVI E2 ++ Φ) := by
     rw [hE]; simp [EVI]
    rw [← e]; exact hs
   have hs2 : Sat ([] ++ box x.2.1 x.2.2.1 x.2.2.2 :: ((items ρ T st.G ++ items ρ T frx.H) ++ (EVI E1 ++ (EVI E2 ++ Φ)))) w := by
    have := hs1.LO
    simpa using this
   have hs3 : Sat (items ρ T st.G ++ (items ρ T frx.H ++ (box x.2.1 x.2.2.1 x.2.2.2 :: (EVI E1 ++ (EVI E2 ++ Φ))))) w := by
    have := hs2.move
    simpa using this
   have hR := hC x hx
   obtain ⟨o2, d, w0, r1, r2, r3, r4, r5, r6⟩ := id hR
   rw [ho'] at r1
   cases r1
   obtain ⟨ρ1, st1, av, k1, k2, k3, k4, k5, k6, k7, k8⟩ := NZ hs3 (ml.same rfl hR ho' hf) h2
   have e1 : ai ρ1 T st1.E frx.F = (d, true, s9 o x.2.1) :: ai ρ T st.E frx.F := by
    rw [k4, mV, k5, k6, r2, Tbl.get_none]; rfl
   have hs4 : Sat (items ρ1 T st1.G ++ (items ρ1 T frx.H ++ (EVI (EV.filter fun y => !(Nat.beq x.1 y.1)) ++ Φ))) w := by
    have e2 : (EV.filter fun y => !(Nat.beq x.1 y.1)) = (E1 ++ E2).filter fun y => !(Nat.beq x.1 y.1) := by
     rw [hE]; simp
    rw [e2]
    have : Sat ((items ρ1 T st1.G ++ items ρ1 T frx.H) ++ (EVI (E1 ++ E2) ++ Φ)) w := by
     have e3 : EVI (E1 ++ E2) = EVI E1 ++ EVI E2 := by simp [EVI]
     rw [e3]; simpa using k8
    have := uw (p := fun y => !(Nat.beq x.1 y.1)) this
    simpa using this
   have ht1 : dq T st1.E frx.F := by rw [k4]; exact ht.out h1.1 none av
   obtain ⟨st2, ρ2, q1, q2, q3, q4, q5, q6, q7⟩ := Fk ht1 hs4 (by rw [e1]; exact hf.old r5) (fun y hy => hC y (List.mem_filter.1 hy).1) (fun f' hf' => by
    obtain ⟨y, hy, hyf⟩ := List.mem_map.1 (hin f' (List.mem_cons_of_mem _ hf'))
    subst hyf
    refine List.mem_map.2 ⟨y, List.mem_filter.2 ⟨hy, ?_⟩, rfl⟩
    rw [Bool.not_eq_true', Bool.eq_false_iff]
    intro hb
    have := Nat.eq_of_beq_eq_true hb
    rw [← this] at hf'
    rw [bW.2 hf'] at h1
    cases h1.2) k1
   refine ⟨st2, ρ2, q1, k2.trans q2 k3, Nat.le_trans k3 q3, q4, q5, q6.trans k7, ?_⟩
   have e4 : ((EV.filter fun y => !(Nat.beq x.1 y.1)).filter fun y => !(bY y.1 fs)) = EV.filter fun y => !(bY y.1 (x.1 :: fs)) := by
    rw [List.filter_filter]
    congr 1
    funext y
    simp only [bY, Bool.not_or]
    exact Bool.and_comm ..
   rw [← e4]; exact q7
  ·cases h
theorem Np (hΓ : ∀ it ∈ X.Γ, it ∈ Φ) (htb : ∀ e ∈ tb, e.Ok X.P X.Γ) (htp : ∀ e ∈ tp, e.Ok X.P X.Γ) : ∀ {order : OT} {EV : List Flt} {A : List Row} {Pd : List Pdg} {T : Tbl} {st : StB} {ρ : Nms} {w : World} {pend : df}, dq T st.E fr.F → jW ops fr.n T → FT T fr → Aw ops order EV → GH st.c Pd → Sat (items ρ T st.G ++ (items ρ T (A ++ fr.H) ++ (EVI EV ++ Φ))) w →
  HP ρ T fr A Pd pend → j3 X tb tp KP ops fr order A Pd T st K = some r →
  (∀ st' ρ' w', ax st.c ρ ρ' → st.c ≤ st'.c → K st' = some r → Sat (items ρ' [] st'.G ++ (items ρ' [] fr.H ++ Φ)) w' → At Q .normal fr.n D (ai ρ' [] st'.E fr.F) w') →
  (∀ v st' ρ' w', ax st.c ρ ρ' → st.c ≤ st'.c → KP v st' = some r → Sat (items ρ' [] st'.G ++ (items ρ' [] fr.H ++ Φ)) w' → AtP Q (pan (v.val ρ')) D w') →
  WDE X.P σ ops.toArray Q fr.n D order EV pend (ai ρ T st.E fr.F) w := by
 intro order
 -- a loud operation, the rest by induction
 have loud : ∀ (rest : OT) (k mk : Nat), (∀ {EV : List Flt} {A : List Row} {Pd : List Pdg} {T : Tbl} {st : StB} {ρ : Nms} {w : World} {pend : df}, dq T st.E fr.F → jW ops fr.n T → FT T fr → Aw ops rest EV → GH st.c Pd → Sat (items ρ T st.G ++ (items ρ T (A ++ fr.H) ++ (EVI EV ++ Φ))) w →
   HP ρ T fr A Pd pend → j3 X tb tp KP ops fr rest A Pd T st K = some r →
   (∀ st' ρ' w', ax st.c ρ ρ' → st.c ≤ st'.c → K st' = some r → Sat (items ρ' [] st'.G ++ (items ρ' [] fr.H ++ Φ)) w' → At Q .normal fr.n D (ai ρ' [] st'.E fr.F) w') →
   (∀ v st' ρ' w', ax st.c ρ ρ' → st.c ≤ st'.c → KP v st' = some r → Sat (items ρ' [] st'.G ++ (items ρ' [] fr.H ++ Φ)) w' → AtP Q (pan (v.val ρ')) D w') →
   WDE X.P σ ops.toArray Q fr.n D rest EV pend (ai ρ T st.E fr.F) w) →
   ∀ {EV : List Flt} {A : List Row} {Pd : List Pdg} {T : Tbl} {st : StB} {ρ : Nms} {w : World} {pend : df}, dq T st.E fr.F → jW ops fr.n T → FT T fr → (∀ x ∈ EV, ki ops.toArray k x.1 = true) → Aw ops rest EV → GH st.c Pd → Sat (items ρ T st.G ++ (items ρ T (A ++ fr.H) ++ (EVI EV ++ Φ))) w →
   HP ρ T fr A Pd pend →
   (match ops[k]? with
    | some o => xf X tb tp KP ops fr A T st o fun T st' => ifS (pdB st'.G (dx ops k Pd)) (j3 X tb tp KP ops fr rest (aL (fun r => !(cg r)) st.G ++ A) (dx ops k Pd) T st' K) none
    | none => none) = some r →
   (∀ st' ρ' w', ax st.c ρ ρ' → st.c ≤ st'.c → K st' = some r → Sat (items ρ' [] st'.G ++ (items ρ' [] fr.H ++ Φ)) w' → At Q .normal fr.n D (ai ρ' [] st'.E fr.F) w') →
   (∀ v st' ρ' w', ax st.c ρ ρ' → st.c ≤ st'.c → KP v st' = some r → Sat (items ρ' [] st'.G ++ (items ρ' [] fr.H ++ Φ)) w' → AtP Q (pan (v.val ρ')) D w') →
   WDE X.P σ ops.toArray Q fr.n D (.l k mk rest) EV pend (ai ρ T st.E fr.F) w := by
  intro rest k mk ih EV A Pd T st ρ w pend h1 h2 hf hfk hev hpd hs hp h next pnext
  have hΓ' : ∀ it ∈ X.Γ, it ∈ EVI EV ++ Φ := fun it hit => List.mem_append_right _ (hΓ it hit)
  split at h
  ·rename_i o ho
   have hs1 := oI (A := []) (p := cg) hs
   refine KC (k := k) (mk := mk) (o := o) (by simpa using ho) hfk rfl ?_
   have fin : ∀ T' st' ρ' w', dq T' st'.E (frM fr A st).F → jW ops (frM fr A st).n T' → FT T' fr → ax (stM st).c ρ ρ' → (stM st).c ≤ st'.c → (ifS (pdB st'.G (dx ops k Pd)) (j3 X tb tp KP ops fr rest (aL (fun r => !(cg r)) st.G ++ A) (dx ops k Pd) T' st' K) none) = some r → items ρ' T' (frM fr A st).H = items ρ T (frM fr A st).H → Sat (items ρ' T' st'.G ++ (items ρ' T' (frM fr A st).H ++ (EVI EV ++ Φ))) w' →
     WL X.P σ ops.toArray (QKE X.P σ ops.toArray Q rest EV (still .any ops.toArray k pend)) fr.n D [] (ai ρ' T' st'.E (frM fr A st).F) w' := by
    intro T' st' ρ' w' a1 a2 a3 a4 a5 a6 a7 a8
    obtain ⟨a9, a10⟩ := al a6
    have e1 : aL (fun r => !(cg r)) st.G ++ (A ++ fr.H) = (aL (fun r => !(cg r)) st.G ++ A) ++ fr.H := by rw [List.append_assoc]
    have hs8 : Sat (items ρ' T' st'.G ++ (items ρ' T' ((aL (fun r => !(cg r)) st.G ++ A) ++ fr.H) ++ (EVI EV ++ Φ))) w' := by rw [← e1]; exact a8
    have conv : ∀ w2, (∃ Φ', Sat (items ρ' T' ((aL (fun r => !(cg r)) st.G ++ A) ++ fr.H) ++ Φ') w2) → ∃ Φ', Sat (items ρ T (A ++ fr.H) ++ Φ') w2 := fun w2 hw => by
     obtain ⟨Φ', hΦ⟩ := hw
     refine ⟨Φ', ?_⟩
     rw [← e1] at hΦ
     have hΦ2 : Sat (items ρ T (aL (fun r => !(cg r)) st.G ++ (A ++ fr.H)) ++ Φ') w2 := by rw [← a7]; exact hΦ
     rw [aG, List.append_assoc] at hΦ2
     exact hΦ2.qn
    have mem : ∀ p, p ∈ still .any ops.toArray k pend → p ∈ pend ∧ ∀ x, x ∈ Pd → x.1 = p.1 → x ∈ dx ops k Pd := fun p hpm => by
     unfold still at hpm
     rw [List.mem_filter] at hpm
     exact ⟨hpm.1, fun x hx he => nK.2 ⟨hx, by rw [he]; simpa using hpm.2⟩⟩
    have HP' : HP ρ' T' fr (aL (fun r => !(cg r)) st.G ++ A) (dx ops k Pd) (still .any ops.toArray k pend) := fun p hpm w2 hw hB => by
     obtain ⟨m1, m2⟩ := mem p hpm
     exact hp p m1 w2 (conv w2 hw) (fun x hx he => (qU a4 (hpd x hx)).1 (hB x (m2 x hx he) he))
    have hBF := DW (B := items ρ' T' ((aL (fun r => !(cg r)) st.G ++ A) ++ fr.H) ++ (EVI EV ++ Φ)) hs8 a9
    refine zQ (Pm (F0 fun p hpm => HP' p hpm w' ⟨EVI EV ++ Φ, hs8.qn⟩ (fun x hx _ => hBF x hx)) ?_)
    exact ih a1 a2 a3 hev (fun x hx => ⟨Nat.lt_of_lt_of_le (hpd x (nK.1 hx).1).1 a5, fun u hu => Nat.lt_of_lt_of_le ((hpd x (nK.1 hx).1).2 u hu) a5⟩) hs8 HP' a10 (fun st2 ρ2 w2 b1 b2 b3 b4 => next st2 ρ2 w2 (a4.trans b1 a5) (Nat.le_trans a5 b2) b3 b4) (fun v st2 ρ2 w2 b1 b2 b3 b4 => pnext v st2 ρ2 w2 (a4.trans b1 a5) (Nat.le_trans a5 b2) b3 b4)
   unfold xf at h
   split at h
   ·rename_i q hq
    subst h
    refine MG (fr := frM fr A st) (st := stM st) h1 hs1 hΓ' htp hq (fun st' ρ' w' a1 a4 a5 a6 a7 a8 => fin T st' ρ' w' a1 h2 hf a4 a5 a6 a7 a8) (fun v st' ρ' w' a1 a2 a3 ae1 ae2 a4 => ?_)
    have a4' : Sat (items ρ' T ({ st' with G := st'.G ++ (aL (fun r => !(cg r)) st.G ++ A) } : StB).G ++ (items ρ' T fr.H ++ (EVI EV ++ Φ))) w' := by
     have e2 : (frM fr A st).H = (aL (fun r => !(cg r)) st.G ++ A) ++ fr.H := by rw [List.append_assoc]
     rw [e2, aG, List.append_assoc] at a4
     show Sat (items ρ' T (st'.G ++ (aL (fun r => !(cg r)) st.G ++ A)) ++ _) w'
     rw [aG, List.append_assoc]
     exact a4
    obtain ⟨st2, k1, k2, _, k3⟩ := FK (fr := fr) hf a3 a4'
    rw [← List.append_assoc] at k3
    replace k3 := y6 k3
    rw [List.append_assoc] at k3
    have k2' : st2.c = st'.c := k2
    have := pnext v st2 ρ' w' a1 (by rw [k2']; exact a2) k1 k3
    exact DX this
   ·exact EC (fr := frM fr A st) (st := stM st) (fr0 := fr) (K := fun T st' => ifS (pdB st'.G (dx ops k Pd)) (j3 X tb tp KP ops fr rest (aL (fun r => !(cg r)) st.G ++ A) (dx ops k Pd) T st' K) none) h1 h2 rfl (fun r hr => List.mem_append_right _ (List.mem_append_right _ hr)) hf hs1 hΓ' htb h fin
  ·cases h
 induction order with
 | nil =>
  intro EV A Pd T st ρ w pend h1 h2 hf hev hpd hs hp h next pnext
  have hΓ' : ∀ it ∈ X.Γ, it ∈ EVI EV ++ Φ := fun it hit => List.mem_append_right _ (hΓ it hit)
  unfold j3 at h
  obtain ⟨h3, h4⟩ := al h
  have hs' : Sat (items ρ T ({ st with G := st.G ++ A } : StB).G ++ (items ρ T fr.H ++ (EVI EV ++ Φ))) w := by
   show Sat (items ρ T (st.G ++ A) ++ _) w
   rw [aG, List.append_assoc]
   rw [aG, List.append_assoc] at hs
   exact hs
  obtain ⟨k1, k2, k3⟩ := uD h3 hf hs'
  rw [← List.append_assoc] at k3
  replace k3 := y6 k3
  rw [List.append_assoc] at k3
  exact NU ((next _ ρ w .refl (by rw [k1]; exact Nat.le_refl _) h4 k3).jh _ k2)
 | q k m rest ih =>
  intro EV A Pd T st ρ w pend h1 h2 hf hev hpd hs hp h next pnext
  have hevr : Aw ops rest EV := fun x hx => ⟨fun j hj => (hev x hx).1 j (List.mem_cons_of_mem _ hj), (hev x hx).2⟩
  have hΓ' : ∀ it ∈ X.Γ, it ∈ EVI EV ++ Φ := fun it hit => List.mem_append_right _ (hΓ it hit)
  unfold j3 at h
  split at h
  ·rename_i o ho
   have hs1 := oI (A := []) (p := cg) hs
   obtain ⟨T', g, hk, so⟩ := Cz (ρ := ρ) (fr0 := fr) (fr := frM fr A st) (st := stM st) h1 h2 rfl (fun r hr => List.mem_append_right _ (List.mem_append_right _ hr)) hf h
   have hs' : Sat (items ρ T' (stM st).G ++ (items ρ T' (frM fr A st).H ++ (EVI EV ++ Φ))) w := by rw [so.eg, so.eh]; exact hs1
   have he : ai ρ T st.E fr.F = ai ρ T' st.E fr.F := by
    have e1 := so.ee
    have e2 := so.ef
    rw [ai, ai, e1, e2]
   rw [he]
   have e1 : aL (fun r => !(cg r)) st.G ++ (A ++ fr.H) = (aL (fun r => !(cg r)) st.G ++ A) ++ fr.H := by rw [List.append_assoc]
   -- from what stands then to what stands now
   have conv0 : ∀ w2 Φ', Sat (items ρ T' (aL (fun r => !(cg r)) st.G ++ (A ++ fr.H)) ++ Φ') w2 → ∃ Φ', Sat (items ρ T (A ++ fr.H) ++ Φ') w2 := fun w2 Φ' hΦ => by
    refine ⟨Φ', ?_⟩
    have hΦ2 : Sat (items ρ T (aL (fun r => !(cg r)) st.G ++ (A ++ fr.H)) ++ Φ') w2 := by rw [← so.eh]; exact hΦ
    rw [aG, List.append_assoc] at hΦ2
    exact hΦ2.qn
   split at hk
   ·rename_i q hq
    subst hk
    obtain ⟨v, ρ', st', av, Rq, p, k1, k2, k3, k4, k5, k6, k7, k8, k9, k10, k11, k12⟩ := Ko (fr := frM fr A st) (st := stM st) hs' hq
    have e2 : Rq ++ (aL (fun r => !(cg r)) st.G ++ (A ++ fr.H)) = (Rq ++ (aL (fun r => !(cg r)) st.G ++ A)) ++ fr.H := by simp
    refine w6 (fr1 := frM fr A st) (st1 := stM st) (J := BF ρ' p) rfl so ho (fun x hx => (hev x hx).1 k (List.mem_cons_self ..)) k10 k12 ?_
    have := ih (A := Rq ++ (aL (fun r => !(cg r)) st.G ++ A)) (Pd := p :: Pd) (T := T') (st := st') (ρ := ρ') (w := w) (pend := (k, BF ρ' p) :: pend) (by rw [k4]; exact so.t1.out so.ak g av) so.t2 so.ft hevr (fun x hx => ?_) (by rw [← e2]; exact k8) (fun q hqm w2 hw hB => ?_) k1 (fun st2 ρ2 w2 b1 b2 b3 b4 => next st2 ρ2 w2 (k2.trans b1 k3) (Nat.le_trans k3 b2) b3 b4) (fun v st2 ρ2 w2 b1 b2 b3 b4 => pnext v st2 ρ2 w2 (k2.trans b1 k3) (Nat.le_trans k3 b2) b3 b4)
    ·rw [k4, mV, k5, k6] at this
     exact this
    ·rcases List.mem_cons.1 hx with rfl | hx
     ·exact k11
     ·exact ⟨Nat.lt_of_lt_of_le (hpd x hx).1 k3, fun u hu => Nat.lt_of_lt_of_le ((hpd x hx).2 u hu) k3⟩
    ·rcases List.mem_cons.1 hqm with rfl | hqm
     ·exact hB p (List.mem_cons_self ..) k9
     ·obtain ⟨Φ', hΦ⟩ := hw
      rw [← e2, aG, List.append_assoc] at hΦ
      have hΦ1 := hΦ.qn
      have hΦ2 : Sat (items ρ T' (aL (fun r => !(cg r)) st.G ++ (A ++ fr.H)) ++ Φ') w2 := by rw [← k7]; exact hΦ1
      exact hp q hqm w2 (conv0 w2 Φ' hΦ2) (fun x hx he => (qU k2 (hpd x hx)).1 (hB x (List.mem_cons_of_mem _ hx) he))
   ·split at hk
    ·rename_i p hpo
     obtain ⟨lw, hk⟩ := al hk
     obtain ⟨dst, op, ty, pos, af, gd⟩ := o
     unfold ML at hpo
     split at hpo
     ·rename_i t x d hop hdst
      simp only at hop hdst
      subst hop hdst
      split at hpo
      ·rename_i q off hx
       split at hpo
       ·cases hpo
       split at hpo
       ·rename_i sr hkn
        cases hpo
        obtain ⟨v, hr, hO⟩ := Bp (ty := ty) (pos := pos) (af := af) (gd := gd) lw hs' hx hk
        obtain ⟨ρ', st', av, k1, k2, k3, k4, k5, k6, k7, k8⟩ := hO
        have hq : q < st.c := by
         obtain ⟨_, _, l3, l4⟩ := StB.bM.1 lw
         obtain ⟨f1, f2⟩ := bk hkn
         exact Ph f1 f2 l3 l4
        refine w6 (fr1 := frM fr A st) (st1 := stM st) (J := fun w' => w' = w) (v := v) rfl so ho (fun x hx => (hev x hx).1 k (List.mem_cons_self ..)) rfl (fun w' hw' => by subst hw'; exact hr) ?_
        have := ih (A := aL (fun r => !(cg r)) st.G ++ A) (Pd := (k, q, 1000000000, []) :: Pd) (T := T') (st := st') (ρ := ρ') (w := w) (pend := (k, fun w' => w' = w) :: pend) (by rw [k4]; exact so.t1.out so.ak g av) so.t2 so.ft hevr (fun x hx => ?_) (by rw [← e1]; exact k8) (fun q' hqm w2 hw hB => ?_) k1 (fun st2 ρ2 w2 b1 b2 b3 b4 => next st2 ρ2 w2 (k2.trans b1 k3) (Nat.le_trans k3 b2) b3 b4) (fun v st2 ρ2 w2 b1 b2 b3 b4 => pnext v st2 ρ2 w2 (k2.trans b1 k3) (Nat.le_trans k3 b2) b3 b4)
        ·rw [k4, mV, k5, k6] at this
         exact this
        ·rcases List.mem_cons.1 hx with rfl | hx
         ·exact ⟨Nat.lt_of_lt_of_le hq k3, fun u hu => by cases hu⟩
         ·exact ⟨Nat.lt_of_lt_of_le (hpd x hx).1 k3, fun u hu => Nat.lt_of_lt_of_le ((hpd x hx).2 u hu) k3⟩
        ·obtain ⟨Φ', hΦ⟩ := hw
         rw [← e1] at hΦ
         have hΦ1 : Sat (items ρ T' (aL (fun r => !(cg r)) st.G ++ (A ++ fr.H)) ++ Φ') w2 := by rw [← k7]; exact hΦ
         rcases List.mem_cons.1 hqm with rfl | hqm
         ·have := (hB (k, q, 1000000000, []) (List.mem_cons_self ..) rfl).1
          simp at this
         ·exact hp q' hqm w2 (conv0 w2 Φ' hΦ1) (fun x hx he => (qU k2 (hpd x hx)).1 (hB x (List.mem_cons_of_mem _ hx) he))
       ·cases hpo
      ·cases hpo
     ·cases hpo
    ·obtain ⟨v, J, hJ, hr, hO⟩ := II (fr := frM fr A st) (st := stM st) hΓ' so.t1 hs' hk
     obtain ⟨ρ', st', av, k1, k2, k3, k4, k5, k6, k7, k8⟩ := hO
     refine w6 (fr1 := frM fr A st) (st1 := stM st) rfl so ho (fun x hx => (hev x hx).1 k (List.mem_cons_self ..)) (hJ w ⟨EVI EV ++ Φ, hs'.qn⟩) hr ?_
     have := ih (A := aL (fun r => !(cg r)) st.G ++ A) (Pd := Pd) (T := T') (st := st') (ρ := ρ') (w := w) (pend := (k, J) :: pend) (by rw [k4]; exact so.t1.out so.ak g av) so.t2 so.ft hevr (fun x hx => ⟨Nat.lt_of_lt_of_le (hpd x hx).1 k3, fun u hu => Nat.lt_of_lt_of_le ((hpd x hx).2 u hu) k3⟩) (by rw [← e1]; exact k8) (fun q hqm w2 hw hB => ?_) k1 (fun st2 ρ2 w2 b1 b2 b3 b4 => next st2 ρ2 w2 (k2.trans b1 k3) (Nat.le_trans k3 b2) b3 b4) (fun v st2 ρ2 w2 b1 b2 b3 b4 => pnext v st2 ρ2 w2 (k2.trans b1 k3) (Nat.le_trans k3 b2) b3 b4)
     ·rw [k4, mV, k5, k6] at this
      exact this
     ·obtain ⟨Φ', hΦ⟩ := hw
      rw [← e1] at hΦ
      have hΦ1 : Sat (items ρ T' (aL (fun r => !(cg r)) st.G ++ (A ++ fr.H)) ++ Φ') w2 := by rw [← k7]; exact hΦ
      rcases List.mem_cons.1 hqm with rfl | hqm
      ·exact hJ w2 ⟨Φ', hΦ1⟩
      ·exact hp q hqm w2 (conv0 w2 Φ' hΦ1) (fun x hx he => (qU k2 (hpd x hx)).1 (hB x hx he))
  ·cases h
 | l k m rest ih =>
  intro EV A Pd T st ρ w pend h1 h2 hf hev hpd hs hp h next pnext
  have hΓ' : ∀ it ∈ X.Γ, it ∈ EVI EV ++ Φ := fun it hit => List.mem_append_right _ (hΓ it hit)
  unfold j3 at h
  exact loud rest k m (fun {EV A Pd T st ρ w pend} => ih) h1 h2 hf (fun x hx => (hev x hx).1 k (List.mem_cons_self ..)) (fun x hx => ⟨fun j hj => (hev x hx).1 j (List.mem_cons_of_mem _ hj), (hev x hx).2⟩) hpd hs hp h next pnext
 | l2 m k1 r1 k2 r2 ih1 ih2 =>
  intro EV A Pd T st ρ w pend h1 h2 hf hev hpd hs hp h next pnext
  have hΓ' : ∀ it ∈ X.Γ, it ∈ EVI EV ++ Φ := fun it hit => List.mem_append_right _ (hΓ it hit)
  unfold j3 at h
  obtain ⟨h3, h4⟩ := BL h
  exact Pw (loud r1 k1 m (fun {EV A Pd T st ρ w pend} => ih1) h1 h2 hf (fun x hx => (hev x hx).1 k1 (List.mem_cons_self ..)) (fun x hx => ⟨fun j hj => (hev x hx).1 j (List.mem_cons_of_mem _ (List.mem_cons_of_mem _ (List.mem_append_left _ hj))), fun j hj => (hev x hx).2 j (List.mem_append_left _ hj)⟩) hpd hs hp h3 next pnext)
   (loud r2 k2 m (fun {EV A Pd T st ρ w pend} => ih2) h1 h2 hf (fun x hx => (hev x hx).1 k2 (List.mem_cons_of_mem _ (List.mem_cons_self ..))) (fun x hx => ⟨fun j hj => (hev x hx).1 j (List.mem_cons_of_mem _ (List.mem_cons_of_mem _ (List.mem_append_right _ hj))), fun j hj => (hev x hx).2 j (List.mem_append_right _ hj)⟩) hpd hs hp h4 next pnext)
 | f k m fl fs rest ih =>
  intro EV A Pd T st ρ w pend h1 h2 hf hev hpd hs hp h next pnext
  unfold j3 at h
  obtain ⟨hc, h⟩ := al h
  simp only [Bool.and_eq_true, List.all_eq_true] at hc
  obtain ⟨hfl, hpd0⟩ := hc
  have hrun : ∀ f ∈ fl, ∃ o p d, ops[f]? = some o ∧ vn X T (frA fr A) st o = some p ∧ o.dst = some d ∧ gq o = true ∧ Nat.blt d fr.n = true ∧ cN st.E fr.F d = none ∧ (∀ t ∈ o.looksAt ops.toArray, t ≠ d) ∧
    (∀ j ∈ k :: rest.ops, ki ops.toArray j f = true) ∧ ∀ j ∈ fl ++ rest.fls, j = f ∨ ki ops.toArray j f = true := fun f hf => by
   have := hfl f hf
   unfold Px at this
   simp only [Bool.and_eq_true, List.all_eq_true, Bool.or_eq_true] at this
   obtain ⟨⟨g1, g2⟩, g3⟩ := this
   split at g1
   ·rename_i o ho
    split at g1
    ·rename_i p d hp hd
     simp only [Bool.and_eq_true, List.all_eq_true] at g1
     obtain ⟨⟨⟨g4, g5⟩, g6⟩, g7⟩ := g1
     refine ⟨o, p, d, ho, hp, hd, g4, g5, ?_, fun t ht hc => ?_, g2, fun j hj => (g3 j hj).imp Nat.eq_of_beq_eq_true id⟩
     ·split at g6
      ·cases g6
      ·assumption
     ·have := g7 t ht
      rw [hc] at this
      simp at this
    ·cases g1
   ·cases g1
  have nxp : ∀ (EV : List Flt) (a : Act) (w : World), Aw ops (.f k m fl fs rest) EV → Sat (items ρ T st.G ++ (items ρ T (A ++ fr.H) ++ (EVI EV ++ Φ))) w → Fits fr.n (ai ρ T st.E fr.F) a → a.defers = D → (∀ x ∈ EV, ml X.P ops.toArray a x) →
    (∀ f ∈ fs, f ∈ EV.map (·.1)) → wpOpIn (FW σ) 0 X.P ops.toArray (QN Q) k (fun a' w' => eQ (still .any ops.toArray k pend) w' ∧ wpD X.P σ ops.toArray (QN Q) rest ((EV.map (·.1)).filter fun f => !(bY f fs)) (still .any ops.toArray k pend) a' w') a w := by
   intro EV a w hev hs hfit hD hC hall
   obtain ⟨st1, ρ1, k1, k2, k3, k4, k5, k6, k7⟩ := Fk (frx := frA fr A) h1 hs hfit hC hall h
   have hev' : ∀ x ∈ EV.filter (fun x => !(bY x.1 fs)), (∀ j ∈ k :: rest.ops, ki ops.toArray j x.1 = true) ∧ ∀ j ∈ rest.fls, j = x.1 ∨ ki ops.toArray j x.1 = true := fun x hx =>
    ⟨(hev x (List.mem_filter.1 hx).1).1, fun j hj => (hev x (List.mem_filter.1 hx).1).2 j (List.mem_append_right _ hj)⟩
   have HP' : HP ρ1 T fr A Pd pend := fun p hpm w2 hw hB => by
    have k6 : items ρ1 T (A ++ fr.H) = items ρ T (A ++ fr.H) := k6
    rw [k6] at hw
    exact hp p hpm w2 hw (fun x hx he => (qU k2 (hpd x hx)).1 (hB x hx he))
   have hl := loud rest k 0 (fun {EV A Pd T st ρ w pend} => ih) (EV := EV.filter fun x => !(bY x.1 fs)) (pend := pend) k4 h2 hf (fun x hx => (hev' x hx).1 k (List.mem_cons_self ..)) (fun x hx => ⟨fun j hj => (hev' x hx).1 j (List.mem_cons_of_mem _ hj), (hev' x hx).2⟩)
    (fun x hx => ⟨Nat.lt_of_lt_of_le (hpd x hx).1 k3, fun u hu => Nat.lt_of_lt_of_le ((hpd x hx).2 u hu) k3⟩) k7 HP' k1 (fun st2 ρ2 w2 b1 b2 b3 b4 => next st2 ρ2 w2 (k2.trans b1 k3) (Nat.le_trans k3 b2) b3 b4) (fun v st2 ρ2 w2 b1 b2 b3 b4 => pnext v st2 ρ2 w2 (k2.trans b1 k3) (Nat.le_trans k3 b2) b3 b4)
   have := hl a k5 hD (fun x hx => hC x (List.mem_filter.1 hx).1)
   simp only [wpD] at this
   have e : (EV.map (·.1)).filter (fun f => !(bY f fs)) = (EV.filter fun x => !(bY x.1 fs)).map (·.1) := by
    rw [List.filter_map]; rfl
   rw [e]
   split at this
   ·exact this.elim
   ·exact this
  have main : ∀ (nf : Nat) (EV : List Flt) (a : Act) (w : World), Aw ops (.f k m fl fs rest) EV → Sat (items ρ T st.G ++ (items ρ T (A ++ fr.H) ++ (EVI EV ++ Φ))) w → Fits fr.n (ai ρ T st.E fr.F) a → a.defers = D → (∀ x ∈ EV, ml X.P ops.toArray a x) →
    wpE X.P σ ops.toArray (QN Q) fl pend (fun ea a w => (∀ f ∈ fs, f ∈ ea) → wpOpIn (FW σ) 0 X.P ops.toArray (QN Q) k (fun a' w' => eQ (still .any ops.toArray k pend) w' ∧ wpD X.P σ ops.toArray (QN Q) rest (ea.filter fun f => !(bY f fs)) (still .any ops.toArray k pend) a' w') a w) nf (EV.map (·.1)) a w := by
   intro nf
   induction nf with
   | zero => exact fun EV a w hev hs hfit hD hC => nxp EV a w hev hs hfit hD hC
   | succ nf ihf =>
    intro EV a w hev hs hfit hD hC
    refine ⟨nxp EV a w hev hs hfit hD hC, fun f hf' hm => ?_⟩
    obtain ⟨o, p, d, r1, r2, r3, r4, r5, r6, r7, r8, r9⟩ := hrun f hf'
    obtain ⟨e, vs, cs⟩ := p
    obtain ⟨gn, ns⟩ := Nn r2
    have ho' : ops.toArray[f]? = some o := by simpa using r1
    have hR := DN (ρ := ρ) r2 w _ a hfit
    have hw : Region.wanted o (yielded ops.toArray a.tmps) = true := by simp [Region.wanted, gn]
    have hdn : look (ai ρ T st.E fr.F) d = none := by rw [eN, r6]; rfl
    have hne : ∀ x ∈ EV, f ≠ x.1 := fun x hx hc => by
     have : bY f (EV.map (·.1)) = true := bW.2 (List.mem_map.2 ⟨x, hx, hc.symm⟩)
     rw [hm] at this; cases this
    have hs1 : Sat (box w.heap.size e (AV.ae ρ cs) :: (items ρ T st.G ++ (items ρ T (A ++ fr.H) ++ (EVI EV ++ Φ)))) (w.alloc (.cells (AV.ae ρ cs).toArray e)) := hs.push (dO _ _) (fun b hb => by
     have : b = w.heap.size := by simpa [box] using hb
     subst this; simp) (fun _ _ => heap_alloc_new w _)
    have hs2 : Sat (items ρ T st.G ++ (items ρ T (A ++ fr.H) ++ (EVI ((f, w.heap.size, e, AV.ae ρ cs) :: EV) ++ Φ))) (w.alloc (.cells (AV.ae ρ cs).toArray e)) := by
     have h0 : Sat ([] ++ box w.heap.size e (AV.ae ρ cs) :: ((items ρ T st.G ++ items ρ T (A ++ fr.H)) ++ (EVI EV ++ Φ))) (w.alloc (.cells (AV.ae ρ cs).toArray e)) := by
      rw [List.append_assoc]; exact hs1
     have := h0.move
     rw [List.nil_append, List.append_assoc] at this
     exact this
    have hfit' := hfit.P5 hdn (s9 o w.heap.size)
    have hflo : ∀ x ∈ (f, w.heap.size, e, AV.ae ρ cs) :: EV, ml X.P ops.toArray (a.put o.dst (s9 o w.heap.size)) x := fun x hx => by
     rcases List.mem_cons.1 hx with rfl | hx
     ·refine ⟨o, d, w, ho', r3, ns, rfl, ?_, ?_⟩
      ·rw [r3]
       have hlt : d < a.tmps.size := by rw [hfit.size]; simpa using r5
       show (a.tmps.setIfInBounds d _).getD d undef = _
       simp [Array.getD, hlt]
      ·rw [execOp_put (ops := ops.toArray) o ns a o.dst _ (fun t ht hc => r7 t hc (by rw [r3] at ht; exact (Option.some.inj ht).symm))]
       exact hR
     ·refine (hC x hx).put ho' ?_
      rcases (hev x hx).2 f (List.mem_append_left _ hf') with h9 | h9
      ·exact absurd h9 (hne x hx)
      ·exact h9
    unfold wpOpIn
    simp only [ho', hw, if_true]
    refine ie r4 ?_
    rw [hR, Oper.uponIn_value]
    refine ⟨F0 fun p hpm => hp p hpm _ ⟨EVI ((f, w.heap.size, e, AV.ae ρ cs) :: EV) ++ Φ, hs2.qn⟩ (fun x hx _ => DW hs2 hpd0 x hx), ?_⟩
    have := ihf ((f, w.heap.size, e, AV.ae ρ cs) :: EV) (a.put o.dst (s9 o w.heap.size)) _ (fun x hx => ?_) hs2 (by rw [r3]; exact hfit') (by rw [fu]; exact hD) hflo
    ·exact this
    ·rcases List.mem_cons.1 hx with rfl | hx
     ·exact ⟨r8, r9⟩
     ·exact hev x hx
  intro a hfit hD hC
  simp only [wpD]
  exact main fl.length EV a w hev hs hfit hD hC
end
end Go.Proofs.YtdhgpnejphlfpaaDoor
namespace Go.Proofs.YtdhgpnejphlfpaaDoor
open Go.Lib
/-! what a piece of code assigns -/
def bz : Code → Nat
 | .region _ ops _ => ops.toList.foldl (fun m o => match o.dst with | some d => Nat.lor m (Nat.shiftLeft 1 d) | none => m) 0
 | .seq a b => Nat.lor (bz a) (bz b)
 | .cond _ a b => Nat.lor (bz a) (bz b)
 | .block _ c => bz c
 | .loop c => bz c
 | .scope c => bz c
 | .rangeFunc _ ps a b => Nat.lor (ps.toList.foldl (fun m d => Nat.lor m (Nat.shiftLeft 1 d)) 0) (Nat.lor (bz a) (bz b))
 | _ => 0
def yr (t : Nat) : List (Bool × Nat × Pt) → Bool
 | [] => false
 | x :: l => (!x.1 && Nat.beq x.2.1 t) || yr t l
def nn (m : Nat) (vs : List (Bool × Nat × Pt)) (t : Nat) : Bool := !(Nat.testBit m t) && !(yr t vs)
def iX (m : Nat) (vs : List (Bool × Nat × Pt)) : aj → aj
 | [] => []
 | x :: E => ifS ( nn m vs x.1 ) ( x :: iX m vs E ) ( iX m vs E )
def jO (m : Nat) (vs : List (Bool × Nat × Pt)) : aj → aj
 | [] => []
 | x :: E => ifS ( nn m vs x.1 ) ( jO m vs E ) ( x :: jO m vs E )
theorem BA {m : Nat} {vs : List (Bool × Nat × Pt)} {t : Nat} : {E : aj} → aH E t = ifS (nn m vs t) (aH (iX m vs E) t) (aH (jO m vs E) t) ∧ aH (ifS (nn m vs t) (jO m vs E) (iX m vs E)) t = none
 | [] => by cases nn m vs t <;> exact ⟨rfl, rfl⟩
 | (t', g, v) :: E => by
  obtain ⟨ih1, ih2⟩ := BA (m := m) (vs := vs) (t := t) (E := E)
  cases hb : Nat.beq t' t
  ·rw [dh hb]
   unfold iX jO
   cases h1 : nn m vs t' <;> cases h2 : nn m vs t <;> rw [h2] at ih1 ih2 <;> first
    | exact ⟨by rw [dh hb]; exact ih1, ih2⟩
    | exact ⟨ih1, by rw [dh hb]; exact ih2⟩
    | exact ⟨ih1, ih2⟩
  ·have e := Nat.eq_of_beq_eq_true hb
   subst e
   rw [eO hb]
   unfold iX jO
   cases h1 : nn m vs t' <;> rw [h1] at ih2
   ·exact ⟨(eO hb).symm, ih2⟩
   ·exact ⟨(eO hb).symm, ih2⟩
theorem Ii {m : Nat} {vs : List (Bool × Nat × Pt)} {t : Nat} {E F : aj} : cN (jO m vs E) (iX m vs E ++ F) t = cN E F t := by
 have app : ∀ A B : aj, aH (A ++ B) t = match aH A t with | some x => some x | none => aH B t := fun A B => by
  induction A with
  | nil => rfl
  | cons x A ih =>
   obtain ⟨t', g, v⟩ := x
   cases hb : Nat.beq t' t
   ·rw [List.cons_append, dh hb, dh hb]; exact ih
   ·rw [List.cons_append, eO hb, eO hb]
 obtain ⟨h1, h2⟩ := BA (m := m) (vs := vs) (t := t) (E := E)
 unfold cN
 rw [app]
 cases hk : nn m vs t <;> rw [hk] at h1 h2
 ·rw [show aH (iX m vs E) t = none from h2, h1]
 ·rw [show aH (jO m vs E) t = none from h2, h1]
  rfl
theorem Jc {ρ : Nms} {E E' F F' : aj} (h : ∀ t, cN E' F' t = cN E F t) : gB (ai ρ [] E' F') (ai ρ [] E F) := fun t p hp => by
 rw [eN] at hp ⊢
 rw [← h]; exact hp
mutual
def AV.ids : AV → List Nat
 | .ptr id _ | .sl id | .adr id _ | .mp id | .nv id | .sfp id _ => [id]
 | .agg l | .tuple l => AV.Dm l
 | .fn _ a b => AV.Dm a ++ AV.Dm b
 | .ifc _ v => v.ids
 | _ => []
def AV.Dm : List AV → List Nat
 | [] => []
 | v :: l => v.ids ++ AV.Dm l
end
def LY (res : AV → AV) (ids : List Nat) : List Row → List Nat
 | [] => []
 | r :: G => (match r with
  | .box j _ vs => ifS (ma j ids) (AV.Dm (vs.map res)) []
  | _ => []) ++ LY res ids G
def reach (st : StB) (fr : Fr) (ts : List Nat) : List Nat :=
 let a := (ts.map fun t => match cN st.E fr.F t with
  | some (_, v) => v.ids
  | none => []).flatten
 let b := a ++ LY (nw st.G fr.H) a st.G
 b ++ LY (nw st.G fr.H) b st.G
def gG (ids : List Nat) (r : Row) : Bool := ma r.id ids
def ir (ids : List Nat) (c : Nat) : List Row → List Row × List Row × Nat
 | [] => ([], [], c)
 | r :: G => match r with
  | .box j t vs => ifS ( ma j ids ) ( match iB c vs with
   | (cs, R, c) => match ir ids c G with
    | (G, R', c) => (.box j t cs :: G, R ++ R', c) ) <| match ir ids c G with
   | (G, R', c) => (.box j t vs :: G, R', c)
  | r => match ir ids c G with
   | (G, R', c) => (r :: G, R', c)
def bxs : List Row → List (List AV)
 | [] => []
 | r :: G => (match r with
  | .box _ _ cs => cs :: bxs G
  | _ => bxs G)
structure MK (c : Nat) (G : List Row) (ρ ρ' : Nms) (x : List Row × List Row × Nat) : Prop where
 ag : ax c ρ ρ'
 le : c ≤ x.2.2
 eq : items ρ' [] x.1 = items ρ [] G
 lw : aO x.2.2 x.1 = true
 rl : aO x.2.2 x.2.1 = true
 rp : ∀ r ∈ x.2.1, (r.item ρ' []).cC = true ∧ ∀ M w, (r.item ρ' []).P M w
 bx : (bxs x.1).map (AV.ae ρ') = (bxs G).map (AV.ae ρ)
theorem vZ {ρ ρ' : Nms} {c : Nat} (ha : ax c ρ ρ') : {G : List Row} → aO c G = true → (bxs G).map (AV.ae ρ') = (bxs G).map (AV.ae ρ)
 | [], _ => rfl
 | r :: G, h => by
  simp only [aO, Bool.and_eq_true] at h
  have ih := vZ ha h.2
  cases r with
  | box j t cs =>
   have h1 := h.1
   simp only [Row.low, Bool.and_eq_true] at h1
   show AV.ae ρ' cs :: (bxs G).map (AV.ae ρ') = AV.ae ρ cs :: (bxs G).map (AV.ae ρ)
   rw [ih, AV.aX ha _ h1.2]
  | _ => exact ih
theorem uB {ids : List Nat} : {G : List Row} → {c : Nat} → {ρ : Nms} → aO c G = true → ∃ ρ', MK c G ρ ρ' (ir ids c G)
 | [], c, ρ, h => ⟨ρ, .refl, Nat.le_refl _, rfl, rfl, rfl, (fun _ h => by cases h), rfl⟩
 | r :: G, c, ρ, h => by
  simp only [aO, Bool.and_eq_true] at h
  have other : (∀ t cs j, r = .box j t cs → ma j ids = false) → ir ids c (r :: G) = (match ir ids c G with | (G, R', c) => (r :: G, R', c)) → ∃ ρ', MK c (r :: G) ρ ρ' (ir ids c (r :: G)) := fun _ e => by
   obtain ⟨ρ', l⟩ := uB (ids := ids) (c := c) (ρ := ρ) h.2
   rw [e]
   generalize ir ids c G = L at l
   obtain ⟨G', R, c'⟩ := L
   refine ⟨ρ', l.ag, l.le, ?_, ?_, l.rl, l.rp, ?_⟩
   ·have := l.eq
    simp only [items, List.map_cons] at this ⊢
    rw [this, Row.qe l.ag h.1]
   ·simp only [aO, Bool.and_eq_true]
    exact ⟨Row.dK l.le h.1, l.lw⟩
   ·have hb : (bxs G').map (AV.ae ρ') = (bxs G).map (AV.ae ρ) := l.bx
    cases r with
    | box j t cs =>
     have h1 := h.1
     simp only [Row.low, Bool.and_eq_true] at h1
     show AV.ae ρ' cs :: (bxs G').map (AV.ae ρ') = AV.ae ρ cs :: (bxs G).map (AV.ae ρ)
     rw [hb, AV.aX l.ag _ h1.2]
    | _ => exact hb
  cases r with
  | box j t vs =>
   cases hm : ma j ids
   ·exact other (fun t cs j h => by cases h; exact hm) (by simp only [ir, hm])
   ·have hr := h.1
    simp only [Row.low, Bool.and_eq_true, Nat.blt_eq] at hr
    obtain ⟨ρ1, l1⟩ := uQ (ρ := ρ) hr.2
    have e : ir ids c (.box j t vs :: G) = (match iB c vs with
     | (cs, R, c) => match ir ids c G with
      | (G, R', c) => (.box j t cs :: G, R ++ R', c)) := by simp only [ir, hm]
    rw [e]
    generalize iB c vs = L at l1
    obtain ⟨cs, R, c1⟩ := L
    obtain ⟨ρ2, l2⟩ := uB (ids := ids) (c := c1) (ρ := ρ1) (o8 l1.le h.2)
    dsimp only
    generalize ir ids c1 G = L at l2
    obtain ⟨G', R', c2⟩ := L
    have hle1 : c ≤ c1 := l1.le
    have hle2 : c1 ≤ c2 := l2.le
    have hag : ax c ρ ρ2 := l1.ag.trans l2.ag l1.le
    refine ⟨ρ2, hag, Nat.le_trans hle1 hle2, ?_, ?_, lR (o8 hle2 l1.rl) l2.rl, ?_, ?_⟩
    ·have e2 := l2.eq
     simp only [items, List.map_cons, Row.item] at e2 ⊢
     have hlw : AV.aY c1 cs = true := l1.lw
     have heq : AV.ae ρ1 cs = AV.ae ρ vs := l1.eq
     rw [e2, hag _ hr.1, AV.aX l2.ag _ hlw, heq]
     have := aE (T := []) l1.ag h.2
     simp only [items] at this
     rw [this]
    ·simp only [aO, Row.low, Bool.and_eq_true, Nat.blt_eq]
     exact ⟨⟨by omega, AV.gI hle2 _ l1.lw⟩, l2.lw⟩
    ·intro r hr
     rcases List.mem_append.1 hr with hr | hr
     ·have hrl : r.low c1 = true := by
       have key : ∀ {R : List Row}, aO c1 R = true → ∀ r ∈ R, r.low c1 = true := fun {R} => by
        induction R with
        | nil => intro _ r h; cases h
        | cons x R ih =>
         intro h r hr
         simp only [aO, Bool.and_eq_true] at h
         rcases List.mem_cons.1 hr with rfl | hr
         ·exact h.1
         ·exact ih h.2 r hr
       exact key l1.rl r hr
      rw [Row.qe l2.ag hrl]
      exact l1.rp r hr
     ·exact l2.rp r hr
    ·have hb : (bxs G').map (AV.ae ρ2) = (bxs G).map (AV.ae ρ1) := l2.bx
     show AV.ae ρ2 cs :: (bxs G').map (AV.ae ρ2) = AV.ae ρ vs :: (bxs G).map (AV.ae ρ)
     have hlw : AV.aY c1 cs = true := l1.lw
     have heq : AV.ae ρ1 cs = AV.ae ρ vs := l1.eq
     rw [hb, AV.aX l2.ag _ hlw, heq, vZ l1.ag h.2]
  | _ => exact other (fun t cs j h => by cases h) rfl
end Go.Proofs.YtdhgpnejphlfpaaDoor
namespace Go.Proofs.YtdhgpnejphlfpaaDoor
open Go.Lib
def oT (E F : aj) (t : Nat) : Option AV := match cN E F t with
 | some (none, v) => some v
 | _ => none
theorem sQ {ρ : Nms} {E F : aj} {t : Nat} {v : AV} (h : oT E F t = some v) : look (ai ρ [] E F) t = some (true, v.val ρ) := by
 unfold oT at h
 split at h
 ·rename_i v' hv
  cases h
  rw [eN, hv]
  simp
 ·cases h
def Ae (st : StB) (fr : Fr) : List (Bool × Nat × Pt) → List Nat
 | [] => []
 | x :: l => (ifS x.1 (match cN st.E fr.F x.2.1 with
  | some (_, v) => v.ids
  | none => []) []) ++ Ae st fr l
mutual
def Ku (G H : List Row) : Pt → AV → List Nat
 | .own _ _ _, v => v.ids
 | .mp _ _ _, v => v.ids
 | .it, v => v.ids
 | .bx _ _ _ vs, v => (match v with
  | .ptr j _ => j :: xH G H vs (cellsOf G H j)
  | _ => [])
 | .agg l, v => (match v with
  | .agg vs => xH G H l vs
  | _ => [])
 | .tup l, v => (match v with
  | .tuple vs => xH G H l vs
  | _ => [])
 | .fn _ a b, v => (match v with
  | .fn _ a' b' => xH G H a a' ++ xH G H b b'
  | _ => [])
 | .ifc _ p, v => (match v with
  | .ifc _ u => Ku G H p u
  | _ => [])
 | .dat _ o, v => ifS (o.all (fun x => x.isNone)) [] v.ids
 | _, _ => []
def xH (G H : List Row) : List Pt → List AV → List Nat
 | [], _ => []
 | p :: l, vs => (match vs with
  | v :: vs => Ku G H p (nw G H v) ++ xH G H l vs
  | [] => [])
end
def LH (st : StB) (fr : Fr) : List (Bool × Nat × Pt) → List Nat
 | [] => []
 | x :: l => (match cN st.E fr.F x.2.1 with
  | some (_, v) => Ku st.G fr.H x.2.2 (nw st.G fr.H v)
  | none => []) ++ LH st fr l
structure En where
 fr : Fr
 E : aj
 G : List Row
 Et : aj
 Gt : List Row
 c : Nat
 fix : Nat → FxA
def Lk (E F : aj) (G : List Row) (t : Nat) : FxA := match cN E F t with
 | some (_, v) => some (v, match v with
  | .ptr j _ => cellsOf G [] j
  | _ => [])
 | none => none
def enter (fr : Fr) (tm : Tm) (m : Nat) (st : StB) : En :=
 let ids := LH st fr tm.vs ++ reach st fr tm.th
 match ir (Ae st fr tm.vs) st.c (aL (gG ids) st.G) with
 | (Gt, R, c) => ⟨⟨iX m tm.vs st.E ++ fr.F, (R ++ aL (fun r => !(gG ids r)) st.G) ++ fr.H, fr.n⟩, iX m tm.vs st.E, R ++ aL (fun r => !(gG ids r)) st.G, jO m tm.vs st.E, Gt, c, Lk st.E fr.F Gt⟩
structure Qq (fr : Fr) (st : StB) (Φ : Ctx) (w : World) (ρ ρ' : Nms) (en : En) : Prop where
 ag : ax st.c ρ ρ'
 le : st.c ≤ en.c
 ff : en.fr.F = en.E ++ fr.F
 fh : en.fr.H = en.G ++ fr.H
 fn : en.fr.n = fr.n
 lF : aj.low en.c en.fr.F = true
 lH : aO en.c en.fr.H = true
 sub : gB (ai ρ' [] en.Et en.fr.F) (ai ρ [] st.E fr.F)
 sat : Sat (items ρ' [] en.Gt ++ (items ρ' [] en.fr.H ++ Φ)) w
 fx : ∀ t q, en.fix t = some q → q.1.low en.c = true ∧ AV.aY en.c q.2 = true
theorem aj.dK {c d : Nat} (hcd : c ≤ d) : {E : aj} → E.low c = true → E.low d = true
 | [], _ => rfl
 | x :: E, h => by
  simp only [aj.low, Bool.and_eq_true] at h ⊢
  exact ⟨AV.dK hcd _ h.1, aj.dK hcd h.2⟩
theorem aj.ve {c : Nat} : {E F : aj} → E.low c = true → F.low c = true → aj.low c (E ++ F) = true
 | [], _, _, h => h
 | x :: E, F, h, k => by
  simp only [List.cons_append, aj.low, Bool.and_eq_true] at h ⊢
  exact ⟨h.1, aj.ve h.2 k⟩
theorem uS {c : Nat} : {E : aj} → E.low c = true → {t : Nat} → {x : GK × AV} → aH E t = some x → x.2.low c = true
 | [], _, _, _, h => by cases h
 | (t', g, v) :: E, h, t, x, hx => by
  simp only [aj.low, Bool.and_eq_true] at h
  cases hb : Nat.beq t' t
  ·rw [dh hb] at hx; exact uS h.2 hx
  ·rw [eO hb] at hx; cases hx; exact h.1
theorem wL {c m : Nat} {vs : List (Bool × Nat × Pt)} : {E : aj} → E.low c = true → (iX m vs E).low c = true
 | [], _ => rfl
 | x :: E, h => by
  simp only [aj.low, Bool.and_eq_true] at h
  unfold iX
  cases nn m vs x.1
  ·exact wL h.2
  ·show aj.low c (x :: iX m vs E) = true
   simp only [aj.low, Bool.and_eq_true]
   exact ⟨h.1, wL h.2⟩
theorem wZ {c m : Nat} {vs : List (Bool × Nat × Pt)} : {E : aj} → E.low c = true → (jO m vs E).low c = true
 | [], _ => rfl
 | x :: E, h => by
  simp only [aj.low, Bool.and_eq_true] at h
  unfold jO
  cases nn m vs x.1
  ·show aj.low c (x :: jO m vs E) = true
   simp only [aj.low, Bool.and_eq_true]
   exact ⟨h.1, wZ h.2⟩
  ·exact wZ h.2
theorem sD {c : Nat} {p : Row → Bool} : {G : List Row} → aO c G = true → aO c (aL p G) = true
 | [], _ => rfl
 | r :: G, h => by
  simp only [aO, Bool.and_eq_true] at h
  unfold aL
  cases p r
  ·exact sD h.2
  ·show aO c (r :: aL p G) = true
   simp only [aO, Bool.and_eq_true]
   exact ⟨h.1, sD h.2⟩
theorem Fb {c : Nat} {G : List Row} {j : Nat} (h : aO c G = true) : AV.aY c (cellsOf G [] j) = true := by
 unfold cellsOf
 split
 ·rename_i s j' t cs hf
  obtain ⟨f1, _⟩ := bk hf
  cases s with
  | top i =>
   have := mE h (show G[i]? = some _ from f1)
   simp only [Row.low, Bool.and_eq_true] at this
   exact this.2
  | frz i => have f1 : ([] : List Row)[i]? = some _ := f1; simp at f1
  | nilI => exact f1.elim
  | nilO => exact f1.elim
  | nilM => exact f1.elim
 ·rfl
theorem Lh {c : Nat} {E F : aj} {G : List Row} (hE : E.low c = true) (hF : F.low c = true) (hG : aO c G = true) {t : Nat} {q : AV × List AV} (h : Lk E F G t = some q) : q.1.low c = true ∧ AV.aY c q.2 = true := by
 unfold Lk at h
 split at h
 ·rename_i v hv
  cases h
  refine ⟨?_, ?_⟩
  ·unfold cN at hv
   split at hv
   ·rename_i x hx; cases hv; exact uS hE hx
   ·exact uS hF hv
  ·split
   ·exact Fb hG
   ·rfl
 ·cases h
theorem oy {fr : Fr} {tm : Tm} {m : Nat} {st : StB} {ρ : Nms} {Φ : Ctx} {w : World} (hl : st.low fr = true) (hs : Sat (items ρ [] st.G ++ (items ρ [] fr.H ++ Φ)) w) : ∃ ρ', Qq fr st Φ w ρ ρ' (enter fr tm m st) := by
 obtain ⟨l1, l2, l3, l4⟩ := StB.bM.1 hl
 unfold enter
 dsimp only
 generalize LH st fr tm.vs ++ reach st fr tm.th = ids
 have hs1 := oI (A := []) (p := gG ids) hs
 obtain ⟨ρ', l⟩ := uB (ids := Ae st fr tm.vs) (c := st.c) (ρ := ρ) (sD (p := gG ids) l3)
 generalize ir (Ae st fr tm.vs) st.c (aL (gG ids) st.G) = L at l
 obtain ⟨Gt, R, c⟩ := L
 have hle : st.c ≤ c := l.le
 have hE := wL (m := m) (vs := tm.vs) l1
 have hp := sD (p := fun r => !(gG ids r)) l3
 refine ⟨ρ', l.ag, hle, rfl, rfl, rfl, ?_, ?_, ?_, ?_, fun t q hq => ?_⟩
 ·exact aj.ve (aj.dK hle hE) (aj.dK hle l2)
 ·exact lR (lR l.rl (o8 hle hp)) (o8 hle l4)
 ·have e1 : ai ρ' [] (jO m tm.vs st.E) (iX m tm.vs st.E ++ fr.F) = ai ρ [] (jO m tm.vs st.E) (iX m tm.vs st.E ++ fr.F) := by
   rw [ai, ai, kU l.ag (wZ l1), kU l.ag (aj.ve hE l2)]
  show gB (ai ρ' [] (jO m tm.vs st.E) (iX m tm.vs st.E ++ fr.F)) _
  rw [e1]
  exact Jc fun t => Ii
 ·show Sat (items ρ' [] Gt ++ (items ρ' [] ((R ++ aL (fun r => !(gG ids r)) st.G) ++ fr.H) ++ Φ)) w
  have e1 : items ρ' [] Gt = items ρ [] (aL (gG ids) st.G) := l.eq
  have e2 : items ρ' [] (aL (fun r => !(gG ids r)) st.G ++ fr.H) = items ρ [] (aL (fun r => !(gG ids r)) st.G ++ fr.H) := aE l.ag (lR hp l4)
  rw [List.append_assoc, aG, e1, e2]
  have hs2 : Sat (items ρ [] (aL (gG ids) st.G) ++ (items ρ [] (aL (fun r => !(gG ids r)) st.G ++ fr.H) ++ Φ)) w := by simpa using hs1
  have hadd : ∀ (L : List Item) (A B : Ctx), (∀ it ∈ L, it.cC = true ∧ ∀ M w, it.P M w) → Sat (A ++ B) w → Sat (A ++ (L ++ B)) w := fun L A B hL h => by
   have h1 := qY h L (fun it hit => ⟨(hL it hit).1, (hL it hit).2 _ _⟩)
   have mv : ∀ (L : List Item) (A B : Ctx), Sat (L ++ (A ++ B)) w → Sat (A ++ (L ++ B)) w := fun L => by
    induction L with
    | nil => intro A B h; exact h
    | cons x L ih =>
     intro A B h
     have h2 : Sat ([] ++ x :: ((L ++ A) ++ B)) w := by simpa using h
     have h3 : Sat ([] ++ ((L ++ A) ++ x :: B)) w := h2.move
     have h4 : Sat (L ++ (A ++ x :: B)) w := by simpa using h3
     have h5 : Sat (A ++ (L ++ x :: B)) w := ih _ _ h4
     have h6 : Sat (A ++ (L ++ [x] ++ B)) w := by simpa using h5
     -- x goes ahead of L
     refine h6.qi (fun j k => (j < A.length ∧ k = j) ∨ (j = A.length ∧ k = A.length + L.length) ∨ (A.length < j ∧ j ≤ A.length + L.length ∧ k + 1 = j) ∨ (A.length + L.length < j ∧ k = j)) (fun j jt hj => ?_) (fun j k q hjk h1 h2 => by omega)
     by_cases c1 : j < A.length
     ·rw [List.getElem?_append_left c1] at hj
      exact .inr ⟨j, jt, .inl ⟨c1, rfl⟩, by rw [List.getElem?_append_left c1]; exact hj, aU.refl⟩
     ·rw [List.getElem?_append_right (by omega)] at hj
      by_cases c2 : j = A.length
      ·subst c2
       simp at hj
       subst hj
       refine .inr ⟨A.length + L.length, x, .inr (.inl ⟨rfl, rfl⟩), ?_, aU.refl⟩
       rw [List.getElem?_append_right (by omega)]
       have : A.length + L.length - A.length = L.length := by omega
       rw [this]; simp
      ·have e9 : j - A.length = (j - A.length - 1) + 1 := by omega
       rw [e9, List.cons_append, List.getElem?_cons_succ] at hj
       by_cases c3 : j ≤ A.length + L.length
       ·rw [List.getElem?_append_left (by omega)] at hj
        refine .inr ⟨j - 1, jt, .inr (.inr (.inl ⟨by omega, c3, by omega⟩)), ?_, aU.refl⟩
        rw [List.getElem?_append_right (by omega), List.append_assoc, List.getElem?_append_left (by omega)]
        rw [show j - 1 - A.length = j - A.length - 1 by omega]; exact hj
       ·rw [List.getElem?_append_right (by omega)] at hj
        refine .inr ⟨j, jt, .inr (.inr (.inr ⟨by omega, rfl⟩)), ?_, aU.refl⟩
        rw [List.getElem?_append_right (by omega), List.getElem?_append_right (by simp; omega)]
        have : j - A.length - (L ++ [x]).length = j - A.length - 1 - L.length := by simp; omega
        rw [this]; exact hj
   exact mv L A B h1
  have := hadd (items ρ' [] R) (items ρ [] (aL (gG ids) st.G)) (items ρ [] (aL (fun r => !(gG ids r)) st.G ++ fr.H) ++ Φ) (fun it hit => by
   obtain ⟨r, hr, rfl⟩ := List.mem_map.1 hit
   exact l.rp r hr) hs2
  simpa using this
 ·exact Lh (aj.dK hle l1) (aj.dK hle l2) l.lw hq
/-! coming backT -/
def zq (G H : List Row) (look : Nat → Option AV) (fix : Nat → FxA) : List (Bool × Nat × Pt) → List Nat
 | [] => []
 | x :: l => (match (ifS x.1 ((fix x.2.1).map (·.1)) (look x.2.1)) with
  | some v => lC G H x.2.2 v
  | none => []) ++ zq G H look fix l
def zy (F : aj) (vs : List (Bool × Nat × Pt)) : aj → Bool
 | [] => true
 | x :: E => (yr x.1 vs || lD (aH F x.1)) && zy F vs E
def xx (en : En) (tm : Tm) (E : aj) (G : List Row) : List Row := frz (zq G en.fr.H (oT E en.fr.F) en.fix tm.vs) G
def gV (en : En) (tm : Tm) (E : aj) (G : List Row) : Option (Tup (eK tm.vs)) :=
 match mtV (xx en tm E G) en.fr.H (oT E en.fr.F) en.fix tm.vs [] with
 | some mr => ifS (qS (mr.S.map fun x => cr (xx en tm E G) en.fr.H x.2) && ltT (xx en tm E G).length (mr.S.map fun x => cr (xx en tm E G) en.fr.H x.2) && zy en.fr.F tm.vs E) (tup _ mr.D) none
 | none => none
def rowsOf (R : List (Bool × Row)) : List Row := R.map (·.2)
def bF (en : En) (tm : Tm) (s : Tup (eK tm.vs)) (h : HT) : StB := match dE (fun n => en.c + n) en.fix tm.vs 0 (unt _ s) with
 | ⟨E, R, k, _⟩ => ⟨en.c + k, E, rowsOf R, h⟩
def eb (en : En) (tm : Tm) (s : Tup (eK tm.vs)) (h : HT) : StB := match dE (fun n => en.c + n) en.fix tm.vs 0 (unt _ s) with
 | ⟨E, R, k, _⟩ => ⟨en.c + k, E ++ en.E, rowsOf R ++ en.G, h⟩
def qX (en : En) (st : StB) : StB := { st with E := st.E ++ en.E, G := st.G ++ en.G }
theorem Sat.xC {w : World} {A C : Ctx} : ∀ {B : Ctx}, Sat (A ++ (B ++ C)) w → Sat (A ++ C) w
 | [], h => h
 | _x :: B, h => Sat.xC (B := B) (Sat.sf h)
theorem BD {nm : Nat → Nat} {fix : Nat → FxA} {t : Nat} : {l : List (Bool × Nat × Pt)} → {n : Nat} → {D : List Dyn} → yr t l = true → aH (dE nm fix l n D).E t ≠ none
 | [], n, D, h => by cases h
 | (b, t', p) :: l, n, D, h => by
  unfold dE
  dsimp only
  generalize fill nm p (ifS b (fix t') none) none n D = L
  obtain ⟨v, R, k, DD, XX⟩ := L
  dsimp only
  generalize hg : dE nm fix l k DD = L2
  obtain ⟨E2, R2, k2, DD2⟩ := L2
  dsimp only
  have ih : yr t l = true → aH E2 t ≠ none := fun h' => by
   have := BD (nm := nm) (fix := fix) (n := k) (D := DD) h'
   rw [hg] at this; exact this
  simp only [yr, Bool.or_eq_true, Bool.and_eq_true] at h
  cases b
  ·show aH ((t', none, v) :: E2) t ≠ none
   cases hb : Nat.beq t' t
   ·rw [dh hb]
    rcases h with ⟨_, h⟩ | h
    ·rw [hb] at h; cases h
    ·exact ih h
   ·rw [eO hb]; simp
  ·show aH E2 t ≠ none
   rcases h with ⟨h, _⟩ | h
   ·cases h
   ·exact ih h
theorem CW {F : aj} {vs : List (Bool × Nat × Pt)} {t : Nat} : {E : aj} → {x : GK × AV} → zy F vs E = true → aH E t = some x → yr t vs = true ∨ aH F t = none
 | [], x, _, h => by cases h
 | (t', g, v) :: E, x, hb, h => by
  simp only [zy, Bool.and_eq_true, Bool.or_eq_true] at hb
  cases hq : Nat.beq t' t
  ·rw [dh hq] at h; exact CW hb.2 h
  ·have e := Nat.eq_of_beq_eq_true hq
   subst e
   rcases hb.1 with h1 | h1
   ·exact .inl h1
   ·cases hF : aH F t' with
    | none => exact .inr rfl
    | some y => rw [hF] at h1; cases h1
section
variable {en : En} {tm : Tm} {Φ : Ctx} {w : World} {ρ : Nms}
theorem jY {E : aj} {G : List Row} {s : Tup (eK tm.vs)} (lF : aj.low en.c en.fr.F = true) (lH : aO en.c en.fr.H = true) (fx : ∀ t q, en.fix t = some q → q.1.low en.c = true ∧ AV.aY en.c q.2 = true)
  (hs : Sat (items ρ [] G ++ (items ρ [] en.fr.H ++ Φ)) w) (h : gV en tm E G = some s) :
  ∃ ρ' E' R k D, dE (fun n => en.c + n) en.fix tm.vs 0 (unt _ s) = ⟨E', R, k, D⟩ ∧ ax en.c ρ ρ' ∧ gB (ai ρ' [] E' en.fr.F) (ai ρ [] E en.fr.F) ∧ Sat (items ρ' [] (rowsOf R) ++ (items ρ' [] en.fr.H ++ Φ)) w := by
 unfold gV at h
 have hs0 := gf (ids := zq G en.fr.H (oT E en.fr.F) en.fix tm.vs) hs
 change Sat (items ρ [] (xx en tm E G) ++ _) w at hs0
 generalize xx en tm E G = G' at h hs0
 split at h
 ·rename_i mr hm
  obtain ⟨h1, h2⟩ := al h
  simp only [Bool.and_eq_true] at h1
  obtain ⟨⟨h3, h4⟩, h5⟩ := h1
  obtain ⟨N, I, s1, n1, a1⟩ := An hs0 tm.vs [] mr [] hm .nil
  rw [← oH _ h2] at s1
  obtain ⟨p1, _⟩ := uI hs0 a1
  obtain ⟨q1, _⟩ := mL hs0 p1 (mO h3)
  rw [oA h4] at q1
  have q2 := q1.xC
  -- names
  have hag : ax en.c ρ (fun i => ifS (Nat.blt i en.c) (ρ i) ((N[i - en.c]?).getD nm0)) := fun j hj => by
   have : Nat.blt j en.c = true := by simpa using hj
   simp only [this]
  have hnm : nQ (fun i => ifS (Nat.blt i en.c) (ρ i) ((N[i - en.c]?).getD nm0)) (fun n => en.c + n) 0 N := fun i a ha => by
   have : Nat.blt (en.c + i) en.c = false := by
    cases hb : Nat.blt (en.c + i) en.c
    ·rfl
    ·simp only [Nat.blt_eq] at hb; omega
   simp only [this, show en.c + i - en.c = i by omega, ha, Option.getD_some]
   exact ⟨trivial, trivial, trivial, fun _ => trivial⟩
  generalize (fun i => ifS (Nat.blt i en.c) (ρ i) ((N[i - en.c]?).getD nm0)) = ρ' at hag hnm
  have e1 : (fun i => iU ρ (en.fix i)) = fun i => iU ρ' (en.fix i) := by
   funext i
   cases hq : en.fix i with
   | none => rfl
   | some q =>
    obtain ⟨k1, k2⟩ := fx i q hq
    show some (q.1.val ρ, AV.ae ρ q.2) = some (q.1.val ρ', AV.ae ρ' q.2)
    rw [AV.iF hag _ k1, AV.aX hag _ k2]
  rw [e1] at s1
  obtain ⟨b1, b2, b3, b4⟩ := yI (T := []) (nm := fun n => en.c + n) tm.vs [] (unt _ s) I (cK ρ mr.X) N s1 hnm (Nat.zero_le _) []
  simp only [List.append_nil, List.length_nil] at b1 b2 b3 b4
  generalize hF : dE (fun n => en.c + n) en.fix tm.vs 0 (unt _ s) = L at b1 b2 b3 b4
  obtain ⟨E', R, k, D⟩ := L
  refine ⟨ρ', E', R, k, D, rfl, hag, fun t p hp => ?_, ?_⟩
  ·rw [eN] at hp
   cases hk : aH E' t with
   | some x =>
    have hk2 : look (aj.env ρ' [] E') t = some (Tbl.get [] x.1, x.2.val ρ') := by rw [mn, hk]; rfl
    obtain ⟨c1, c2⟩ := b1 t _ hk2
    have e2 : cN E' en.fr.F t = some x := by unfold cN; rw [hk]
    rw [e2] at hp
    simp only [Option.map_some, Option.some.injEq] at hp
    subst hp
    simp only at c1 c2
    cases hpl : oT E en.fr.F t with
    | none => rw [hpl] at c2; cases c2
    | some v =>
     rw [hpl] at c2
     simp only [Option.map_some, Option.some.injEq] at c2
     rw [sQ hpl, c1, c2]
   | none =>
    have e2 : cN E' en.fr.F t = aH en.fr.F t := by unfold cN; rw [hk]
    rw [e2] at hp
    cases hFt : aH en.fr.F t with
    | none => rw [hFt] at hp; cases hp
    | some y =>
     rw [hFt] at hp
     simp only [Option.map_some, Option.some.injEq] at hp
     have hE : aH E t = none := by
      cases hE : aH E t with
      | none => rfl
      | some z =>
       rcases CW h5 hE with h6 | h6
       ·have := BD (nm := fun n => en.c + n) (fix := en.fix) (n := 0) (D := unt _ s) h6
        rw [hF] at this
        exact (this hk).elim
       ·rw [hFt] at h6; cases h6
     rw [eN]
     unfold cN
     rw [hE, hFt, ← hp]
     simp only [Option.map_some]
     rw [AV.iF hag _ (uS lF hFt)]
  ·have q3 := Sat.leL (A := []) (B := cF I) (C := items ρ [] en.fr.H ++ Φ) q2 b4.rw
   rw [aE hag lH]
   exact q3
 ·cases h
end
end Go.Proofs.YtdhgpnejphlfpaaDoor
namespace Go.Proofs.YtdhgpnejphlfpaaDoor
open Go.Lib
def MZ (P : Program) (o : Oper) : Bool := match o.op with
 | .store .. | .alloc _ | .box .. | .buildSlice .. | .makeSlice .. | .makeMap .. | .mapUpdate .. | .insert .. | .range .. | .next .. | .defer _ | .panic _ => true
 | .convert s d _ => isStr P s && !(isStr P d)
 | .call ⟨.builtin b, _, _⟩ => (match b with
  | .len | .cap | .min | .max | .unsafeSliceData => false
  | _ => true)
 | .call _ => true
 | _ => false
def Hx (q : Bool) (m : Nat) : Nat → List (Nat × Bool) → Option Nat
 | _, [] => none
 | k, x :: l => ifS ( AN x.2 (!q) && !(Nat.testBit m k) && uM x.1 m ) ( some k ) <| Hx q m (k + 1) l
def D6 (l : List (Nat × Bool)) : Nat → Nat → OT
 | 0, _ => .nil
 | n + 1, m => match Hx true m 0 l with
  | some k => .q k m (D6 l n (bit m k))
  | none => match Hx false m 0 l with
   | none => .nil
   | some k => match Hx false m (k + 1) (l.drop (k + 1)) with
    | none => .l k m (D6 l n (bit m k))
    | some j => .l2 m k (D6 l n (bit m k)) j (D6 l n (bit m j))
def Qy (o : Oper) : Bool := match o.op, o.guard with
 | .alloc _, none => true
 | .buildSlice .., none => true
 | _, _ => false
def KH (kd m : Nat) : Nat → List (Nat × Nat) → Option (Nat × Nat)
 | _, [] => none
 | k, x :: l => ifS ( Nat.beq x.2 kd && !(Nat.testBit m k) && uM x.1 m ) ( some (k, x.1) ) <| KH kd m (k + 1) l
def AA (m : Nat) : Nat → List (Nat × Nat) → List Nat
 | _, [] => []
 | k, x :: l => ifS ( Nat.beq x.2 2 && !(Nat.testBit m k) && uM x.1 m ) ( k :: AA m (k + 1) l ) <| AA m (k + 1) l
def Me (l : List (Nat × Nat)) : Nat → Nat → OT
 | 0, _ => .nil
 | n + 1, m => match KH 0 m 0 l with
  | some p => .q p.1 m (Me l n (bit m p.1))
  | none => match KH 1 (fV m (AA m 0 l)) 0 l with
   | none => .nil
   | some p => .f p.1 m (AA m 0 l) ((AA m 0 l).filter fun f => Nat.testBit p.2 f) (Me l n (bit (fV m ((AA m 0 l).filter fun f => Nat.testBit p.2 f)) p.1))
noncomputable def MU {R : Type} (X : Cx) (tb : List Ent) (tp : List bc) (KP : AV → StB → Option R) (ops : Array Oper) (fr : Fr) (th : List Nat) (t : OT) (st : StB) (K : Go_ R) : Option R :=
 ifS ( X.P.follows .mixedOrders && C5 ops (ops.toList.map fun o => fS o.after.toList) t ) (
  j3 X tb tp KP ops.toList fr t (aL (fun r => !(gG (reach st fr th) r)) st.G) [] [] { st with G := aL (gG (reach st fr th)) st.G } K ) none
def Lv (fr : Fr) (st : StB) : List Nat → List Nat
 | [] => []
 | t :: th => ifS (Nat.ble 20000 t) ((match cN st.E fr.F (t - 20000) with
  | some (_, v) => AV.sls v ++ (match v with
   | .ptr id _ => (match lx (sN id) st.G with
    | some (_, .box _ _ cs) => ((cs.map (nw st.G fr.H)).map AV.sls).flatten
    | _ => [])
   | _ => [])
  | none => []) ++ Lv fr st th) (Lv fr st th)
def yR (fr : Fr) (st : StB) (th : List Nat) : StB := match Lv fr st th with
 | [] => st
 | ids => { st with G := frz ids st.G }
theorem Ft {fr : Fr} {st : StB} {th : List Nat} {ρ : Nms} {T : Tbl} {B : Ctx} {w : World} (h : Sat (items ρ T st.G ++ B) w) :
  (yR fr st th).c = st.c ∧ (yR fr st th).E = st.E ∧ Sat (items ρ T (yR fr st th).G ++ B) w := by
 unfold yR
 split
 ·exact ⟨rfl, rfl, h⟩
 ·exact ⟨rfl, rfl, gf h⟩
noncomputable def uz {R : Type} (X : Cx) (tb : List Ent) (tp : List bc) (KP : AV → StB → Option R) (ops : Array Oper) (fr : Fr) (th : List Nat) (st : StB) (K : Go_ R) : Option R :=
 MU X tb tp KP ops fr th (cond (bY 40000 th) (Me (ops.toList.map fun o => (fS o.after.toList, cond (Qy o) 2 (cond (MZ X.P o) 1 0))) ops.toList.length 0) (D6 (ops.toList.map fun o => (fS o.after.toList, MZ X.P o)) ops.toList.length 0)) (yR fr st th) K
abbrev brk {R : Type} (i : Nat) (K : XE → StB → Option R) : XE → StB → Option R
 | .ext j, st => ifS ( Nat.beq j i ) ( K .nrm st ) ( K (.ext j) st )
 | e, st => K e st
abbrev thn {R : Type} (K1 : StB → Option R) (K : XE → StB → Option R) : XE → StB → Option R
 | .nrm, st => K1 st
 | e, st => K e st
abbrev cnd {R : Type} (b : Bool) (d1 d2 : HT → Option R) (h : HT) : Option R := match h with
 | .c p q => cond b (d1 p) (d2 q)
 | h => cond b (d1 h) (d2 h)
def Dg (fr : Fr) (st : StB) : StB := match st.h with
 | .r (30000 :: th) h => yR fr { st with h := h } th
 | _ => st
theorem Nw {fr : Fr} {st : StB} {ρ : Nms} {T : Tbl} {B : Ctx} {w : World} (h : Sat (items ρ T st.G ++ B) w) :
  (Dg fr st).c = st.c ∧ (Dg fr st).E = st.E ∧ Sat (items ρ T (Dg fr st).G ++ B) w := by
 unfold Dg
 split
 ·rename_i th h' _
  exact Ft (st := { st with h := h' }) h
 ·exact ⟨rfl, rfl, h⟩
noncomputable def den {R : Type} (X : Cx) (tb : List Ent) (tp : List bc) : Code → Fr → (XE → StB → Option R) → StB → Option R
 | .skip, _, K, st => K .nrm st
 | .label _, _, K, st => K .nrm st
 | .exit i, _, K, st => K (.ext i) st
 | .goto l, _, K, st => K (.gto l) st
 | .ret, _, K, st => K .ret st
 | .block i c, fr, K, st => den X tb tp c fr (brk i K) (Dg fr st)
 | .cond c x y, fr, K, st => match opA [] st.E fr.F none c with
  | some (.bool b) => cnd b (fun h => den X tb tp x fr K { st with h := h }) (fun h => den X tb tp y fr K { st with h := h }) st.h
  | _ => none
 | .seq x y, fr, K, st => match st.h with
  | .j tm p q => ifS (st.low fr) (
   ah (fun s : Tup (eK tm.vs) => den X tb tp y fr K (eb (enter fr tm (bz x) st) tm s q)) fun k =>
   den X tb tp x (enter fr tm (bz x) st).fr (thn (fun st' => match gV (enter fr tm (bz x) st) tm st'.E st'.G with
     | some s => k s
     | none => none) (fun e st' => K e (qX (enter fr tm (bz x) st) st'))) ⟨(enter fr tm (bz x) st).c, (enter fr tm (bz x) st).Et, (enter fr tm (bz x) st).Gt, p⟩ ) none
  | .s h => den X tb tp x fr (thn (den X tb tp y fr K) K) { st with h := h }
  | _ => den X tb tp x fr (thn (den X tb tp y fr K) K) st
 | .loop c, fr, K, st => match st.h with
  | .l tm p => ifS (st.low fr) (
   match gV (enter fr tm (bz c) st) tm (enter fr tm (bz c) st).Et (enter fr tm (bz c) st).Gt with
   | some s => an (fun again s => den X tb tp c (enter fr tm (bz c) st).fr (thn (fun st' => match gV (enter fr tm (bz c) st) tm st'.E st'.G with
      | some s => again s
      | none => none) (fun e st' => K e (qX (enter fr tm (bz c) st) st'))) (bF (enter fr tm (bz c) st) tm s p)) X.fl s
   | none => none ) none
  | _ => none
 | .region _ ops false, fr, K, st => qT X tb tp (fun v st => K (.panE v) st) ops.toList fr ops.toList [] st (K .nrm)
 | .region _ ops true, fr, K, st => match st.h with
  | .r th h => uz X tb tp (fun v st => K (.pan v) st) ops fr th { st with h := h } (K .nrm)
  | _ => uz X tb tp (fun v st => K (.pan v) st) ops fr [] st (K .nrm)
 | _, _, _, _ => none
def XE.ex : XE → Exit
 | .nrm => .normal
 | .ret => .ret
 | .ext i => .exit i
 | .gto l => .goto l
 | .pan _ => .goto 0
 | .panE _ => .goto 0
def AtX (Q : aC) (e : XE) (ρ : Nms) (n : Nat) (D : List Deferred) (E : Env) (w : World) : Prop := match e with
 | .pan v => AtP Q (pan (v.val ρ)) D w
 | .panE v => At Q (.panic (pan (v.val ρ))) n D E w
 | e => At Q e.ex n D E w
def ix {R : Type} (Q : aC) (D : List Deferred) (fr : Fr) (Φ : Ctx) (c0 : Nat) (ρ0 : Nms) (r : R) (K : XE → StB → Option R) : Prop :=
 ∀ e st ρ w, ax c0 ρ0 ρ → c0 ≤ st.c → K e st = some r → Sat (items ρ [] st.G ++ (items ρ [] fr.H ++ Φ)) w → AtX Q e ρ fr.n D (ai ρ [] st.E fr.F) w
theorem ix.less {R : Type} {Q : aC} {D : List Deferred} {fr : Fr} {Φ : Ctx} {c0 c1 : Nat} {ρ0 ρ1 : Nms} {r : R} {K : XE → StB → Option R} (h : ix Q D fr Φ c0 ρ0 r K) (ha : ax c0 ρ0 ρ1) (hc : c0 ≤ c1) : ix Q D fr Φ c1 ρ1 r K :=
 fun e st ρ w h1 h2 h3 h4 => h e st ρ w (ha.trans h1 hc) (Nat.le_trans hc h2) h3 h4
section
variable {P : Program} {ρ : Option Nat} {Q : aC} {n : Nat} {D : List Deferred} {E : Env} {w : World}
theorem C2 {σ γ τ : Type} {F : (σ → Option τ) → σ → Option τ} {r : τ} (J : σ → γ → World → Prop) (Es : σ → γ → Env) {body : Code}
  {N : Nat} {s0 : σ} (hm : an F N s0 = some r) (g0 : γ) (h0 : J s0 g0 w) (hE : gB (Es s0 g0) E)
  (round : ∀ again s g w, F again s = some r → J s g w → WC P ρ body (Exit.then (qs again r J Es n D) Q) n D (Es s g) w) :
  WC P ρ (.loop body) Q n D E w := fun a hf hd =>
 tG (fun m => qs (an F m) r J Es n D) N ⟨s0, g0, hm, h0, hf.jh hE, hd⟩ fun m a w ⟨s, g, hs, hJ, hF, hD⟩ => by
  obtain ⟨m', rfl, hs'⟩ := pn hs
  exact wpIn_mono (round (an F m') s g w hs' hJ a hF hD) fun e a w h => by
   cases e <;> first | exact h | exact ⟨m', Nat.lt_succ_self _, h⟩
theorem BO {σ γ τ : Type} {again : σ → Option τ} {r : τ} {J : σ → γ → World → Prop} {Es : σ → γ → Env}
  (s : σ) (g : γ) (hm : again s = some r) (hJ : J s g w) (hs : gB (Es s g) E) : At (Exit.then (qs again r J Es n D) Q) .normal n D E w :=
 fun _a hf hd => ⟨s, g, hm, hJ, hf.jh hs, hd⟩
theorem J9 {γ : Type} {J : γ → World → Prop} {Es : γ → Env} (g : γ) (hJ : J g w) (hs : gB (Es g) E) : At (Exit.then (yD J Es n D) Q) .normal n D E w :=
 fun _a hf hd => ⟨g, hJ, hf.jh hs, hd⟩
theorem fY {K : Act → World → Prop} {e : XE} {ρ : Nms} (hne : e ≠ .nrm) (h : AtX Q e ρ n D E w) : AtX (Exit.then K Q) e ρ n D E w := by
 cases e <;> first | exact (hne rfl).elim | exact h
end
section
variable {X : Cx} {tb : List Ent} {tp : List bc} {σ : Option Nat} {D : List Deferred} {R : Type} {r : R} {Φ : Ctx}
theorem yQ {Q : aC} {fr : Fr} {c0 i : Nat} {ρ0 : Nms} {K : XE → StB → Option R} (h : ix Q D fr Φ c0 ρ0 r K) : ix (Exit.inBlock i Q) D fr Φ c0 ρ0 r (brk i K) := fun e st ρ w h1 h2 h3 h4 => by
 cases e with
 | nrm => exact Cc (h .nrm st ρ w h1 h2 h3 h4)
 | ret => exact Hm (h .ret st ρ w h1 h2 h3 h4)
 | gto l => exact ER (h (.gto l) st ρ w h1 h2 h3 h4)
 | pan v => exact N3 (h (.pan v) st ρ w h1 h2 h3 h4)
 | panE v => exact DV (h (.panE v) st ρ w h1 h2 h3 h4)
 | ext j =>
  unfold brk at h3
  rcases cW h3 with ⟨h5, h6⟩ | ⟨h5, h6⟩
  ·have := Nat.eq_of_beq_eq_true h5
   subst this
   exact Fe (h .nrm st ρ w h1 h2 h6 h4)
  ·exact CU h5 (h (.ext j) st ρ w h1 h2 h6 h4)
theorem ln {K1 : StB → Option R} {K : XE → StB → Option R} {e : XE} {st : StB} (hne : e ≠ .nrm) : thn K1 K e st = K e st := by
 cases e <;> first | exact (hne rfl).elim | rfl
theorem mP {Q : aC} {fr : Fr} {c0 : Nat} {ρ0 ρ1 : Nms} {en : En} {K : XE → StB → Option R} (h : ix Q D fr Φ c0 ρ0 r K) (ag : ax c0 ρ0 ρ1) (le : c0 ≤ en.c) (ff : en.fr.F = en.E ++ fr.F) (fh : en.fr.H = en.G ++ fr.H) (fn : en.fr.n = fr.n) :
  ∀ e st ρ w, ax en.c ρ1 ρ → en.c ≤ st.c → K e (qX en st) = some r → Sat (items ρ [] st.G ++ (items ρ [] en.fr.H ++ Φ)) w → AtX Q e ρ en.fr.n D (ai ρ [] st.E en.fr.F) w := fun e st ρ w h1 h2 h3 h4 => by
 have := h e (qX en st) ρ w (ag.trans h1 le) (Nat.le_trans le h2) h3 (by
  show Sat (items ρ [] (st.G ++ en.G) ++ _) w
  rw [fh] at h4
  rw [aG, List.append_assoc]
  rw [aG, List.append_assoc] at h4
  exact h4)
 rw [fn, ff]
 have e1 : ai ρ [] st.E (en.E ++ fr.F) = ai ρ [] (qX en st).E fr.F := by
  show aj.env ρ [] st.E ++ aj.env ρ [] (en.E ++ fr.F) = aj.env ρ [] (st.E ++ en.E) ++ aj.env ρ [] fr.F
  rw [jQ, jQ, List.append_assoc]
 rw [e1]; exact this
theorem M5 {Q : aC} {fr : Fr} {st : StB} {ρ : Nms} {w : World} {K : XE → StB → Option R} (hΓ : ∀ it ∈ X.Γ, it ∈ Φ) (htb : ∀ e ∈ tb, e.Ok X.P X.Γ) (htp : ∀ e ∈ tp, e.Ok X.P X.Γ) {id : Nat} {ops : Array Oper} (hs : Sat (items ρ [] st.G ++ (items ρ [] fr.H ++ Φ)) w)
  (h : qT X tb tp (fun v st => K (.panE v) st) ops.toList fr ops.toList [] st (K .nrm) = some r) (hK : ix Q D fr Φ st.c ρ r K) : WC X.P σ (.region id ops false) Q fr.n D (ai ρ [] st.E fr.F) w := by
 obtain ⟨l⟩ := ops
 exact wP (Fm hΓ htb htp (fun x h => by cases h) (fun x h => by cases h) ⟨fun x _ => rfl, fun x _ => rfl⟩ hs h (fun st' ρ' w' a1 a2 a3 a4 => hK .nrm st' ρ' w' a1 a2 a3 a4) (fun v st' ρ' w' a1 a2 a3 a4 => hK (.panE v) st' ρ' w' a1 a2 a3 a4))
theorem yH {Q : aC} {fr : Fr} {st : StB} {ρ : Nms} {w : World} {K : XE → StB → Option R} (hΓ : ∀ it ∈ X.Γ, it ∈ Φ) (htb : ∀ e ∈ tb, e.Ok X.P X.Γ) (htp : ∀ e ∈ tp, e.Ok X.P X.Γ) {id : Nat} {ops : Array Oper} {th : List Nat} (hs : Sat (items ρ [] st.G ++ (items ρ [] fr.H ++ Φ)) w)
  (h : uz X tb tp (fun v st => K (.pan v) st) ops fr th st (K .nrm) = some r) (hK : ix Q D fr Φ st.c ρ r K) : WC X.P σ (.region id ops true) Q fr.n D (ai ρ [] st.E fr.F) w := by
 obtain ⟨l⟩ := ops
 unfold uz at h
 generalize cond (bY 40000 th) _ _ = t at h
 obtain ⟨z1, z2, hs⟩ := Ft (fr := fr) (th := th) hs
 rw [← z1] at hK
 rw [← z2]
 generalize yR fr st th = st at h hs hK
 unfold MU at h
 obtain ⟨h1, h2⟩ := al h
 simp only [Bool.and_eq_true] at h1
 refine z8 _ t h1.1 h1.2 (fun w1 hE => ?_)
 have hs1 := oI (A := []) (p := gG (reach st fr th)) (hs.ext hE)
 exact WDE.wd (Np (EV := []) (st := { st with G := aL (gG (reach st fr th)) st.G }) hΓ htb htp (fun x h => by cases h) (fun x h => by cases h) ⟨fun x _ => rfl, fun x _ => rfl⟩ (fun x h => by cases h) (fun x h => by cases h) hs1 (fun p h => by cases h) h2 (fun st' ρ' w' a1 a2 a3 a4 => hK .nrm st' ρ' w' a1 a2 a3 a4) (fun v st' ρ' w' a1 a2 a3 a4 => hK (.pan v) st' ρ' w' a1 a2 a3 a4))
theorem yu {b : Bool} {d1 d2 : HT → Option R} {h : HT} (hh : cnd b d1 d2 h = some r) : ∃ p q, (b = true → d1 p = some r) ∧ (b = false → d2 q = some r) := by
 unfold cnd at hh
 split at hh
 ·rename_i p q
  rcases qQ hh with ⟨h1, h2⟩ | ⟨h1, h2⟩
  ·exact ⟨p, q, fun _ => h2, fun e => by rw [h1] at e; cases e⟩
  ·exact ⟨p, q, (fun e => by rw [h1] at e; cases e), fun _ => h2⟩
 ·rcases qQ hh with ⟨h1, h2⟩ | ⟨h1, h2⟩
  ·exact ⟨_, h, fun _ => h2, fun e => by rw [h1] at e; cases e⟩
  ·exact ⟨h, _, (fun e => by rw [h1] at e; cases e), fun _ => h2⟩
theorem eV (hΓ : ∀ it ∈ X.Γ, it ∈ Φ) (htb : ∀ e ∈ tb, e.Ok X.P X.Γ) (htp : ∀ e ∈ tp, e.Ok X.P X.Γ) : ∀ (c : Code) {Q : aC} {fr : Fr} {K : XE → StB → Option R} {st : StB} {ρ : Nms} {w : World}, Sat (items ρ [] st.G ++ (items ρ [] fr.H ++ Φ)) w →
  den X tb tp c fr K st = some r → ix Q D fr Φ st.c ρ r K → WC X.P σ c Q fr.n D (ai ρ [] st.E fr.F) w
 | .skip, Q, fr, K, st, ρ, w, hs, h, hK => Ge (hK .nrm st ρ w .refl (Nat.le_refl _) (by unfold den at h; exact h) hs)
 | .label _, Q, fr, K, st, ρ, w, hs, h, hK => Ec (hK .nrm st ρ w .refl (Nat.le_refl _) (by unfold den at h; exact h) hs)
 | .exit i, Q, fr, K, st, ρ, w, hs, h, hK => AG (hK (.ext i) st ρ w .refl (Nat.le_refl _) (by unfold den at h; exact h) hs)
 | .goto l, Q, fr, K, st, ρ, w, hs, h, hK => FU (hK (.gto l) st ρ w .refl (Nat.le_refl _) (by unfold den at h; exact h) hs)
 | .ret, Q, fr, K, st, ρ, w, hs, h, hK => DS (hK .ret st ρ w .refl (Nat.le_refl _) (by unfold den at h; exact h) hs)
 | .block i c, Q, fr, K, st, ρ, w, hs, h, hK => by
  obtain ⟨z1, z2, z3⟩ := Nw (fr := fr) hs
  unfold den at h
  rw [← z2]
  rw [← z1] at hK
  exact y5 (eV hΓ htb htp c z3 h (yQ hK))
 | .cond c x y, Q, fr, K, st, ρ, w, hs, h, hK => by
  unfold den at h
  split at h
  ·rename_i b hb
   have hc := bp (ρ := ρ) hb
   simp only [AV.val] at hc
   obtain ⟨p, q, h1, h2⟩ := yu h
   exact As hc (fun hb => eV hΓ htb htp x (st := { st with h := p }) hs (h1 hb) hK) (fun hb => eV hΓ htb htp y (st := { st with h := q }) hs (h2 hb) hK)
  ·cases h
 | .seq x y, Q, fr, K, st, ρ, w, hs, h, hK => by
  have plain : ∀ h', den X tb tp x fr (thn (den X tb tp y fr K) K) { st with h := h' } = some r → WC X.P σ (.seq x y) Q fr.n D (ai ρ [] st.E fr.F) w := fun h' hd => by
   refine rn (eV hΓ htb htp x (st := { st with h := h' }) hs hd (fun e st' ρ' w' a1 a2 a3 a4 => ?_))
   by_cases he : e = .nrm
   ·subst he
    exact mW (eV hΓ htb htp y a4 a3 (hK.less a1 a2))
   ·rw [ln he] at a3
    exact fY he (hK e st' ρ' w' a1 a2 a3 a4)
  unfold den at h
  split at h
  ·rename_i tm p q hh
   obtain ⟨hl, h2⟩ := al h
   obtain ⟨ρ1, en⟩ := oy (tm := tm) (m := bz x) hl hs
   generalize enter fr tm (bz x) st = E0 at h2 en
   unfold ah at h2
   refine Hf (γ := Tup (eK tm.vs) × Nms) (fun g w' => den X tb tp y fr K (eb E0 tm g.1 q) = some r ∧ ax E0.c ρ1 g.2 ∧ Sat (items g.2 [] (eb E0 tm g.1 q).G ++ (items g.2 [] fr.H ++ Φ)) w') (fun g => ai g.2 [] (eb E0 tm g.1 q).E fr.F) (fun g w' hg => ?_) ?_
   ·obtain ⟨g1, g2, g3⟩ := hg
    refine eV hΓ htb htp y g3 g1 (hK.less (en.ag.trans g2 en.le) ?_)
    have : E0.c ≤ (eb E0 tm g.1 q).c := by
     unfold eb
     generalize dE (fun n => E0.c + n) E0.fix tm.vs 0 (unt _ g.1) = L
     obtain ⟨a, b, c, d⟩ := L
     exact Nat.le_add_right _ _
    exact Nat.le_trans en.le this
   ·have hx := eV hΓ htb htp x (fr := E0.fr) (st := ⟨E0.c, E0.Et, E0.Gt, p⟩) (ρ := ρ1) (Q := Exit.then (yD (fun (g : Tup (eK tm.vs) × Nms) w' => den X tb tp y fr K (eb E0 tm g.1 q) = some r ∧ ax E0.c ρ1 g.2 ∧ Sat (items g.2 [] (eb E0 tm g.1 q).G ++ (items g.2 [] fr.H ++ Φ)) w') (fun g => ai g.2 [] (eb E0 tm g.1 q).E fr.F) fr.n D) Q) en.sat h2 (fun e st' ρ' w' a1 a2 a3 a4 => ?_)
    ·rw [en.fn] at hx
     exact hx.jh _ en.sub
    ·by_cases he : e = .nrm
     ·subst he
      have a3' : (match gV E0 tm st'.E st'.G with | some s => den X tb tp y fr K (eb E0 tm s q) | none => none) = some r := a3
      split at a3'
      ·rename_i s hb
       obtain ⟨ρ2, E', R', k, DD, b1, b2, b3, b4⟩ := jY en.lF en.lH en.fx a4 hb
       have eJ : eb E0 tm s q = ⟨E0.c + k, E' ++ E0.E, rowsOf R' ++ E0.G, q⟩ := by unfold eb; rw [b1]
       rw [en.fn]
       refine J9 (s, ρ2) ⟨a3', a1.trans b2 (Nat.le_refl _), ?_⟩ ?_
       ·rw [eJ]
        show Sat (items ρ2 [] (rowsOf R' ++ E0.G) ++ _) w'
        rw [aG, List.append_assoc]
        rw [en.fh, aG, List.append_assoc] at b4
        exact b4
       ·rw [eJ]
        show gB (aj.env ρ2 [] (E' ++ E0.E) ++ _) _
        rw [en.ff] at b3
        have e2 : ai ρ2 [] E' (E0.E ++ fr.F) = aj.env ρ2 [] (E' ++ E0.E) ++ aj.env ρ2 [] fr.F := by
         show aj.env ρ2 [] E' ++ aj.env ρ2 [] (E0.E ++ fr.F) = _
         rw [jQ, jQ, List.append_assoc]
        rw [← e2, en.ff]; exact b3
      ·cases a3'
     ·rw [ln he] at a3
      have := mP hK en.ag en.le en.ff en.fh en.fn e st' ρ' w' a1 a2 a3 a4
      exact fY he this
  ·rename_i h' hh; exact plain h' h
  ·exact plain st.h h
 | .loop c, Q, fr, K, st, ρ, w, hs, h, hK => by
  unfold den at h
  split at h
  ·rename_i tm p hh
   obtain ⟨hl, h2⟩ := al h
   obtain ⟨ρ1, en⟩ := oy (tm := tm) (m := bz c) hl hs
   generalize enter fr tm (bz c) st = E0 at h2 en
   split at h2
   ·rename_i s0 hb0
    obtain ⟨ρ2, E', R', k, DD, b1, b2, b3, b4⟩ := jY en.lF en.lH en.fx en.sat hb0
    have eL : ∀ s E' R' k DD, dE (fun n => E0.c + n) E0.fix tm.vs 0 (unt _ s) = ⟨E', R', k, DD⟩ → bF E0 tm s p = ⟨E0.c + k, E', rowsOf R', p⟩ := fun s E' R' k DD hb => by unfold bF; rw [hb]
    refine C2 (γ := Nms) (fun s g w' => ax E0.c ρ1 g ∧ Sat (items g [] (bF E0 tm s p).G ++ (items g [] E0.fr.H ++ Φ)) w') (fun s g => ai g [] (bF E0 tm s p).E E0.fr.F) h2 ρ2 ⟨b2, ?_⟩ ?_ (fun again s g w' hag hJ => ?_)
    ·rw [eL _ _ _ _ _ b1]; exact b4
    ·rw [eL _ _ _ _ _ b1]; exact b3.trans en.sub
    ·have hx := eV hΓ htb htp c (fr := E0.fr) (st := bF E0 tm s p) (ρ := g) (Q := Exit.then (qs again r (fun s g w' => ax E0.c ρ1 g ∧ Sat (items g [] (bF E0 tm s p).G ++ (items g [] E0.fr.H ++ Φ)) w') (fun s g => ai g [] (bF E0 tm s p).E E0.fr.F) fr.n D) Q) hJ.2 hag (fun e st' ρ' w2 a1 a2 a3 a4 => ?_)
     ·rw [en.fn] at hx; exact hx
     ·have hc : E0.c ≤ (bF E0 tm s p).c := by
       unfold bF
       generalize dE (fun n => E0.c + n) E0.fix tm.vs 0 (unt _ s) = L
       obtain ⟨a, b, c, d⟩ := L
       exact Nat.le_add_right _ _
      by_cases he : e = .nrm
      ·subst he
       have a3' : (match gV E0 tm st'.E st'.G with | some s => again s | none => none) = some r := a3
       split at a3'
       ·rename_i s' hb
        obtain ⟨ρ3, E2, R2, k2, DD2, d1, d2, d3, d4⟩ := jY en.lF en.lH en.fx a4 hb
        rw [en.fn]
        refine BO s' ρ3 a3' ⟨(hJ.1.trans (a1.less hc) (Nat.le_refl _)).trans d2 (Nat.le_refl _), ?_⟩ ?_
        ·rw [eL _ _ _ _ _ d1]; exact d4
        ·rw [eL _ _ _ _ _ d1]; exact d3
       ·cases a3'
      ·rw [ln he] at a3
       have := mP hK en.ag en.le en.ff en.fh en.fn e st' ρ' w2 (hJ.1.trans (a1.less hc) (Nat.le_refl _)) (Nat.le_trans hc a2) a3 a4
       exact fY he this
   ·cases h2
  ·cases h
 | .region id ops false, Q, fr, K, st, ρ, w, hs, h, hK => M5 hΓ htb htp hs (by unfold den at h; exact h) hK
 | .region id ops true, Q, fr, K, st, ρ, w, hs, h, hK => by
  unfold den at h
  split at h
  ·rename_i th h' hh
   exact yH (st := { st with h := h' }) hΓ htb htp hs h hK
  ·exact yH hΓ htb htp hs h hK
 | .scope _, Q, fr, K, st, ρ, w, hs, h, hK => by unfold den at h; cases h
 | .rangeFunc _ _ _ _, Q, fr, K, st, ρ, w, hs, h, hK => by unfold den at h; cases h
end
end Go.Proofs.YtdhgpnejphlfpaaDoor
namespace Go.Proofs.YtdhgpnejphlfpaaDoor
open Go.Lib
def jF (l : Nat) : Code → Bool
 | .label j => j == l
 | .seq x y => jF l x || jF l y
 | _ => false
theorem ND {l : Nat} : (c : Code) → jF l c = false → findLabel c l = none := fun c => by
 induction c with
 | label j =>
  intro h
  unfold jF at h
  unfold findLabel
  rw [h]; rfl
 | seq x y ihx ihy =>
  intro h
  simp only [jF, Bool.or_eq_false_iff] at h
  simp only [findLabel, ihx h.1, ihy h.2]
 | _ => intro _; rfl
theorem DK {l : Nat} : (c : Code) → jF l c = true → ∃ r, findLabel c l = some r := fun c => by
 induction c with
 | label j =>
  intro h
  unfold jF at h
  unfold findLabel
  rw [h]; exact ⟨_, rfl⟩
 | seq x y ihx ihy =>
  intro h
  simp only [jF, Bool.or_eq_true] at h
  unfold findLabel
  cases hx : findLabel x l with
  | some r => exact ⟨_, rfl⟩
  | none =>
   rcases h with h | h
   ·obtain ⟨r, hr⟩ := ihx h; rw [hx] at hr; cases hr
   ·exact ihy h
 | _ => intro h; cases h
def lab (P : Program) (ρ : Option Nat) (l : Nat) : Code → aC → aC
 | .seq x y, Q => ifS (jF l x) (lab P ρ l x (Exit.then (y.wpIn (FW ρ) 0 P Q) Q)) (lab P ρ l y Q)
 | _, Q => Q
theorem Kc {P : Program} {ρ : Option Nat} {l : Nat} : (c : Code) → {r : Code} → {Q : aC} → {a : Act} → {w : World} → findLabel c l = some r → lab P ρ l c Q .normal a w → r.wpIn (FW ρ) 0 P Q a w := fun c => by
 induction c with
 | label j =>
  intro r Q a w hr h
  unfold findLabel at hr
  split at hr
  ·cases hr; exact wpIn_skip h
  ·cases hr
 | seq x y ihx ihy =>
  intro r Q a w hr h
  unfold lab at h
  unfold findLabel at hr
  cases hx : jF l x
  ·rw [hx] at h
   rw [ND x hx] at hr
   exact ihy hr h
  ·rw [hx] at h
   obtain ⟨r', hr'⟩ := DK x hx
   rw [hr'] at hr
   cases hr
   exact wpIn_seq (ihx hr' h)
 | _ => intro r Q a w hr h; cases hr
def qC (l : Nat) : Code → Nat
 | .seq x y => ifS (jF l x) (Nat.lor (qC l x) (bz y)) (qC l y)
 | _ => 0
def pM (st : StB) : StB := match st.h with
 | .s h => { st with h := h }
 | _ => st
abbrev gtk {R : Type} (l : Nat) (A : StB → Option R) (K : XE → StB → Option R) : XE → StB → Option R
 | .gto j, st => ifS (Nat.beq j l) (A st) none
 | e, st => K e st
noncomputable def xv {R : Type} (X : Cx) (tb : List Ent) (tp : List bc) (l : Nat) (fr : Fr) : Code → (XE → StB → Option R) → StB → Option R
 | .seq x y, K, st => ifS (jF l x) (xv X tb tp l fr x (thn (den X tb tp y fr K) K) st) (xv X tb tp l fr y K st)
 | .label _, K, st => K .nrm st
 | _, _, _ => none
noncomputable def xd {R : Type} (X : Cx) (tb : List Ent) (tp : List bc) (l : Nat) (fr : Fr) (K : XE → StB → Option R) (KL : StB → Option R) : Code → StB → Option R
 | .seq x y, st => ifS (jF l x) (xd X tb tp l fr K KL x (pM st)) (den X tb tp x fr (thn (fun st => xd X tb tp l fr K KL y st) K) (pM st))
 | .label _, st => KL st
 | _, _ => none
noncomputable def LX {R : Type} (X : Cx) (tb : List Ent) (tp : List bc) (c : Code) (fr : Fr) (K : XE → StB → Option R) (st : StB) : Option R := match st.h with
 | .n l (.j tm p q) => ifS (jF l c) (
   xd X tb tp l fr (gtk l (fun _ => none) K) (fun st1 => ifS (st1.low fr) (
     match gV (enter fr tm (qC l c) st1) tm (enter fr tm (qC l c) st1).Et (enter fr tm (qC l c) st1).Gt with
     | some s => an (fun again s => xv X tb tp l (enter fr tm (qC l c) st1).fr c (gtk l (fun st' => match gV (enter fr tm (qC l c) st1) tm st'.E st'.G with
       | some s => again s
       | none => none) (fun e st' => K e (qX (enter fr tm (qC l c) st1) st'))) (bF (enter fr tm (qC l c) st1) tm s q)) X.fl s
     | none => none) none) c { st with h := p }) none
 | _ => none
section
variable {X : Cx} {tb : List Ent} {tp : List bc} {σ : Option Nat} {D : List Deferred} {R : Type} {r : R} {Φ : Ctx}
theorem Gg {Q : aC} {l n : Nat} {E : Env} {w : World} {e : XE} {ρ : Nms} {J : Act → World → Prop} (hne : ∀ j, e ≠ .gto j) (h : AtX Q e ρ n D E w) : AtX (Exit.jump l J Q) e ρ n D E w := by
 cases e <;> first | exact ((hne _) rfl).elim | exact h
theorem LB {l : Nat} (hΓ : ∀ it ∈ X.Γ, it ∈ Φ) (htb : ∀ e ∈ tb, e.Ok X.P X.Γ) (htp : ∀ e ∈ tp, e.Ok X.P X.Γ) : ∀ (c : Code) {Q : aC} {fr : Fr} {K : XE → StB → Option R} {st : StB} {ρ : Nms} {w : World}, Sat (items ρ [] st.G ++ (items ρ [] fr.H ++ Φ)) w →
  xv X tb tp l fr c K st = some r → ix Q D fr Φ st.c ρ r K → ∀ a, Fits fr.n (ai ρ [] st.E fr.F) a → a.defers = D → lab X.P σ l c Q .normal a w := fun c => by
 induction c with
 | label j => intro Q fr K st ρ w hs h hK a hf hd; exact hK .nrm st ρ w .refl (Nat.le_refl _) h hs a hf hd
 | seq x y ihx ihy =>
  intro Q fr K st ρ w hs h hK a hf hd
  unfold xv at h
  unfold lab
  cases hx : jF l x
  ·rw [hx] at h
   exact ihy hs h hK a hf hd
  ·rw [hx] at h
   refine ihx (Q := Exit.then (y.wpIn (FW σ) 0 X.P Q) Q) hs h (fun e st' ρ' w' a1 a2 a3 a4 => ?_) a hf hd
   by_cases he : e = .nrm
   ·subst he
    exact mW (eV hΓ htb htp y a4 a3 (hK.less a1 a2))
   ·rw [ln he] at a3
    exact fY he (hK e st' ρ' w' a1 a2 a3 a4)
 | _ => intro Q fr K st ρ w hs h; cases h
theorem FM {st : StB} : (pM st).c = st.c ∧ (pM st).E = st.E ∧ (pM st).G = st.G := by
 unfold pM
 split <;> exact ⟨rfl, rfl, rfl⟩
theorem IX {l : Nat} (hΓ : ∀ it ∈ X.Γ, it ∈ Φ) (htb : ∀ e ∈ tb, e.Ok X.P X.Γ) (htp : ∀ e ∈ tp, e.Ok X.P X.Γ) {Q0 : aC} {fr : Fr} {K : XE → StB → Option R} {KL : StB → Option R} {c0 : Nat} {ρ0 : Nms} (hK : ix Q0 D fr Φ c0 ρ0 r K) : ∀ (c : Code) {Q : aC} {st : StB} {ρ : Nms} {w : World},
  (∀ e (E : Env) (ρ : Nms) w, e ≠ .nrm → AtX Q0 e ρ fr.n D E w → AtX Q e ρ fr.n D E w) →
  (∀ st1 ρ1 w1, ax c0 ρ0 ρ1 → c0 ≤ st1.c → KL st1 = some r → Sat (items ρ1 [] st1.G ++ (items ρ1 [] fr.H ++ Φ)) w1 → ∀ a, Fits fr.n (ai ρ1 [] st1.E fr.F) a → a.defers = D → lab X.P σ l c Q .normal a w1) →
  jF l c = true → ax c0 ρ0 ρ → c0 ≤ st.c → Sat (items ρ [] st.G ++ (items ρ [] fr.H ++ Φ)) w →
  xd X tb tp l fr K KL c st = some r → WC X.P σ c Q fr.n D (ai ρ [] st.E fr.F) w := fun c => by
 induction c with
 | label j => intro Q st ρ w hQ hL _ ha hc hs h; exact Ec (fun a hf hd => hL st ρ w ha hc h hs a hf hd)
 | seq x y ihx ihy =>
  intro Q st ρ w hQ hL hh ha hc hs h
  obtain ⟨p1, p2, p3⟩ := FM (st := st)
  unfold xd at h
  cases hx : jF l x
  ·rw [hx] at h
   simp only [jF, hx, Bool.false_or] at hh
   refine rn ?_
   have := eV (σ := σ) (D := D) hΓ htb htp x (fr := fr) (st := pM st) (ρ := ρ) (w := w) (Q := Exit.then (y.wpIn (FW σ) 0 X.P Q) Q) (by rw [p3]; exact hs) h (fun e st' ρ' w' a1 a2 a3 a4 => ?_)
   ·rw [p2] at this; exact this
   ·rw [p1] at a1 a2
    by_cases he : e = .nrm
    ·subst he
     refine mW (ihy hQ (fun st1 ρ1 w1 b1 b2 b3 b4 a hf hd => ?_) hh (ha.trans a1 hc) (Nat.le_trans hc a2) a4 a3)
     have := hL st1 ρ1 w1 b1 b2 b3 b4 a hf hd
     unfold lab at this
     rw [hx] at this
     exact this
    ·rw [ln he] at a3
     exact fY he (hQ _ _ _ _ he (hK e st' ρ' w' (ha.trans a1 hc) (Nat.le_trans hc a2) a3 a4))
  ·rw [hx] at h
   refine rn ?_
   have := ihx (Q := Exit.then (y.wpIn (FW σ) 0 X.P Q) Q) (st := pM st) (ρ := ρ) (w := w) (fun e E ρ w hne he => fY hne (hQ e E ρ w hne he)) (fun st1 ρ1 w1 b1 b2 b3 b4 a hf hd => ?_) hx ha (by rw [p1]; exact hc) (by rw [p3]; exact hs) h
   ·rw [p2] at this; exact this
   ·have := hL st1 ρ1 w1 b1 b2 b3 b4 a hf hd
    unfold lab at this
    rw [hx] at this
    exact this
 | _ => intro Q st ρ w hQ hL hh; cases hh
theorem NI {c : Code} {Q : aC} {fr : Fr} {K : XE → StB → Option R} {st : StB} {ρ : Nms} {w : World} (hΓ : ∀ it ∈ X.Γ, it ∈ Φ) (htb : ∀ e ∈ tb, e.Ok X.P X.Γ) (htp : ∀ e ∈ tp, e.Ok X.P X.Γ) (hs : Sat (items ρ [] st.G ++ (items ρ [] fr.H ++ Φ)) w)
  (h : LX X tb tp c fr K st = some r) (hK : ix Q D fr Φ st.c ρ r K) : WC X.P σ (.scope c) Q fr.n D (ai ρ [] st.E fr.F) w := by
 unfold LX at h
 split at h
 ·rename_i l tm p q hh
  obtain ⟨hlab, h0⟩ := al h
  obtain ⟨rest, hrest⟩ := DK c hlab
  -- what holds at the label
  let F : En → (Tup (eK tm.vs) → Option R) → Tup (eK tm.vs) → Option R := fun E0 again s => xv X tb tp l E0.fr c (gtk l (fun st' => match gV E0 tm st'.E st'.G with
     | some s => again s
     | none => none) (fun e st' => K e (qX E0 st'))) (bF E0 tm s q)
  let I : Nat → Act → World → Prop := fun m a w => ∃ (E0 : En) (ρ1 : Nms), (E0.fr.F = E0.E ++ fr.F ∧ E0.fr.H = E0.G ++ fr.H ∧ E0.fr.n = fr.n ∧ aj.low E0.c E0.fr.F = true ∧ aO E0.c E0.fr.H = true ∧ (∀ t q, E0.fix t = some q → q.1.low E0.c = true ∧ AV.aY E0.c q.2 = true)) ∧ ax st.c ρ ρ1 ∧ st.c ≤ E0.c ∧
   qs (an (F E0) m) r (fun s (g : Nms) w' => ax E0.c ρ1 g ∧ Sat (items g [] (bF E0 tm s q).G ++ (items g [] E0.fr.H ++ Φ)) w') (fun s g => ai g [] (bF E0 tm s q).E E0.fr.F) fr.n D a w
  have at_lab : ∀ m a w, I m a w → lab X.P σ l c (Exit.jump l (fun a' w' => ∃ m' < m, I m' a' w') Q) .normal a w := by
   rintro m a w ⟨E0, ρ1, ⟨ff, fh, fn, lF, lH, fx⟩, hag, hle, s, g, hm, hJ, hF, hD⟩
   obtain ⟨m', rfl, hm'⟩ := pn hm
   have eL : ∀ s E' R' k DD, dE (fun n => E0.c + n) E0.fix tm.vs 0 (unt _ s) = ⟨E', R', k, DD⟩ → bF E0 tm s q = ⟨E0.c + k, E', rowsOf R', q⟩ := fun s E' R' k DD hb => by unfold bF; rw [hb]
   have hc : E0.c ≤ (bF E0 tm s q).c := by
    unfold bF
    generalize dE (fun n => E0.c + n) E0.fix tm.vs 0 (unt _ s) = L
    obtain ⟨a, b, c, d⟩ := L
    exact Nat.le_add_right _ _
   refine LB (σ := σ) (D := D) hΓ htb htp c (fr := E0.fr) (st := bF E0 tm s q) (ρ := g) (Q := Exit.jump l (fun a' w' => ∃ m'' < m' + 1, I m'' a' w') Q) hJ.2 hm' (fun e st' ρ' w2 a1 a2 a3 a4 => ?_) a (by rw [fn]; exact hF) hD
   by_cases he : ∃ j, e = .gto j
   ·obtain ⟨j, rfl⟩ := he
    unfold gtk at a3
    obtain ⟨hj, a5⟩ := al a3
    have := Nat.eq_of_beq_eq_true hj
    subst this
    dsimp only at a5
    split at a5
    ·rename_i s' hb
     obtain ⟨ρ3, E2, R2, k2, DD2, d1, d2, d3, d4⟩ := jY lF lH fx a4 hb
     refine fun a2' hf2 hd2 => ⟨rfl, m', Nat.lt_succ_self _, E0, ρ1, ⟨ff, fh, fn, lF, lH, fx⟩, hag, hle, s', ρ3, a5, ⟨(hJ.1.trans (a1.less hc) (Nat.le_refl _)).trans d2 (Nat.le_refl _), ?_⟩, ?_, hd2⟩
     ·rw [eL _ _ _ _ _ d1]; exact d4
     ·rw [fn] at hf2
      show Fits fr.n (ai ρ3 [] (bF E0 tm s' q).E E0.fr.F) a2'
      rw [eL _ _ _ _ _ d1]
      exact hf2.jh d3
    ·cases a5
   ·have hne : ∀ j, e ≠ .gto j := fun j hj => he ⟨j, hj⟩
    have a3' : K e (qX E0 st') = some r := by
     cases e <;> first | exact ((hne _) rfl).elim | exact a3
    exact Gg hne (mP hK hag hle ff fh fn e st' ρ' w2 (hJ.1.trans (a1.less hc) (Nat.le_refl _)) (Nat.le_trans hc a2) a3' a4)
  refine fun a hf hd => sk l I hrest ?_ (fun m a w hI => Kc c hrest (at_lab m a w hI))
  -- the way to the label
  have hK' : ix (Exit.jump l (fun a w => ∃ m, I m a w) Q) D fr Φ st.c ρ r (gtk l (fun _ => none) K) := fun e st1 ρ' w' a1 a2 a3 a4 => by
   by_cases he : ∃ j, e = .gto j
   ·obtain ⟨j, rfl⟩ := he
    unfold gtk at a3
    obtain ⟨_, a5⟩ := al a3
    cases a5
   ·have hne : ∀ j, e ≠ .gto j := fun j hj => he ⟨j, hj⟩
    have a3' : K e st1 = some r := by
     cases e <;> first | exact ((hne _) rfl).elim | exact a3
    exact Gg hne (hK e st1 ρ' w' a1 a2 a3' a4)
  refine IX (σ := σ) hΓ htb htp hK' c (Q := Exit.jump l (fun a w => ∃ m, I m a w) Q) (st := { st with h := p }) (ρ := ρ) (fun _ _ _ _ _ h => h) (fun st1 ρ' w' a1 a2 a3 a4 a' hf' hd' => ?_) hlab .refl (Nat.le_refl _) hs h0 a hf hd
  obtain ⟨hl, h2⟩ := al a3
  obtain ⟨ρ1, en⟩ := oy (tm := tm) (m := qC l c) hl a4
  generalize enter fr tm (qC l c) st1 = E0 at h2 en
  split at h2
  ·rename_i s0 hb0
   obtain ⟨ρ2, E', R', k, DD, b1, b2, b3, b4⟩ := jY en.lF en.lH en.fx en.sat hb0
   have eL : bF E0 tm s0 q = ⟨E0.c + k, E', rowsOf R', q⟩ := by unfold bF; rw [b1]
   have key : I X.fl a' w' := by
    refine ⟨E0, ρ1, ⟨en.ff, en.fh, en.fn, en.lF, en.lH, en.fx⟩, a1.trans en.ag a2, Nat.le_trans a2 en.le, s0, ρ2, h2, ⟨b2, ?_⟩, ?_, hd'⟩
    ·rw [eL]; exact b4
    ·show Fits fr.n (ai ρ2 [] (bF E0 tm s0 q).E E0.fr.F) a'
     rw [eL]; exact hf'.jh (b3.trans en.sub)
   have mono : ∀ (c : Code) (Q1 Q2 : aC), (∀ e a w, Q1 e a w → Q2 e a w) → ∀ a w, lab X.P σ l c Q1 .normal a w → lab X.P σ l c Q2 .normal a w := fun c => by
    induction c with
    | seq x y ihx ihy =>
     intro Q1 Q2 hq a w h
     unfold lab at h ⊢
     cases hx : jF l x
     ·rw [hx] at h; exact ihy Q1 Q2 hq a w h
     ·rw [hx] at h
      refine ihx _ _ (fun e a w he => ?_) a w h
      cases e with
      | normal => exact wpIn_mono he hq
      | _ => exact hq _ _ _ he
    | _ => intro Q1 Q2 hq a w h; exact hq _ _ _ h
   exact mono c _ _ (fun e a w he => by
    cases e <;> first | exact he | exact ⟨he.1, let ⟨m', _, hI⟩ := he.2; ⟨m', hI⟩⟩) a' w' (at_lab X.fl a' w' key)
  ·cases h2
 ·cases h
end
end Go.Proofs.YtdhgpnejphlfpaaDoor
namespace Go.Proofs.YtdhgpnejphlfpaaDoor
open Go.Lib
def lM : Nat → List AV → aj
 | _, [] => []
 | k, v :: vs => (k, none, v) :: lM (k + 1) vs
theorem uX {ρ : Nms} : {vs : List AV} → {k : Nat} → aj.env ρ [] (lM k vs) = iota k (AV.ae ρ vs)
 | [], _ => rfl
 | v :: vs, k => by simp only [lM, aj.env, AV.ae, iota, Tbl.get_none, uX]
structure Clo where
 f : FuncId
 fn : Func
def Clo.Ok (P : Program) (c : Clo) : Prop := fH P c.f ∧ P.funcs[c.f]? = some c.fn
def zT : List Clo → Nat → Option Clo
 | [], _ => none
 | c :: l, f => ifS (Nat.beq c.f f) (some c) (zT l f)
theorem yY {P : Program} {f : Nat} {c : Clo} : {l : List Clo} → (∀ c ∈ l, c.Ok P) → zT l f = some c → c.Ok P ∧ c.f = f
 | [], _, h => by cases h
 | c' :: l, hl, h => by
  unfold zT at h
  rcases cW h with ⟨h1, h2⟩ | ⟨_, h2⟩
  ·cases h2; exact ⟨hl _ (List.mem_cons_self ..), Nat.eq_of_beq_eq_true h1⟩
  ·exact yY (fun c hc => hl c (List.mem_cons_of_mem _ hc)) h2
structure YC (R : Type) where
 id : Nat
 rnd : List AV → StB → (Bool → Nat → StB → Option R) → Option R
def YOk {R : Type} (X : Cx) (y : YC R) (r : R) (ly : Nat) (ρ0 : Nms) (H0 : List Row) (Φ : Nat → Ctx) : Prop :=
 ∀ (vs : List AV) (st : StB) (ρ : Nms) (w : World) (H1 : List Row) (KY : Bool → Nat → StB → Option R), y.id < st.c → ax (y.id + 1) ρ0 ρ → AV.aY st.c vs = true → aO st.c st.G = true → aO st.c (H1 ++ H0) = true →
  Sat (items ρ [] st.G ++ (items ρ [] (H1 ++ H0) ++ Φ 0)) w → y.rnd vs st KY = some r →
  Yld X.P ly (AV.ae ρ vs) w (fun v w' => ∃ b p' st' ρ', v = .bool b ∧ ax st.c ρ ρ' ∧ st.c ≤ st'.c ∧ KY b p' st' = some r ∧ Sat (items ρ' [] st'.G ++ (items ρ' [] (H1 ++ H0) ++ Φ p')) w')
def noG : List Row → Bool
 | [] => true
 | r :: G => lD r.gd && noG G
theorem JA : {G : List Row} → noG G = true → ∀ r, r ∈ G → r.gd = none
 | [], _, _, h => by cases h
 | x :: G, h, r, hr => by
  simp only [noG, Bool.and_eq_true] at h
  rcases List.mem_cons.1 hr with rfl | hr
  ·cases hg : r.gd with
   | none => rfl
   | some k => rw [hg] at h; cases h.1
  ·exact JA h.2 r hr
theorem zS {ρ : Nms} {T T' : Tbl} {G : List Row} (h : ∀ r, r ∈ G → r.gd = none) : items ρ T G = items ρ T' G :=
 List.map_congr_left fun r hr => Row.qV (by rw [h r hr]; simp)
theorem DC {ρ : Nms} {T : Tbl} {fr : Fr} (hf : FT T fr) : items ρ T fr.H = items ρ [] fr.H :=
 List.map_congr_left fun r hr => Row.qV (hf.2 r hr)
def G6 {R : Type} (y : YC R) (T : Tbl) (fr : Fr) (st : StB) (o : Oper) (p : Nat) (K : Nat → Go_ R) : Option (Option R) := match o.guard, o.op, o.dst with
 | none, .call c, some d => (match c.callee with
  | .value fo => (match opA T st.E fr.F none fo with
   | some (.nv i) => some (ifS (Nat.beq i y.id && Nat.beq p 0 && Nat.blt d fr.n && jC (some d) T && st.low fr && noG st.G) (match ov T st.E fr.F none c.args.toList with
     | some vs => ifS (AV.aY st.c vs) (y.rnd vs st (fun b p' st' => K p' { st' with E := bT (some d) none (.bool b) st.E, G := iC st'.G, h := st.h })) none
     | none => none) none)
   | _ => none)
  | _ => none)
 | _, _, _ => none
inductive UG where
 | bC | skip | run | no
def unK (ops : List Oper) (fr : Fr) (kn : List Nat) (E : aj) (o : Oper) : UG := match o.guard with
 | none => .bC
 | some k => ifS (ma k.1 kn) (match (ops[k.1]?).bind (·.dst) with
  | some rj => ifS (Nat.blt rj fr.n) (match cN E fr.F rj with
   | some (none, .bool b) => (match oD k.2 b with
    | true => .run
    | false => .skip)
   | _ => .no) .no
  | none => .no) .bC
def knT (ops : List Oper) (t : Tmp) : List Nat → Bool
 | [] => false
 | j :: kn => (match (ops[j]?).bind (·.dst) with
  | some d => Nat.beq d t
  | none => false) || knT ops t kn
def AP (ops : List Oper) (fr : Fr) (kn : List Nat) (E : aj) (o : Oper) : Oper := match o.guard, o.op with
 | none, .pick (.tmp t) x y => ifS (knT ops t kn) (match cN E fr.F t with
  | some (none, .bool v) => (match v with
   | true => { o with op := .move x }
   | false => { o with op := .move y })
  | _ => o) o
 | _, _ => o
def unO (ops : List Oper) (fr : Fr) (kn : List Nat) (E : aj) (o : Oper) : UG → Oper
 | .run => { o with guard := none }
 | _ => AP ops fr kn E o
noncomputable def iP {R : Type} (X : Cx) (tb : List Ent) (y : YC R) (ops : List Oper) (fr : Fr) : List Oper → List Nat → Tbl → StB → Nat → (Nat → Go_ R) → Option R
 | [], _, T, st, p, K => ifS (wK T fr st) (K p (oS T st)) none
 | o :: l, kn, T, st, p, K => match unK ops fr kn st.E o with
  | .no => none
  | .skip => (match o.guard with
   | some k => ifS (vV fr.n o.dst && jC o.dst T && !(za k T)) (iP X tb y ops fr l kn T { st with E := bT o.dst (some k) (.raw undef) st.E } p K) none
   | none => none)
  | u => match G6 y T fr st (unO ops fr kn st.E o u) p (fun p' st' => iP X tb y ops fr l kn T st' p' K) with
   | some q => q
   | none => stepG ops T fr st (unO ops fr kn st.E o u) fun T g => opD X tb T fr st g (unO ops fr kn st.E o u) fun st' => match st'.h, o.dst with
    | .n j (.c ha hb), some d => ifS (Nat.beq j (ops.length - l.length - 1) && jC (some d) T) (match aH st'.E d with
      | some (none, .bool b) => cond b (iP X tb y ops fr l (j :: kn) T { st' with E := (d, none, .bool true) :: st'.E, h := ha } p K) (iP X tb y ops fr l (j :: kn) T { st' with E := (d, none, .bool false) :: st'.E, h := hb } p K)
      | _ => none) (iP X tb y ops fr l kn T st' p K)
    | _, _ => iP X tb y ops fr l kn T st' p K
section
variable {R : Type} {r : R} {X : Cx} {tb : List Ent} {y : YC R} {σ : Option Nat} {Q : aC} {D : List Deferred} {ops : List Oper} {fr : Fr} {Φ : Nat → Ctx} {ly : Nat} {H0 H1 : List Row} {ρ0 : Nms}
theorem Pb {P : Program} {n : Nat} {E : Env} {w : World} {ops : Array Oper} {rest : List Oper} {o : Oper} {j : Nat} {pol : Bool} {rj : Tmp} {bj : Bool} (hgd : o.guard = some (j, pol)) (hj : (ops[j]?).bind (·.dst) = some rj) (hl : look E rj = some (true, .bool bj)) (hn : Nat.blt rj n = true) (hb : oD pol bj = true)
  (h : WL P σ ops Q n D ({ o with guard := none } :: rest) E w) : WL P σ ops Q n D (o :: rest) E w := fun a hf hD => by
 have h1 := h a hf hD
 have hw := oW (ops := ops) hgd hj hl hf hn
 rw [← xr, hb] at hw
 unfold wpListIn at h1 ⊢
 rw [hw]
 have e : Region.wanted { o with guard := none } (yielded ops a.tmps) = true := by simp [Region.wanted]
 rw [e] at h1
 simp only [Bool.true_and, if_true] at h1 ⊢
 exact h1
theorem O9 {P : Program} {n : Nat} {E : Env} {w : World} {ops : Array Oper} {rest : List Oper} {o : Oper} {j : Nat} {pol : Bool} {rj : Tmp} {bj : Bool} (hgd : o.guard = some (j, pol)) (hj : (ops[j]?).bind (·.dst) = some rj) (hl : look E rj = some (true, .bool bj)) (hn : Nat.blt rj n = true) (hb : oD pol bj = false) (hd : vV n o.dst = true)
  (h : WL P σ ops Q n D rest (kM o.dst false undef E) w) : WL P σ ops Q n D (o :: rest) E w := fun a hf hD =>
 wpListIn_step fun K hK => by
  rw [oW hgd hj hl hf hn, ← xr, hb]
  simp only [Bool.true_and, Bool.false_eq_true, if_false]
  have := hf.kM (g := false) (v := undef) hd
  exact ⟨fun _ _ => trivial, hK _ _ (h _ this (by rw [fu]; exact hD))⟩
def IsY (y : YC R) (ρ0 : Nms) (ρ : Nms) (c : Nat) : Prop := y.id < c ∧ ax (y.id + 1) ρ0 ρ
theorem IsY.less {ρ0 ρ ρ' : Nms} {c c' : Nat} (h : IsY y ρ0 ρ c) (ha : ax c ρ ρ') (hc : c ≤ c') : IsY y ρ0 ρ' c' := ⟨Nat.lt_of_lt_of_le h.1 hc, h.2.trans ha h.1⟩
theorem P0 {T : Tbl} {st : StB} {o : Oper} {p : Nat} {K : Nat → Go_ R} {l : List Oper} {ρ : Nms} {w : World} {q : Option R} (hyv : (ρ0 y.id).x = .func (.yield ly) #[] #[]) (hY : YOk X y r ly ρ0 H0 Φ) (hH : fr.H = H1 ++ H0) (hI : IsY y ρ0 ρ st.c) (h1 : dq T st.E fr.F) (hf : FT T fr)
  (hs : Sat (items ρ T st.G ++ (items ρ T fr.H ++ Φ p)) w) (h : G6 y T fr st o p K = some q) (hq : q = some r)
  (next : ∀ p' st' ρ' w', dq T st'.E fr.F → ax st.c ρ ρ' → st.c ≤ st'.c → K p' st' = some r → Sat (items ρ' T st'.G ++ (items ρ' T fr.H ++ Φ p')) w' → WL X.P σ ops.toArray Q fr.n D l (ai ρ' T st'.E fr.F) w') :
  WL X.P σ ops.toArray Q fr.n D (o :: l) (ai ρ T st.E fr.F) w := by
 obtain ⟨dst, op, ty, pos, af, gd⟩ := o
 unfold G6 at h
 split at h
 ·rename_i c d hg ho hd
  simp only at hg ho hd
  subst hg ho hd
  split at h
  ·rename_i fo hc
   split at h
   ·rename_i i hfo
    injection h with h
    rw [hq] at h
    obtain ⟨b1, h'⟩ := al h
    clear h
    simp only [Bool.and_eq_true] at b1
    obtain ⟨⟨⟨⟨⟨c1, c2⟩, c3⟩, c4⟩, c5⟩, c6⟩ := b1
    have e1 := Nat.eq_of_beq_eq_true c1
    have e2 := Nat.eq_of_beq_eq_true c2
    subst e1 e2
    split at h'
    ·rename_i vs hvs
     obtain ⟨b2, h⟩ := al h'
     obtain ⟨cc, xs, tys⟩ := c
     simp only at hc hvs
     subst hc
     have hfo' := bp (ρ := ρ) hfo
     simp only [AV.val] at hfo'
     rw [hI.2 _ (Nat.lt_succ_self _), hyv] at hfo'
     have hxs := iv (ρ := ρ) hvs
     rw [Tbl.get_none] at hxs
     obtain ⟨_, _, l3, l4⟩ := StB.bM.1 c5
     have hG := JA c6
     have hs0 : Sat (items ρ [] st.G ++ (items ρ [] (H1 ++ H0) ++ Φ 0)) w := by
      rw [← hH, ← DC hf, zS (T' := T) hG]; exact hs
     have hyl := hY vs st ρ w H1 _ hI.1 hI.2 b2 l3 (by rw [← hH]; exact l4) hs0 h
     refine LK (xs := xs.toList) (vs := AV.ae ρ vs) hfo' hxs c3 hyl (fun v w' hv => ?_)
     obtain ⟨b, p', st', ρ', rfl, a1, a2, a3, a4⟩ := hv
     rw [← hH] at a4
     have hE : ai ρ' T st.E fr.F = ai ρ T st.E fr.F := jM c5 a1
     have := next p' { st' with E := bT (some d) none (.bool b) st.E, G := iC st'.G, h := st.h } ρ' w' (h1.out (d := some d) c4 none (.bool b)) a1 a2 a3 (by
      have s1 := qc (A := []) a4
      have e3 : items ρ' T (iC st'.G) = items ρ' [] (iC st'.G) := zS oR
      have s2 : Sat (items ρ' T (iC st'.G) ++ (items ρ' T fr.H ++ Φ p')) w' := by rw [e3, DC hf]; exact s1
      exact s2)
     rw [mV, hE] at this
     simpa [kM, AV.val] using this
    ·cases h'
   ·cases h
  ·cases h
 ·cases h
theorem NH {P : Program} {n : Nat} {E : Env} {w : World} {ops : Array Oper} {rest : List Oper} {c x y : Operand} {v : Bool} {dst : Option Tmp} {ty : TypeId} {pos : String} {af : Array Edge} (hc : Opd E true c (.bool v))
  (h : WL P σ ops Q n D (⟨dst, .move (cond v x y), ty, pos, af, none⟩ :: rest) E w) : WL P σ ops Q n D (⟨dst, .pick c x y, ty, pos, af, none⟩ :: rest) E w := fun a hf hD =>
 wpListIn_plain rfl fun K hK => ie rfl (by
  have h1 := h a hf hD
  unfold wpListIn at h1
  have e0 : Region.wanted ⟨dst, .move (cond v x y), ty, pos, af, none⟩ (yielded ops a.tmps) = true := rfl
  rw [if_pos e0] at h1
  have h2 := Oper.wpIn_mono hK h1
  obtain ⟨_, h3⟩ := h2
  rw [show (FW σ).round = σ from rfl, uG rfl] at h3
  have e : (execOp a.eval ⟨dst, .pick c x y, ty, pos, af, none⟩).run P w = (execOp a.eval ⟨dst, .move (cond v x y), ty, pos, af, none⟩).run P w := by
   cases v <;> simp [execOp, hc n a hf rfl, asBool]
  rw [e]
  exact h3)
theorem L7 {kn : List Nat} {E : aj} {o : Oper} : (AP ops fr kn E o).dst = o.dst := by
 unfold AP
 split
 ·cases knT ops _ kn
  ·rfl
  ·split
   ·split <;> rfl
   ·rfl
 ·rfl
theorem Qi {kn : List Nat} {E : aj} {o : Oper} {ρ : Nms} {T : Tbl} {w : World} {l : List Oper} (h : WL X.P σ ops.toArray Q fr.n D (AP ops fr kn E o :: l) (ai ρ T E fr.F) w) : WL X.P σ ops.toArray Q fr.n D (o :: l) (ai ρ T E fr.F) w := by
 obtain ⟨dst, op, ty, pos, af, gd⟩ := o
 unfold AP at h
 split at h
 ·rename_i t x y hg ho
  simp only at hg ho
  subst hg ho
  cases hk : knT ops t kn
  ·rw [hk] at h; exact h
  ·rw [hk] at h
   split at h
   ·rename_i v hl
    refine NH (v := v) ?_ (by cases v <;> exact h)
    exact Opd.t (by rw [eN, hl]; simp [AV.val])
   ·exact h
 ·exact h
theorem Dr {k : Nat × Bool} : {T : Tbl} → za k T = false → T.get (some k) = false
 | [], _ => rfl
 | (k', par, rj, b) :: T, h => by
  simp only [za, Bool.or_eq_false_iff] at h
  have h2 : GK.eq (some k') (some k) = false := by
   cases hb : GK.eq (some k') (some k)
   ·rfl
   ·have e := GK.eq_eq hb
    cases e
    rw [GK.Fq] at h
    cases h.1
  unfold Tbl.get
  rw [h2]
  exact Dr h.2
theorem Gf (hΓ : ∀ p, ∀ it ∈ X.Γ, it ∈ Φ p) (htb : ∀ e ∈ tb, e.Ok X.P X.Γ) (hyv : (ρ0 y.id).x = .func (.yield ly) #[] #[]) (hY : YOk X y r ly ρ0 H0 Φ) (hH : fr.H = H1 ++ H0) {K : Nat → Go_ R} : ∀ {l : List Oper} {kn : List Nat} {T : Tbl} {st : StB} {p : Nat} {ρ : Nms} {w : World}, IsY y ρ0 ρ st.c → dq T st.E fr.F → jW ops fr.n T → FT T fr → Sat (items ρ T st.G ++ (items ρ T fr.H ++ Φ p)) w →
  iP X tb y ops fr l kn T st p K = some r →
  (∀ p' st' ρ' w', ax st.c ρ ρ' → st.c ≤ st'.c → K p' st' = some r → Sat (items ρ' [] st'.G ++ (items ρ' [] fr.H ++ Φ p')) w' → At Q .normal fr.n D (ai ρ' [] st'.E fr.F) w') →
  WL X.P σ ops.toArray Q fr.n D l (ai ρ T st.E fr.F) w
 | [], kn, T, st, p, ρ, w, hI, h1, h2, hf, hs, h, next => by
  unfold iP at h
  obtain ⟨h3, h4⟩ := al h
  obtain ⟨k1, k2, k3⟩ := uD h3 hf hs
  exact zQ fun a hfi hd => next p _ ρ w .refl (by rw [k1]; exact Nat.le_refl _) h4 k3 a (hfi.jh k2) hd
 | o :: l, kn, T, st, p, ρ, w, hI, h1, h2, hf, hs, h, next => by
  have rc : ∀ {kn : List Nat} {T' : Tbl} {st' : StB} {p' : Nat} {ρ' : Nms} {w' : World}, ax st.c ρ ρ' → st.c ≤ st'.c → dq T' st'.E fr.F → jW ops fr.n T' → FT T' fr → Sat (items ρ' T' st'.G ++ (items ρ' T' fr.H ++ Φ p')) w' → iP X tb y ops fr l kn T' st' p' K = some r →
    WL X.P σ ops.toArray Q fr.n D l (ai ρ' T' st'.E fr.F) w' := fun {kn T' st' p' ρ' w'} a1 a2 a3 a4 a5 a6 a7 =>
   Gf hΓ htb hyv hY hH (hI.less a1 a2) a3 a4 a5 a6 a7 (fun p2 st2 ρ2 w2 b1 b2 b3 b4 => next p2 st2 ρ2 w2 (a1.trans b1 a2) (Nat.le_trans a2 b2) b3 b4)
  -- the operation itself, guarded or not
  have main : ∀ o' : Oper, o'.dst = o.dst → (match G6 y T fr st o' p (fun p' st' => iP X tb y ops fr l kn T st' p' K) with
   | some q => q
   | none => stepG ops T fr st o' fun T g => opD X tb T fr st g o' fun st' => match st'.h, o.dst with
    | .n j (.c ha hb), some d => ifS (Nat.beq j (ops.length - l.length - 1) && jC (some d) T) (match aH st'.E d with
      | some (none, .bool b) => cond b (iP X tb y ops fr l (j :: kn) T { st' with E := (d, none, .bool true) :: st'.E, h := ha } p K) (iP X tb y ops fr l (j :: kn) T { st' with E := (d, none, .bool false) :: st'.E, h := hb } p K)
      | _ => none) (iP X tb y ops fr l kn T st' p K)
    | _, _ => iP X tb y ops fr l kn T st' p K) = some r → WL X.P σ ops.toArray Q fr.n D (o' :: l) (ai ρ T st.E fr.F) w := fun o' ho' h => by
   split at h
   ·rename_i q hq
    exact P0 hyv hY hH hI h1 hf hs hq h (fun p' st' ρ' w' a1 a2 a3 a4 a5 => rc a2 a3 a1 h2 hf a5 a4)
   ·refine EC (K := fun T st' => match st'.h, o.dst with
     | .n j (.c ha hb), some d => ifS (Nat.beq j (ops.length - l.length - 1) && jC (some d) T) (match aH st'.E d with
       | some (none, .bool b) => cond b (iP X tb y ops fr l (j :: kn) T { st' with E := (d, none, .bool true) :: st'.E, h := ha } p K) (iP X tb y ops fr l (j :: kn) T { st' with E := (d, none, .bool false) :: st'.E, h := hb } p K)
       | _ => none) (iP X tb y ops fr l kn T st' p K)
     | _, _ => iP X tb y ops fr l kn T st' p K) h1 h2 rfl (fun _ h => h) hf hs (hΓ p) htb h (fun T' st' ρ' w' a1 a2 a3 a4 a5 a6 a7 a8 => ?_)
    split at a6
    ·rename_i j ha hb d hh hd
     rcases cW a6 with ⟨b1, b2⟩ | ⟨_, b2⟩
     ·simp only [Bool.and_eq_true] at b1
      split at b2
      ·rename_i b hl
       have one : ∀ (v : Bool) (h' : HT), b = v → iP X tb y ops fr l (j :: kn) T' { st' with E := (d, none, .bool v) :: st'.E, h := h' } p K = some r → WL X.P σ ops.toArray Q fr.n D l (ai ρ' T' st'.E fr.F) w' := fun v h' hb hv => by
        have := rc (st' := { st' with E := (d, none, .bool v) :: st'.E, h := h' }) a4 a5 (a1.out (d := some d) b1.2 none (.bool v)) a2 a3 a8 hv
        refine fun a hfi hd' => this a (hfi.jh ?_) hd'
        intro t pp hp
        rw [eN] at hp ⊢
        unfold cN at hp ⊢
        cases hq : Nat.beq d t
        ·rw [dh hq] at hp; exact hp
        ·have := Nat.eq_of_beq_eq_true hq
         subst this
         rw [eO hq] at hp
         rw [hl, hb]; exact hp
       rcases qQ b2 with ⟨c1, c2⟩ | ⟨c1, c2⟩
       ·exact one true ha c1 c2
       ·exact one false hb c1 c2
      ·cases b2
     ·exact rc a4 a5 a1 a2 a3 a8 b2
    ·exact rc a4 a5 a1 a2 a3 a8 a6
  unfold iP at h
  -- what is known of its guard
  have kk : ∀ {v : Bool}, (unK ops fr kn st.E o = .run ∧ v = true ∨ unK ops fr kn st.E o = .skip ∧ v = false) → ∃ j pol rj bj, o.guard = some (j, pol) ∧ (ops[j]?).bind (·.dst) = some rj ∧ look (ai ρ T st.E fr.F) rj = some (true, .bool bj) ∧ Nat.blt rj fr.n = true ∧ oD pol bj = v := fun {v} hv => by
   unfold unK at hv
   split at hv
   ·rcases hv with ⟨h, _⟩ | ⟨h, _⟩ <;> cases h
   ·rename_i k hg
    obtain ⟨j, pol⟩ := k
    cases hm : ma j kn
    ·simp only [hm] at hv
     rcases hv with ⟨h, _⟩ | ⟨h, _⟩ <;> cases h
    ·simp only [hm] at hv
     split at hv
     ·rename_i rj hr
      cases hb : Nat.blt rj fr.n
      ·simp only [hb] at hv
       rcases hv with ⟨h, _⟩ | ⟨h, _⟩ <;> cases h
      ·simp only [hb] at hv
       split at hv
       ·rename_i b hl
        refine ⟨j, pol, rj, b, hg, hr, by rw [eN, hl]; simp [AV.val], hb, ?_⟩
        cases hp : oD pol b
        ·simp only [hp] at hv
         rcases hv with ⟨h, _⟩ | ⟨_, h⟩
         ·cases h
         ·exact h.symm
        ·simp only [hp] at hv
         rcases hv with ⟨_, h⟩ | ⟨h, _⟩
         ·exact h.symm
         ·cases h
       ·rcases hv with ⟨h, _⟩ | ⟨h, _⟩ <;> cases h
     ·rcases hv with ⟨h, _⟩ | ⟨h, _⟩ <;> cases h
  cases hu : unK ops fr kn st.E o with
  | no => rw [hu] at h; cases h
  | bC => rw [hu] at h; exact Qi (by exact main (AP ops fr kn st.E o) L7 h)
  | run =>
   rw [hu] at h
   obtain ⟨j, pol, rj, bj, g1, g2, g3, g4, g5⟩ := kk (v := true) (.inl ⟨hu, rfl⟩)
   exact Pb g1 (by simpa using g2) g3 g4 g5 (main { o with guard := none } rfl h)
  | skip =>
   rw [hu] at h
   obtain ⟨j, pol, rj, bj, g1, g2, g3, g4, g5⟩ := kk (v := false) (.inr ⟨hu, rfl⟩)
   dsimp only at h
   rw [g1] at h
   obtain ⟨b1, b2⟩ := al h
   simp only [Bool.and_eq_true] at b1
   refine O9 g1 (by simpa using g2) g3 g4 g5 b1.1.1 ?_
   have := rc (st' := { st with E := bT o.dst (some (j, pol)) (.raw undef) st.E }) .refl (Nat.le_refl _) (h1.out b1.1.2 _ _) h2 hf hs b2
   rw [mV] at this
   have hg : T.get (some (j, pol)) = false := Dr (by simpa using b1.2)
   rw [hg] at this
   exact this
end
noncomputable def gP {R : Type} (X : Cx) (tb : List Ent) (y : YC R) : Code → Fr → (Nat → XE → StB → Option R) → Nat → StB → Option R
 | .skip, _, K, p, st => K p .nrm st
 | .exit i, _, K, p, st => K p (.ext i) st
 | .ret, _, K, p, st => K p .ret st
 | .block i c, fr, K, p, st => gP X tb y c fr (fun p => brk i (K p)) p st
 | .cond c a b, fr, K, p, st => match opA [] st.E fr.F none c with
  | some (.bool v) => cnd v (fun h => gP X tb y a fr K p { st with h := h }) (fun h => gP X tb y b fr K p { st with h := h }) st.h
  | _ => none
 | .seq a b, fr, K, p, st => gP X tb y a fr (fun p => thn (gP X tb y b fr K p) (K p)) p (match st.h with
  | .s h => { st with h := h }
  | _ => st)
 | .loop c, fr, K, p, st => match st.h with
  | .l tm q => ifS (st.low fr) (
   match gV (enter fr tm (bz c) st) tm (enter fr tm (bz c) st).Et (enter fr tm (bz c) st).Gt with
   | some s => an (fun again s => gP X tb y c (enter fr tm (bz c) st).fr (fun p' => thn (fun st' => match gV (enter fr tm (bz c) st) tm st'.E st'.G with
      | some s => ifS (Nat.beq p' p) (again s) none
      | none => none) (fun e st' => K p' e (qX (enter fr tm (bz c) st) st'))) p (bF (enter fr tm (bz c) st) tm s q)) X.fl s
   | none => none ) none
  | _ => none
 | .region _ ops false, fr, K, p, st => iP X tb y ops.toList fr ops.toList [] [] st p (fun p => K p .nrm)
 | .region _ ops true, fr, K, p, st => match st.h with
  | .r th h => uz X tb [] (fun _ _ => none) ops fr th { st with h := h } (K p .nrm)
  | _ => uz X tb [] (fun _ _ => none) ops fr [] st (K p .nrm)
 | _, _, _, _, _ => none
section
variable {R : Type} {r : R} {X : Cx} {tb : List Ent} {y : YC R} {D : List Deferred} {Φ : Nat → Ctx} {ly : Nat} {H0 : List Row} {ρ0 : Nms}
def Cn (Q : aC) (D : List Deferred) (fr : Fr) (Φ : Nat → Ctx) (c0 : Nat) (ρ0 : Nms) (r : R) (K : Nat → XE → StB → Option R) : Prop := ∀ p, ix Q D fr (Φ p) c0 ρ0 r (K p)
theorem Cn.less {Q : aC} {fr : Fr} {c0 c1 : Nat} {ρ0 ρ1 : Nms} {K : Nat → XE → StB → Option R} (h : Cn Q D fr Φ c0 ρ0 r K) (ha : ax c0 ρ0 ρ1) (hc : c0 ≤ c1) : Cn Q D fr Φ c1 ρ1 r K := fun p => (h p).less ha hc
theorem n6 (hΓ : ∀ p, ∀ it ∈ X.Γ, it ∈ Φ p) (htb : ∀ e ∈ tb, e.Ok X.P X.Γ) (hyv : (ρ0 y.id).x = .func (.yield ly) #[] #[]) (hY : YOk X y r ly ρ0 H0 Φ) : ∀ (c : Code) {Q : aC} {fr : Fr} {H1 : List Row} {K : Nat → XE → StB → Option R} {p : Nat} {st : StB} {ρ : Nms} {w : World}, fr.H = H1 ++ H0 → IsY y ρ0 ρ st.c → Sat (items ρ [] st.G ++ (items ρ [] fr.H ++ Φ p)) w →
  gP X tb y c fr K p st = some r → Cn Q D fr Φ st.c ρ r K → WC X.P none c Q fr.n D (ai ρ [] st.E fr.F) w
 | .skip, Q, fr, H1, K, p, st, ρ, w, hH, hI, hs, h, hK => Ge (hK p .nrm st ρ w .refl (Nat.le_refl _) (by unfold gP at h; exact h) hs)
 | .exit i, Q, fr, H1, K, p, st, ρ, w, hH, hI, hs, h, hK => AG (hK p (.ext i) st ρ w .refl (Nat.le_refl _) (by unfold gP at h; exact h) hs)
 | .ret, Q, fr, H1, K, p, st, ρ, w, hH, hI, hs, h, hK => DS (hK p .ret st ρ w .refl (Nat.le_refl _) (by unfold gP at h; exact h) hs)
 | .block i c, Q, fr, H1, K, p, st, ρ, w, hH, hI, hs, h, hK => y5 (n6 hΓ htb hyv hY c hH hI hs (by unfold gP at h; exact h) (fun p => yQ (hK p)))
 | .cond c a b, Q, fr, H1, K, p, st, ρ, w, hH, hI, hs, h, hK => by
  unfold gP at h
  split at h
  ·rename_i v hb
   have hc := bp (ρ := ρ) hb
   simp only [AV.val] at hc
   obtain ⟨h1, h2, q1, q2⟩ := yu h
   exact As hc (fun hv => n6 hΓ htb hyv hY a (st := { st with h := h1 }) hH hI hs (q1 hv) hK) (fun hv => n6 hΓ htb hyv hY b (st := { st with h := h2 }) hH hI hs (q2 hv) hK)
  ·cases h
 | .seq a b, Q, fr, H1, K, p, st, ρ, w, hH, hI, hs, h, hK => by
  unfold gP at h
  have plain : ∀ h', gP X tb y a fr (fun p => thn (gP X tb y b fr K p) (K p)) p { st with h := h' } = some r → WC X.P none (.seq a b) Q fr.n D (ai ρ [] st.E fr.F) w := fun h' hd => by
   refine rn (n6 hΓ htb hyv hY a (st := { st with h := h' }) hH hI hs hd (fun p' e st' ρ' w' a1 a2 a3 a4 => ?_))
   by_cases he : e = .nrm
   ·subst he
    exact mW (n6 hΓ htb hyv hY b hH (hI.less a1 a2) a4 a3 (hK.less a1 a2))
   ·rw [ln he] at a3
    exact fY he (hK p' e st' ρ' w' a1 a2 a3 a4)
  split at h
  ·rename_i h' hh; exact plain h' h
  ·exact plain st.h h
 | .loop c, Q, fr, H1, K, p, st, ρ, w, hH, hI, hs, h, hK => by
  unfold gP at h
  split at h
  ·rename_i tm q hh
   obtain ⟨hl, h2⟩ := al h
   obtain ⟨ρ1, en⟩ := oy (tm := tm) (m := bz c) hl hs
   generalize enter fr tm (bz c) st = E0 at h2 en
   split at h2
   ·rename_i s0 hb0
    obtain ⟨ρ2, E', R', k, DD, b1, b2, b3, b4⟩ := jY en.lF en.lH en.fx en.sat hb0
    have eL : ∀ s E' R' k DD, dE (fun n => E0.c + n) E0.fix tm.vs 0 (unt _ s) = ⟨E', R', k, DD⟩ → bF E0 tm s q = ⟨E0.c + k, E', rowsOf R', q⟩ := fun s E' R' k DD hb => by unfold bF; rw [hb]
    refine C2 (γ := Nms) (fun s g w' => ax E0.c ρ1 g ∧ Sat (items g [] (bF E0 tm s q).G ++ (items g [] E0.fr.H ++ Φ p)) w') (fun s g => ai g [] (bF E0 tm s q).E E0.fr.F) h2 ρ2 ⟨b2, ?_⟩ ?_ (fun again s g w' hag hJ => ?_)
    ·rw [eL _ _ _ _ _ b1]; exact b4
    ·rw [eL _ _ _ _ _ b1]; exact b3.trans en.sub
    ·have hc : E0.c ≤ (bF E0 tm s q).c := by
      unfold bF
      generalize dE (fun n => E0.c + n) E0.fix tm.vs 0 (unt _ s) = L
      obtain ⟨a, b, c, d⟩ := L
      exact Nat.le_add_right _ _
     have hx := n6 hΓ htb hyv hY c (fr := E0.fr) (H1 := E0.G ++ H1) (st := bF E0 tm s q) (ρ := g) (Q := Exit.then (qs again r (fun s g w' => ax E0.c ρ1 g ∧ Sat (items g [] (bF E0 tm s q).G ++ (items g [] E0.fr.H ++ Φ p)) w') (fun s g => ai g [] (bF E0 tm s q).E E0.fr.F) fr.n D) Q)
      (by rw [en.fh, hH, List.append_assoc]) ((hI.less en.ag en.le).less hJ.1 hc) hJ.2 hag (fun p' e st' ρ' w2 a1 a2 a3 a4 => ?_)
     ·rw [en.fn] at hx; exact hx
     ·by_cases he : e = .nrm
      ·subst he
       have a3' : (match gV E0 tm st'.E st'.G with | some s => ifS (Nat.beq p' p) (again s) none | none => none) = some r := a3
       split at a3'
       ·rename_i s' hb
        obtain ⟨hp, a5⟩ := al a3'
        have := Nat.eq_of_beq_eq_true hp
        subst this
        obtain ⟨ρ3, E2, R2, k2, DD2, d1, d2, d3, d4⟩ := jY en.lF en.lH en.fx a4 hb
        rw [en.fn]
        refine BO s' ρ3 a5 ⟨(hJ.1.trans (a1.less hc) (Nat.le_refl _)).trans d2 (Nat.le_refl _), ?_⟩ ?_
        ·rw [eL _ _ _ _ _ d1]; exact d4
        ·rw [eL _ _ _ _ _ d1]; exact d3
       ·cases a3'
      ·rw [ln he] at a3
       have := mP (hK p') en.ag en.le en.ff en.fh en.fn e st' ρ' w2 (hJ.1.trans (a1.less hc) (Nat.le_refl _)) (Nat.le_trans hc a2) a3 a4
       exact fY he this
   ·cases h2
  ·cases h
 | .region id ops false, Q, fr, H1, K, p, st, ρ, w, hH, hI, hs, h, hK => by
  unfold gP at h
  obtain ⟨l⟩ := ops
  exact wP (Gf (σ := none) hΓ htb hyv hY hH hI (fun x h => by cases h) (fun x h => by cases h) ⟨fun x _ => rfl, fun x _ => rfl⟩ hs h (fun p' st' ρ' w' a1 a2 a3 a4 => hK p' .nrm st' ρ' w' a1 a2 a3 a4))
 | .region id ops true, Q, fr, H1, K, p, st, ρ, w, hH, hI, hs, h, hK => by
  unfold gP at h
  have key : ∀ th h', uz X tb [] (fun _ _ => none) ops fr th { st with h := h' } (K p .nrm) = some r → WC X.P none (.region id ops true) Q fr.n D (ai ρ [] st.E fr.F) w := fun th h' hd =>
   yH (K := fun e st => match e with
    | .nrm => K p .nrm st
    | _ => none) (st := { st with h := h' }) (hΓ p) htb (fun _ h => by cases h) hs hd (fun e st' ρ' w' a1 a2 a3 a4 => by
     cases e with
     | nrm => exact hK p .nrm st' ρ' w' a1 a2 a3 a4
     | _ => cases a3)
  split at h
  ·exact key _ _ h
  ·exact key [] st.h h
 | .label _, Q, fr, H1, K, p, st, ρ, w, hH, hI, hs, h, hK => by unfold gP at h; cases h
 | .goto _, Q, fr, H1, K, p, st, ρ, w, hH, hI, hs, h, hK => by unfold gP at h; cases h
 | .scope _, Q, fr, H1, K, p, st, ρ, w, hH, hI, hs, h, hK => by unfold gP at h; cases h
 | .rangeFunc _ _ _ _, Q, fr, H1, K, p, st, ρ, w, hH, hI, hs, h, hK => by unfold gP at h; cases h
end
end Go.Proofs.YtdhgpnejphlfpaaDoor
namespace Go.Proofs.YtdhgpnejphlfpaaDoor
open Go.Lib
theorem Sat.swap {w : World} {C D : Ctx} : ∀ {B A : Ctx}, Sat (A ++ (B ++ (C ++ D))) w → Sat (A ++ (C ++ (B ++ D))) w
 | [], A, h => h
 | x :: B, A, h => by
  have h1 : Sat ((A ++ [x]) ++ (B ++ (C ++ D))) w := by simpa using h
  have h2 : Sat (A ++ x :: (C ++ (B ++ D))) w := by simpa using h1.swap
  simpa using Sat.move h2
theorem Sat.front {w : World} {A B : Ctx} {x : Item} (h : Sat (A ++ x :: B) w) : Sat (x :: (A ++ B)) w := by
 have := Sat.swap (A := []) (B := A) (C := [x]) (D := B) (by simpa using h)
 simpa using this
theorem Sat.behind {w : World} {A B : Ctx} {x : Item} (h : Sat (x :: (A ++ B)) w) : Sat (A ++ x :: B) w := Sat.move (A := []) h
theorem wX {α : Type} {A B : List α} {x : α} : (A ++ x :: B)[A.length]? = some x := by simp
theorem GC {α : Type} {A B : List α} {x y : α} : (A ++ x :: B).set A.length y = A ++ y :: B := by
 induction A with
 | nil => rfl
 | cons a A ih => simp [ih]
def rk : Nat → Option Code
 | 0 => none
 | 1 => some .ret
 | n + 2 => ifS (Nat.beq (n % 2) 0) (some (.exit (n / 2))) (some (.goto (n / 2)))
def D9 : Nat → XE
 | 0 => .nrm
 | 1 => .ret
 | n + 2 => ifS (Nat.beq (n % 2) 0) (.ext (n / 2)) (.gto (n / 2))
def wN : Nat → LoopState
 | 0 => .ready
 | _ + 1 => .done
theorem LU (i : Nat) : rk (2 * i + 2) = some (.exit i) := by
 have h1 : 2 * i % 2 = 0 := Nat.mul_mod_right 2 i
 have h2 : 2 * i / 2 = i := Nat.mul_div_cancel_left i (by decide)
 show ifS (Nat.beq (2 * i % 2) 0) (some (Code.exit (2 * i / 2))) _ = _
 rw [h1, h2]
theorem Mp (i : Nat) : rk (2 * i + 3) = some (.goto i) := by
 have h1 : (2 * i + 1) % 2 = 1 := by omega
 have h2 : (2 * i + 1) / 2 = i := by omega
 show ifS (Nat.beq ((2 * i + 1) % 2) 0) _ (some (Code.goto ((2 * i + 1) / 2))) = _
 rw [h1, h2]
def Mq : List Tmp → List AV → aj → Option aj
 | [], [], E => some E
 | p :: ps, v :: vs, E => Mq ps vs ((p, none, v) :: E)
 | _, _, _ => none
theorem FH {ρ : Nms} {F : Env} : {ps : List Tmp} → {vs : List AV} → {E E' : aj} → Mq ps vs E = some E' → aj.env ρ [] E' ++ F = Dq ps (AV.ae ρ vs) (aj.env ρ [] E ++ F) ∧ Nat.beq (AV.ae ρ vs).length ps.length = true
 | [], [], E, E', h => by cases h; exact ⟨rfl, rfl⟩
 | p :: ps, v :: vs, E, E', h => by
  obtain ⟨h1, h2⟩ := FH (ρ := ρ) (F := F) (ps := ps) (vs := vs) (E := (p, none, v) :: E) h
  refine ⟨?_, ?_⟩
  ·rw [h1]; simp [aj.env, AV.ae, Dq]
  ·simpa [AV.ae] using h2
 | [], _ :: _, _, _, h => by cases h
 | _ :: _, [], _, _, h => by cases h
noncomputable def DB {R : Type} (X : Cx) (tb : List Ent) (tp : List bc) (ps : List Tmp) (assign body : Code) (fr : Fr) (E : aj) (hb : HT) (vs : List AV) (st : StB) (KY : Bool → Nat → StB → Option R) : Option R := match Mq ps vs E with
 | some E' => den X tb tp assign fr (fun e st1 => match e with
  | .nrm => den X tb tp body fr (fun e st2 => match e with
   | .nrm => KY true 0 st2
   | .ret => KY false 1 st2
   | .ext i => KY false (2 * i + 2) st2
   | .gto l => KY false (2 * l + 3) st2
   | _ => none) { st1 with h := hb }
  | _ => none) ⟨st.c, E', st.G, .o⟩
 | none => none
section
variable {R : Type} {r : R} {X : Cx} {tb : List Ent} {tp : List bc} {fr : Fr}
theorem KB {Φ1 : Ctx} (hΓ : ∀ it ∈ X.Γ, it ∈ Φ1) (htb : ∀ e ∈ tb, e.Ok X.P X.Γ) (htp : ∀ e ∈ tp, e.Ok X.P X.Γ) {ps : List Tmp} {assign body : Code} {E : aj} {hb : HT} {c0 l b : Nat} {ρ0 : Nms} {r0 : LoopState → Option Code → Loop}
  (hr : Rec fr.n (ai ρ0 [] E fr.F) ps.toArray assign body b r0) (hE : E.low c0 = true) (hF : aj.low c0 fr.F = true) (hp : ps.all (fun p => Nat.blt p fr.n) = true) :
  YOk X ⟨c0, DB X tb tp ps assign body fr E hb⟩ r l ρ0 fr.H (fun p => cj l r0 (wN p) (rk p) :: Φ1) := by
 intro vs st ρ w H1 KY hid hag hvs hG hH hs h
 have h' : DB X tb tp ps assign body fr E hb vs st KY = some r := h
 unfold DB at h'
 split at h'
 ·rename_i E' hz
  have hag0 : ax c0 ρ0 ρ := hag.less (Nat.le_succ _)
  obtain ⟨z1, z2⟩ := FH (ρ := ρ) (F := aj.env ρ [] fr.F) hz
  have eE : ai ρ0 [] E fr.F = ai ρ [] E fr.F := by
   rw [ai, ai, kU hag0 hE, kU hag0 hF]
  rw [eE] at hr
  have lH1 : aO st.c H1 = true := by
   clear h h' hs hz
   induction H1 with
   | nil => rfl
   | cons x H1 ih =>
    simp only [List.cons_append, aO, Bool.and_eq_true] at hH ⊢
    exact ⟨hH.1, ih hH.2⟩
  -- the row, parted in another way
  have toR : ∀ {G : List Row} {ρ' : Nms} {x : Item} {w' : World}, Sat (items ρ' [] G ++ (items ρ' [] (H1 ++ fr.H) ++ x :: Φ1)) w' → Sat (items ρ' [] G ++ (items ρ' [] fr.H ++ (items ρ' [] H1 ++ x :: Φ1))) w' := fun {G ρ' x w'} hw => by
   rw [aG, List.append_assoc] at hw
   exact hw.swap
  have frR : ∀ {G : List Row} {ρ' : Nms} {x : Item} {w' : World}, Sat (items ρ' [] G ++ (items ρ' [] fr.H ++ (items ρ' [] H1 ++ x :: Φ1))) w' → Sat (items ρ' [] G ++ (items ρ' [] (H1 ++ fr.H) ++ x :: Φ1)) w' := fun {G ρ' x w'} hw => by
   rw [aG, List.append_assoc]
   exact hw.swap
  -- the loop's row, exchanged
  have mid : ∀ {G : List Row} {ρ' : Nms} {x : Item}, ∃ A : Ctx, items ρ' [] G ++ (items ρ' [] fr.H ++ (items ρ [] H1 ++ x :: Φ1)) = A ++ x :: Φ1 ∧ ∀ z, A ++ z :: Φ1 = items ρ' [] G ++ (items ρ' [] fr.H ++ (items ρ [] H1 ++ z :: Φ1)) := fun {G ρ' x} =>
   ⟨items ρ' [] G ++ (items ρ' [] fr.H ++ items ρ [] H1), by simp, fun z => by simp⟩
  have hs1 := toR hs
  have hΓ1 : ∀ x : Item, ∀ it ∈ X.Γ, it ∈ items ρ [] H1 ++ x :: Φ1 := fun x it hi => List.mem_append_right _ (List.mem_cons_of_mem _ (hΓ it hi))
  have hs0 : Sat (cj l r0 .ready none :: (items ρ [] st.G ++ (items ρ [] (H1 ++ fr.H) ++ Φ1))) w := by
   have : Sat ((items ρ [] st.G ++ items ρ [] (H1 ++ fr.H)) ++ cj l r0 .ready none :: Φ1) w := by
    rw [List.append_assoc]; exact hs
   have := this.front
   rw [List.append_assoc] at this
   exact this
  refine OU hr hs0 z2 hp ?_
  rw [← z1]
  refine eV (σ := some l) (D := []) (Φ := items ρ [] H1 ++ cj l r0 .ready none :: Φ1) (hΓ1 _) htb htp assign (fr := fr) (st := ⟨st.c, E', st.G, .o⟩) (ρ := ρ) hs1 h' (fun e st1 ρ1 w1 a1 a2 a3 a4 => ?_)
  cases e with
  | nrm =>
   obtain ⟨A, e1, e2⟩ := mid (G := st1.G) (ρ' := ρ1) (x := cj l r0 .ready none)
   have a4' : Sat (A ++ cj l r0 .ready none :: Φ1) w1 := by rw [← e1]; exact a4
   refine Kz (i := A.length) hr a4' wX (fun w2 hs2 => ?_)
   rw [GC, e2] at hs2
   refine eV (σ := some l) (D := []) (Φ := items ρ [] H1 ++ cj l r0 .busy none :: Φ1) (hΓ1 _) htb htp body (fr := fr) (st := { st1 with h := hb }) (ρ := ρ1) hs2 a3 (fun e st2 ρ2 w3 b1 b2 b3 b4 => ?_)
   obtain ⟨A2, e3, e4⟩ := mid (G := st2.G) (ρ' := ρ2) (x := cj l r0 .busy none)
   have b4' : Sat (A2 ++ cj l r0 .busy none :: Φ1) w3 := by rw [← e3]; exact b4
   have ag2 : ax st.c ρ ρ2 := a1.trans b1 a2
   have le2 : st.c ≤ st2.c := Nat.le_trans a2 b2
   have fin : ∀ {bv : Bool} {p' : Nat} {w4 : World}, KY bv p' st2 = some r → Sat ((A2 ++ cj l r0 .busy none :: Φ1).set A2.length (cj l r0 (wN p') (rk p'))) w4 →
     ∃ b p' st' ρ', Value.bool bv = .bool b ∧ ax st.c ρ ρ' ∧ st.c ≤ st'.c ∧ KY b p' st' = some r ∧ Sat (items ρ' [] st'.G ++ (items ρ' [] (H1 ++ fr.H) ++ cj l r0 (wN p') (rk p') :: Φ1)) w4 := fun {bv p' w4} hk hw => by
    rw [GC, e4, ← aE ag2 lH1] at hw
    exact ⟨bv, p', st2, ρ2, rfl, ag2, le2, hk, frR hw⟩
   cases e with
   | nrm => exact Ld (i := A2.length) hr b4' wX (fun w4 hw => fin (p' := 0) b3 hw)
   | ret => exact DJ (i := A2.length) hr b4' wX (fun w4 hw => fin (p' := 1) b3 hw)
   | ext i => exact B7 (i := A2.length) hr b4' wX (fun w4 hw => fin (p' := 2 * i + 2) b3 (by rw [LU]; exact hw))
   | gto j => exact Cd (i := A2.length) hr b4' wX (fun w4 hw => fin (p' := 2 * j + 3) b3 (by rw [Mp]; exact hw))
   | pan v => cases b3
   | panE v => cases b3
  | _ => cases a3
 ·cases h'
end
def v9 : aj → aj
 | [] => []
 | (t, _, v) :: E => (t + 10000, some (1000000000, false), v) :: v9 E
theorem Fz {ρ : Nms} : {E : aj} → {t : Nat} → {p : Bool × Value} → look (aj.env ρ [] (v9 E)) t = some p → 10000 ≤ t ∧ p.1 = false
 | [], _, _, h => by cases h
 | (t', g, v) :: E, t, p, h => by
  simp only [v9, aj.env, look] at h
  cases hb : Nat.beq (t' + 10000) t
  ·rw [hb, cond_false] at h; exact Fz h
  ·rw [hb, cond_true] at h
   have := Nat.eq_of_beq_eq_true hb
   cases h
   exact ⟨by omega, rfl⟩
theorem Fits.far {n : Nat} {E : Env} {a : Act} {ρ : Nms} {F : aj} (h : Fits n E a) (hn : n ≤ 10000) : Fits n (E ++ aj.env ρ [] (v9 F)) a := by
 refine ⟨h.size, fun t g v ht => ?_⟩
 rw [s6] at ht
 split at ht
 ·rename_i p hp
  cases ht
  exact h.at_ t g v hp
 ·obtain ⟨h1, h2⟩ := Fz ht
  simp only at h2
  subst h2
  have hs := h.size
  have : ¬ t < a.tmps.size := by omega
  simp [Array.getD, this, pK]
def itE {R : Type} (Kend : Nat → StB → Option R) (p : Nat) : XE → StB → Option R
 | .nrm, st => Kend p st
 | .ret, st => Kend p st
 | _, _ => none
noncomputable def rfD {R : Type} (X : Cx) (tb : List Ent) (tp : List bc) (tc : List Clo) (ps : List Tmp) (assign body : Code) (gv : AV) (fr : Fr) (st : StB) (hi hb : HT) (Kend : Nat → StB → Option R) : Option R := match gv with
 | .fn f a b => (match zT tc f with
  | some cl => (match cl.fn.body with
   | some ib => ifS (cl.fn.results.isEmpty && Nat.ble (a.length + (b.length + 1)) cl.fn.ntmps && Nat.ble cl.fn.ntmps 10000 && st.low fr && ps.all (fun p => Nat.blt p fr.n) && AV.aY st.c a && AV.aY st.c b) (
     gP X tb ⟨st.c, DB X tb tp ps assign body fr st.E hb⟩ ib ⟨v9 (st.E ++ fr.F), fr.H, cl.fn.ntmps⟩ (itE Kend) 0 ⟨st.c + 1, lM 0 (a ++ .nv st.c :: b), st.G, hi⟩) none
   | none => none)
  | none => none)
 | _ => none
section
variable {P : Program} {n : Nat} {D0 : List Deferred} {E : Env} {w : World} {Γ : Ctx} {Q : aC}
theorem Cb {g : Operand} {ps : Array Tmp} {assign body : Code} {f : FuncId} {first cap : List Value} (ds : List Nat)
  (he : fH P f) (hg : Opd E true g (.func (.func f) first.toArray cap.toArray)) (hs : Sat (cw ds :: Γ) w)
  (h : ∀ (l b : Nat) (r : LoopState → Option Code → Loop) w1, Rec n E ps assign body b r → Sat (cj l r .ready none :: cw (b :: ds) :: Γ) w1 →
   nH P f (first ++ [Value.func (.yield l) #[] #[]] ++ cap) w1 (gJ P none l n (mk (b :: ds) ++ D0) Q E)) :
  WC P none (.rangeFunc g ps assign body) Q n (mk ds ++ D0) E w := fun a hf hd => by
 refine wpIn_rangeFunc fun fn hfn => ?_
 obtain ⟨r, hr⟩ : ∃ r : LoopState → Option Code → Loop, r = fun st pe => { state := st, pending := pe, fn, tmps := a.tmps, params := ps, assign, body, defers := w.heap.size } := ⟨_, rfl⟩
 obtain ⟨W1, hW1⟩ : ∃ W1, (w.alloc (.deferred (some []))).alloc (.loop (r .ready none)) = W1 := ⟨_, rfl⟩
 have hs1 : Sat (kf w.heap.size (.deferred (some [])) :: cw ds :: Γ) (w.alloc (.deferred (some []))) := hs.push (dO _ _) (fun b hb => by
  have : b = w.heap.size := by simpa [kf] using hb
  subst this; simp) (fun _ _ => World.alloc_heap_new w _)
 have hs2 : Sat (cj (w.heap.size + 1) r .ready none :: cw (w.heap.size :: ds) :: Γ) W1 := by
  rw [← hW1]
  have := hs1.dfr.push (new := cj (w.alloc (.deferred (some []))).heap.size r .ready none) (dO _ _) (fun b hb => by
   have : b = (w.alloc (.deferred (some []))).heap.size := by simpa [kf] using hb
   subst this; simp) (fun _ _ => World.alloc_heap_new (w.alloc (.deferred (some []))) (.loop (r .ready none)))
  rwa [World.size_alloc] at this
 have hrec : Rec n E ps assign body w.heap.size r := ⟨fn, a.tmps, ⟨hf.size, hf.at_⟩, hr⟩
 have hev : a.eval g = Value.func (.func f) first.toArray cap.toArray := hg n a hf rfl
 refine ⟨w.heap.size + 1, [{ target := .collected w.heap.size, args := #[] }], W1, { target := .fn (.func f) cap.toArray, args := first.toArray ++ #[Value.func (.yield (w.heap.size + 1)) #[] #[]] }, W1, f,
  (first ++ [Value.func (.yield (w.heap.size + 1)) #[] #[]] ++ cap).toArray, W1, ?_, ?_, fun _ _ => trivial, ?_, rF, ?_⟩
 ·rw [← hW1, hr]; exact run_enterLoop_outer _ _ _ _ _
 ·simp only [resolve, hev, Deferred.ofValue]
  simp [Act.eval]
 ·have := he (first ++ [Value.func (.yield (w.heap.size + 1)) #[] #[]] ++ cap).toArray W1
  simp only [invoke]
  simpa using this
 ·refine ui (Calls.mono (h (w.heap.size + 1) w.heap.size r W1 hrec hs2) fun e w' he => ?_)
  cases e with
  | returned v =>
   obtain ⟨j, w'', h1, h2⟩ := he
   refine ⟨j, w'', h1, ?_⟩
   have hf' : Fits n E { a with defers := [{ target := .collected w.heap.size, args := #[] }] ++ a.defers } := ⟨hf.size, hf.at_⟩
   cases j with
   | none => exact h2 _ hf' (by simp [hd, mk])
   | some c => exact h2 _ hf' (by simp [hd, mk])
  | panicked c => exact he.elim
  | outgrown => exact he.elim
end
section
variable {R : Type} {r : R} {X : Cx} {tb : List Ent} {tp : List bc} {tc : List Clo} {fr : Fr} {Φ : Ctx} {D : List Deferred} {Q : aC}
theorem Pc (hΓ : ∀ it ∈ X.Γ, it ∈ Φ) (htb : ∀ e ∈ tb, e.Ok X.P X.Γ) (htp : ∀ e ∈ tp, e.Ok X.P X.Γ) (htc : ∀ c ∈ tc, c.Ok X.P) {g : Operand} {ps : Array Tmp} {assign body : Code} {gv : AV} {st : StB} {hi hb : HT} {Kend : Nat → StB → Option R} {ρ : Nms} {w : World} {ds : List Nat}
  (hg : opA [] st.E fr.F none g = some gv) (hs : Sat (items ρ [] st.G ++ (items ρ [] fr.H ++ cw ds :: Φ)) w) (h : rfD X tb tp tc ps.toList assign body gv fr st hi hb Kend = some r)
  (hend : ∀ p st1 ρ1 w1 ds', ax st.c ρ ρ1 → st.c ≤ st1.c → Kend p st1 = some r → Sat (items ρ1 [] st1.G ++ (items ρ1 [] fr.H ++ cw ds' :: Φ)) w1 → AtX Q (D9 p) ρ1 fr.n (mk ds' ++ D) (ai ρ1 [] st.E fr.F) w1) :
  WC X.P none (.rangeFunc g ps assign body) Q fr.n (mk ds ++ D) (ai ρ [] st.E fr.F) w := by
 unfold rfD at h
 split at h
 ·rename_i f a b
  split at h
  ·rename_i cl hcl
   obtain ⟨c1, c2⟩ := yY htc hcl
   subst c2
   split at h
   ·rename_i ib hib
    obtain ⟨k1, h1⟩ := al h
    simp only [Bool.and_eq_true] at k1
    obtain ⟨⟨⟨⟨⟨⟨d1, d2⟩, d3⟩, d4⟩, d5⟩, d6⟩, d7⟩ := k1
    have hres : cl.fn.results = #[] := by simpa using d1
    have hn1 : cl.fn.ntmps ≤ 10000 := Nat.le_of_ble_eq_true d3
    obtain ⟨l1, l2, l3, l4⟩ := StB.bM.1 d4
    have hg' := bp (ρ := ρ) hg
    simp only [AV.val] at hg'
    have hab : AV.aY st.c a = true ∧ AV.aY st.c b = true := ⟨d6, d7⟩
    -- the marks in front
    have hs0 : Sat (cw ds :: (items ρ [] st.G ++ (items ρ [] fr.H ++ Φ))) w := by
     have : Sat ((items ρ [] st.G ++ items ρ [] fr.H) ++ cw ds :: Φ) w := by rw [List.append_assoc]; exact hs
     have := this.front
     rwa [List.append_assoc] at this
    refine Cb ds c1.1 hg' hs0 (fun l bb r0 w1 hr hs1 => ?_)
    have hr' : Rec fr.n (ai ρ [] st.E fr.F) ps.toList.toArray assign body bb r0 := by simpa using hr
    -- yield's name
    generalize hρ : ρ.set st.c { nm0 with x := .func (.yield l) #[] #[] } = ρ1
    have hag : ax st.c ρ ρ1 := by rw [← hρ]; exact Nms.aF
    have hyv : (ρ1 st.c).x = .func (.yield l) #[] #[] := by rw [← hρ, Nms.aV]
    have hvals : AV.ae ρ1 (a ++ .nv st.c :: b) = AV.ae ρ a ++ [Value.func (.yield l) #[] #[]] ++ AV.ae ρ b := by
     rw [cE]
     simp only [AV.ae, AV.val, hyv]
     rw [AV.aX hag _ hab.1, AV.aX hag _ hab.2]
     simp
    rw [← hvals]
    -- the rows
    have hs2 : Sat (items ρ1 [] st.G ++ (items ρ1 [] fr.H ++ (cj l r0 (wN 0) (rk 0) :: cw (bb :: ds) :: Φ))) w1 := by
     rw [aE hag l3, aE hag l4]
     have e1 : Sat ([] ++ ([cj l r0 .ready none, cw (bb :: ds)] ++ ((items ρ [] st.G ++ items ρ [] fr.H) ++ Φ))) w1 := by simpa using hs1
     have := e1.swap
     simp only [List.nil_append, List.append_assoc, List.cons_append] at this
     exact this
    have hΓ1 : ∀ p, ∀ it ∈ X.Γ, it ∈ (cj l r0 (wN p) (rk p) :: cw (bb :: ds) :: Φ) := fun p it hi => List.mem_cons_of_mem _ (List.mem_cons_of_mem _ (hΓ it hi))
    have hrr : Rec fr.n (ai ρ1 [] st.E fr.F) ps.toList.toArray assign body bb r0 := by rw [jM d4 hag]; exact hr'
    have hY := KB (r := r) (tp := tp) (hb := hb) (Φ1 := cw (bb :: ds) :: Φ) (fun it hi => List.mem_cons_of_mem _ (hΓ it hi)) htb htp (l := l) hrr l1 l2 d5
    refine Calls.mono (w9 (S := gJ X.P none l fr.n (mk (bb :: ds) ++ D) Q (ai ρ [] st.E fr.F)) (Sp := fun _ _ => False) c1.2 hib rfl (by rw [AV.aK]; simpa [Nat.add_comm, Nat.add_left_comm, Nat.add_assoc] using d2) ?_) (fun e w' he => he)
    have hE : ai ρ1 [] (lM 0 (a ++ .nv st.c :: b)) (v9 (st.E ++ fr.F)) = iota 0 (AV.ae ρ1 (a ++ .nv st.c :: b)) ++ aj.env ρ1 [] (v9 (st.E ++ fr.F)) := by
     show aj.env ρ1 [] (lM 0 _) ++ aj.env ρ1 [] _ = _
     rw [uX]
    have hx := n6 (r := r) (D := []) (Φ := fun p => cj l r0 (wN p) (rk p) :: cw (bb :: ds) :: Φ) hΓ1 htb (y := ⟨st.c, DB X tb tp ps.toList assign body fr st.E hb⟩) hyv hY ib (Q := BP X.P cl.fn (gJ X.P none l fr.n (mk (bb :: ds) ++ D) Q (ai ρ [] st.E fr.F)) (fun _ _ => False)) (fr := ⟨v9 (st.E ++ fr.F), fr.H, cl.fn.ntmps⟩) (H1 := []) (K := itE Kend) (st := ⟨st.c + 1, lM 0 (a ++ .nv st.c :: b), st.G, hi⟩) (ρ := ρ1) (w := w1) rfl ⟨Nat.lt_succ_self _, .refl⟩ hs2 h1 (fun p e st1 ρ2 w2 a1 a2 a3 a4 => ?_)
    ·rw [hE] at hx
     exact fun aa hf hd => hx aa (hf.far hn1) hd
    · -- the iterator's end
     have ag2 : ax st.c ρ ρ2 := hag.trans (a1.less (Nat.le_succ _)) (Nat.le_refl _)
     have le2 : st.c ≤ st1.c := Nat.le_of_succ_le a2
     have eE : ai ρ2 [] st.E fr.F = ai ρ [] st.E fr.F := jM d4 ag2
     have fin : Kend p st1 = some r → gJ X.P none l fr.n (mk (bb :: ds) ++ D) Q (ai ρ [] st.E fr.F) (.tuple #[]) w2 := fun hk => by
      have b4 : Sat (cj l r0 (wN p) (rk p) :: (items ρ2 [] st1.G ++ (items ρ2 [] fr.H ++ cw (bb :: ds) :: Φ))) w2 := by
       have : Sat ((items ρ2 [] st1.G ++ items ρ2 [] fr.H) ++ cj l r0 (wN p) (rk p) :: cw (bb :: ds) :: Φ) w2 := by rw [List.append_assoc]; exact a4
       have := this.front
       rwa [List.append_assoc] at this
      have at_ : ∀ w3, Sat (items ρ2 [] st1.G ++ (items ρ2 [] fr.H ++ cw (bb :: ds) :: Φ)) w3 → AtX Q (D9 p) ρ2 fr.n (mk (bb :: ds) ++ D) (ai ρ [] st.E fr.F) w3 := fun w3 hw => by
       have := hend p st1 ρ2 w3 (bb :: ds) ag2 le2 hk hw
       rwa [eE] at this
      match p, b4, at_ with
      | 0, b4, at_ => exact gJ.go hr b4 (fun w3 hw => at_ w3 hw)
      | 1, b4, at_ => exact gJ.jump hr b4 (fun w3 hw => DS (at_ w3 hw))
      | q + 2, b4, at_ =>
       simp only [rk, D9] at b4 at_
       cases hq : Nat.beq (q % 2) 0
       ·simp only [hq] at b4 at_
        exact gJ.jump hr b4 (fun w3 hw => FU (at_ w3 hw))
       ·simp only [hq] at b4 at_
        exact gJ.jump hr b4 (fun w3 hw => AG (at_ w3 hw))
     cases e with
     | nrm => exact (LD (vs := []) (by simp [hres]) (fun aa hf => by rw [hres]; simp) (v := .tuple #[]) rfl (fin a3) : At (BP X.P cl.fn _ _) .ret cl.fn.ntmps [] _ w2)
     | ret => exact LD (vs := []) (by simp [hres]) (fun aa hf => by rw [hres]; simp) (v := .tuple #[]) rfl (fin a3)
     | _ => cases a3
   ·cases h
  ·cases h
 ·cases h
end
def kh : Code → Bool
 | .rangeFunc .. => true
 | .seq a b => kh a || kh b
 | .cond _ a b => kh a || kh b
 | .block _ c => kh c
 | .loop c => kh c
 | .scope c => kh c
 | _ => false
noncomputable def gz {R : Type} (X : Cx) (tb : List Ent) (tp : List bc) (tc : List Clo) : Code → Fr → (XE → StB → Option R) → StB → Option R
 | .block i c, fr, K, st => gz X tb tp tc c fr (brk i K) st
 | .cond c x y, fr, K, st => ifS (kh x || kh y) (match opA [] st.E fr.F none c with
  | some (.bool b) => cnd b (fun h => gz X tb tp tc x fr K { st with h := h }) (fun h => gz X tb tp tc y fr K { st with h := h }) st.h
  | _ => none) (den X tb tp (.cond c x y) fr K st)
 | .seq x y, fr, K, st => ifS (kh x || kh y) (match st.h with
  | .j tm p q => ifS (st.low fr) (
   ah (fun s : Tup (eK tm.vs) => gz X tb tp tc y fr K (eb (enter fr tm (bz x) st) tm s q)) fun k =>
   gz X tb tp tc x (enter fr tm (bz x) st).fr (thn (fun st' => match gV (enter fr tm (bz x) st) tm st'.E st'.G with
     | some s => k s
     | none => none) (fun e st' => K e (qX (enter fr tm (bz x) st) st'))) ⟨(enter fr tm (bz x) st).c, (enter fr tm (bz x) st).Et, (enter fr tm (bz x) st).Gt, p⟩ ) none
  | .s h => gz X tb tp tc x fr (thn (gz X tb tp tc y fr K) K) { st with h := h }
  | _ => gz X tb tp tc x fr (thn (gz X tb tp tc y fr K) K) st) (den X tb tp (.seq x y) fr K st)
 | .loop c, fr, K, st => ifS (kh c) (match st.h with
  | .l tm p => ifS (st.low fr) (
   match gV (enter fr tm (bz c) st) tm (enter fr tm (bz c) st).Et (enter fr tm (bz c) st).Gt with
   | some s => an (fun again s => gz X tb tp tc c (enter fr tm (bz c) st).fr (thn (fun st' => match gV (enter fr tm (bz c) st) tm st'.E st'.G with
      | some s => again s
      | none => none) (fun e st' => K e (qX (enter fr tm (bz c) st) st'))) (bF (enter fr tm (bz c) st) tm s p)) X.fl s
   | none => none ) none
  | _ => none) (den X tb tp (.loop c) fr K st)
 | .rangeFunc g ps assign body, fr, K, st => match st.h with
  | .c (.c hi hb) hr => (match opA [] st.E fr.F none g with
   | some gv => rfD X tb tp tc ps.toList assign body gv fr st hi hb (fun p st1 => K (D9 p) { st1 with E := st.E, h := hr })
   | none => none)
  | _ => none
 | c, fr, K, st => den X tb tp c fr K st
section
variable {P : Program} {ρ : Option Nat} {Q : aC} {n : Nat} {E : Env} {w : World}
def Hd {γ : Type} (J : γ → World → Prop) (Es : γ → Env) (n : Nat) (Ds : γ → List Deferred) (a : Act) (w : World) : Prop :=
 ∃ g, J g w ∧ Fits n (Es g) a ∧ a.defers = Ds g
theorem E3 {γ : Type} (J : γ → World → Prop) (Es : γ → Env) (Ds : γ → List Deferred) {D : List Deferred} {x y : Code}
  (hy : ∀ g w', J g w' → WC P ρ y Q n (Ds g) (Es g) w') (hx : WC P ρ x (Exit.then (Hd J Es n Ds) Q) n D E w) : WC P ρ (.seq x y) Q n D E w :=
 fun a hf hd => wpIn_seq (wpIn_mono (hx a hf hd) (fun e a' w' h => by
  cases e <;> first | exact h | (obtain ⟨g, hJ, hF, hD⟩ := h; exact hy g w' hJ a' hF hD)))
theorem J3 {γ : Type} {J : γ → World → Prop} {Es : γ → Env} {Ds : γ → List Deferred} {D : List Deferred} (g : γ) (hJ : J g w) (hs : gB (Es g) E) (hD : D = Ds g) : At (Exit.then (Hd J Es n Ds) Q) .normal n D E w :=
 fun _a hf hd => ⟨g, hJ, hf.jh hs, hd.trans hD⟩
def Al {σ γ τ : Type} (again : σ → Option τ) (r : τ) (J : σ → γ → World → Prop) (Es : σ → γ → Env) (n : Nat) (Ds : γ → List Deferred) (a : Act) (w : World) : Prop :=
 ∃ s g, again s = some r ∧ J s g w ∧ Fits n (Es s g) a ∧ a.defers = Ds g
theorem KN {σ γ τ : Type} {F : (σ → Option τ) → σ → Option τ} {r : τ} (J : σ → γ → World → Prop) (Es : σ → γ → Env) (Ds : γ → List Deferred) {body : Code} {D : List Deferred}
  {N : Nat} {s0 : σ} (hm : an F N s0 = some r) (g0 : γ) (h0 : J s0 g0 w) (hE : gB (Es s0 g0) E) (hD : D = Ds g0)
  (round : ∀ again s g w, F again s = some r → J s g w → WC P ρ body (Exit.then (Al again r J Es n Ds) Q) n (Ds g) (Es s g) w) :
  WC P ρ (.loop body) Q n D E w := fun a hf hd =>
 tG (fun m => Al (an F m) r J Es n Ds) N ⟨s0, g0, hm, h0, hf.jh hE, hd.trans hD⟩ fun m a w ⟨s, g, hs, hJ, hF, hD⟩ => by
  obtain ⟨m', rfl, hs'⟩ := pn hs
  exact wpIn_mono (round (an F m') s g w hs' hJ a hF hD) fun e a w h => by
   cases e <;> first | exact h | exact ⟨m', Nat.lt_succ_self _, h⟩
theorem IL {σ γ τ : Type} {again : σ → Option τ} {r : τ} {J : σ → γ → World → Prop} {Es : σ → γ → Env} {Ds : γ → List Deferred} {D : List Deferred}
  (s : σ) (g : γ) (hm : again s = some r) (hJ : J s g w) (hs : gB (Es s g) E) (hD : D = Ds g) : At (Exit.then (Al again r J Es n Ds) Q) .normal n D E w :=
 fun _a hf hd => ⟨s, g, hm, hJ, hf.jh hs, hd.trans hD⟩
end
section
variable {R : Type} {r : R} {X : Cx} {tb : List Ent} {tp : List bc} {tc : List Clo} {Φ : Ctx} {D : List Deferred}
def zG (Q : aC) (D : List Deferred) (fr : Fr) (Φ : Ctx) (c0 : Nat) (ρ0 : Nms) (r : R) (K : XE → StB → Option R) : Prop := ∀ ds, ix Q (mk ds ++ D) fr (cw ds :: Φ) c0 ρ0 r K
theorem zG.less {Q : aC} {fr : Fr} {c0 c1 : Nat} {ρ0 ρ1 : Nms} {K : XE → StB → Option R} (h : zG Q D fr Φ c0 ρ0 r K) (ha : ax c0 ρ0 ρ1) (hc : c0 ≤ c1) : zG Q D fr Φ c1 ρ1 r K := fun ds => (h ds).less ha hc
theorem NG (hΓ : ∀ it ∈ X.Γ, it ∈ Φ) (htb : ∀ e ∈ tb, e.Ok X.P X.Γ) (htp : ∀ e ∈ tp, e.Ok X.P X.Γ) (htc : ∀ c ∈ tc, c.Ok X.P) : ∀ (c : Code) {Q : aC} {fr : Fr} {K : XE → StB → Option R} {st : StB} {ρ : Nms} {w : World} {ds : List Nat}, Sat (items ρ [] st.G ++ (items ρ [] fr.H ++ cw ds :: Φ)) w →
  gz X tb tp tc c fr K st = some r → zG Q D fr Φ st.c ρ r K → WC X.P none c Q fr.n (mk ds ++ D) (ai ρ [] st.E fr.F) w := fun c => by
 have hΓ' : ∀ ds : List Nat, ∀ it ∈ X.Γ, it ∈ cw ds :: Φ := fun ds it hi => List.mem_cons_of_mem _ (hΓ it hi)
 have lh : ∀ (c : Code) {Q : aC} {fr : Fr} {K : XE → StB → Option R} {st : StB} {ρ : Nms} {w : World} {ds : List Nat}, Sat (items ρ [] st.G ++ (items ρ [] fr.H ++ cw ds :: Φ)) w →
   den X tb tp c fr K st = some r → zG Q D fr Φ st.c ρ r K → WC X.P none c Q fr.n (mk ds ++ D) (ai ρ [] st.E fr.F) w := fun c {Q fr K st ρ w ds} hs h hK =>
  eV (hΓ' ds) htb htp c hs h (hK ds)
 induction c with
 | block i c ih =>
  intro Q fr K st ρ w ds hs h hK
  exact y5 (ih hs (by unfold gz at h; exact h) (fun ds => yQ (hK ds)))
 | cond c x y ihx ihy =>
  intro Q fr K st ρ w ds hs h hK
  unfold gz at h
  rcases cW h with ⟨_, h⟩ | ⟨_, h⟩
  ·split at h
   ·rename_i b hb
    have hc := bp (ρ := ρ) hb
    simp only [AV.val] at hc
    obtain ⟨p, q, h1, h2⟩ := yu h
    exact As hc (fun hb => ihx (st := { st with h := p }) hs (h1 hb) hK) (fun hb => ihy (st := { st with h := q }) hs (h2 hb) hK)
   ·cases h
  ·exact lh _ hs h hK
 | seq x y ihx ihy =>
  intro Q fr K st ρ w ds hs h hK
  unfold gz at h
  rcases cW h with ⟨_, h⟩ | ⟨_, h⟩
  ·have plain : ∀ h', gz X tb tp tc x fr (thn (gz X tb tp tc y fr K) K) { st with h := h' } = some r → WC X.P none (.seq x y) Q fr.n (mk ds ++ D) (ai ρ [] st.E fr.F) w := fun h' hd => by
    refine rn (ihx (st := { st with h := h' }) hs hd (fun ds' e st' ρ' w' a1 a2 a3 a4 => ?_))
    by_cases he : e = .nrm
    ·subst he
     exact mW (ihy a4 a3 (hK.less a1 a2))
    ·rw [ln he] at a3
     exact fY he (hK ds' e st' ρ' w' a1 a2 a3 a4)
   split at h
   ·rename_i tm p q hh
    obtain ⟨hl, h2⟩ := al h
    obtain ⟨ρ1, en⟩ := oy (tm := tm) (m := bz x) hl hs
    generalize enter fr tm (bz x) st = E0 at h2 en
    unfold ah at h2
    refine E3 (γ := (Tup (eK tm.vs) × Nms) × List Nat) (fun g w' => gz X tb tp tc y fr K (eb E0 tm g.1.1 q) = some r ∧ ax E0.c ρ1 g.1.2 ∧ Sat (items g.1.2 [] (eb E0 tm g.1.1 q).G ++ (items g.1.2 [] fr.H ++ cw g.2 :: Φ)) w') (fun g => ai g.1.2 [] (eb E0 tm g.1.1 q).E fr.F) (fun g => mk g.2 ++ D) (fun g w' hg => ?_) ?_
    ·obtain ⟨g1, g2, g3⟩ := hg
     refine ihy g3 g1 (hK.less (en.ag.trans g2 en.le) ?_)
     have : E0.c ≤ (eb E0 tm g.1.1 q).c := by
      unfold eb
      generalize dE (fun n => E0.c + n) E0.fix tm.vs 0 (unt _ g.1.1) = L
      obtain ⟨a, b, c, d⟩ := L
      exact Nat.le_add_right _ _
     exact Nat.le_trans en.le this
    ·have hx := ihx (fr := E0.fr) (st := ⟨E0.c, E0.Et, E0.Gt, p⟩) (ρ := ρ1) (Q := Exit.then (Hd (fun (g : (Tup (eK tm.vs) × Nms) × List Nat) w' => gz X tb tp tc y fr K (eb E0 tm g.1.1 q) = some r ∧ ax E0.c ρ1 g.1.2 ∧ Sat (items g.1.2 [] (eb E0 tm g.1.1 q).G ++ (items g.1.2 [] fr.H ++ cw g.2 :: Φ)) w') (fun g => ai g.1.2 [] (eb E0 tm g.1.1 q).E fr.F) fr.n (fun g => mk g.2 ++ D)) Q) en.sat h2 (fun ds' e st' ρ' w' a1 a2 a3 a4 => ?_)
     ·rw [en.fn] at hx
      exact hx.jh _ en.sub
     ·by_cases he : e = .nrm
      ·subst he
       have a3' : (match gV E0 tm st'.E st'.G with | some s => gz X tb tp tc y fr K (eb E0 tm s q) | none => none) = some r := a3
       split at a3'
       ·rename_i s hb
        obtain ⟨ρ2, E', R', k, DD, b1, b2, b3, b4⟩ := jY en.lF en.lH en.fx a4 hb
        have eJ : eb E0 tm s q = ⟨E0.c + k, E' ++ E0.E, rowsOf R' ++ E0.G, q⟩ := by unfold eb; rw [b1]
        rw [en.fn]
        refine J3 ((s, ρ2), ds') ⟨a3', a1.trans b2 (Nat.le_refl _), ?_⟩ ?_ rfl
        ·rw [eJ]
         show Sat (items ρ2 [] (rowsOf R' ++ E0.G) ++ _) w'
         rw [aG, List.append_assoc]
         rw [en.fh, aG, List.append_assoc] at b4
         exact b4
        ·rw [eJ]
         show gB (aj.env ρ2 [] (E' ++ E0.E) ++ _) _
         rw [en.ff] at b3
         have e2 : ai ρ2 [] E' (E0.E ++ fr.F) = aj.env ρ2 [] (E' ++ E0.E) ++ aj.env ρ2 [] fr.F := by
          show aj.env ρ2 [] E' ++ aj.env ρ2 [] (E0.E ++ fr.F) = _
          rw [jQ, jQ, List.append_assoc]
         rw [← e2, en.ff]; exact b3
       ·cases a3'
      ·rw [ln he] at a3
       have := mP (hK ds') en.ag en.le en.ff en.fh en.fn e st' ρ' w' a1 a2 a3 a4
       exact fY he this
   ·rename_i h' hh; exact plain h' h
   ·exact plain st.h h
  ·exact lh _ hs h hK
 | loop c ih =>
  intro Q fr K st ρ w ds hs h hK
  unfold gz at h
  rcases cW h with ⟨_, h⟩ | ⟨_, h⟩
  ·split at h
   ·rename_i tm p hh
    obtain ⟨hl, h2⟩ := al h
    obtain ⟨ρ1, en⟩ := oy (tm := tm) (m := bz c) hl hs
    generalize enter fr tm (bz c) st = E0 at h2 en
    split at h2
    ·rename_i s0 hb0
     obtain ⟨ρ2, E', R', k, DD, b1, b2, b3, b4⟩ := jY en.lF en.lH en.fx en.sat hb0
     have eL : ∀ s E' R' k DD, dE (fun n => E0.c + n) E0.fix tm.vs 0 (unt _ s) = ⟨E', R', k, DD⟩ → bF E0 tm s p = ⟨E0.c + k, E', rowsOf R', p⟩ := fun s E' R' k DD hb => by unfold bF; rw [hb]
     refine KN (γ := Nms × List Nat) (fun s g w' => ax E0.c ρ1 g.1 ∧ Sat (items g.1 [] (bF E0 tm s p).G ++ (items g.1 [] E0.fr.H ++ cw g.2 :: Φ)) w') (fun s g => ai g.1 [] (bF E0 tm s p).E E0.fr.F) (fun g => mk g.2 ++ D) h2 (ρ2, ds) ⟨b2, ?_⟩ ?_ rfl (fun again s g w' hag hJ => ?_)
     ·rw [eL _ _ _ _ _ b1]; exact b4
     ·rw [eL _ _ _ _ _ b1]; exact b3.trans en.sub
     ·have hc : E0.c ≤ (bF E0 tm s p).c := by
       unfold bF
       generalize dE (fun n => E0.c + n) E0.fix tm.vs 0 (unt _ s) = L
       obtain ⟨a, b, c, d⟩ := L
       exact Nat.le_add_right _ _
      have hx := ih (fr := E0.fr) (st := bF E0 tm s p) (ρ := g.1) (ds := g.2) (Q := Exit.then (Al again r (fun s (g : Nms × List Nat) w' => ax E0.c ρ1 g.1 ∧ Sat (items g.1 [] (bF E0 tm s p).G ++ (items g.1 [] E0.fr.H ++ cw g.2 :: Φ)) w') (fun s g => ai g.1 [] (bF E0 tm s p).E E0.fr.F) fr.n (fun g => mk g.2 ++ D)) Q) hJ.2 hag (fun ds' e st' ρ' w2 a1 a2 a3 a4 => ?_)
      ·rw [en.fn] at hx; exact hx
      ·by_cases he : e = .nrm
       ·subst he
        have a3' : (match gV E0 tm st'.E st'.G with | some s => again s | none => none) = some r := a3
        split at a3'
        ·rename_i s' hb
         obtain ⟨ρ3, E2, R2, k2, DD2, d1, d2, d3, d4⟩ := jY en.lF en.lH en.fx a4 hb
         rw [en.fn]
         refine IL s' (ρ3, ds') a3' ⟨(hJ.1.trans (a1.less hc) (Nat.le_refl _)).trans d2 (Nat.le_refl _), ?_⟩ ?_ rfl
         ·rw [eL _ _ _ _ _ d1]; exact d4
         ·rw [eL _ _ _ _ _ d1]; exact d3
        ·cases a3'
       ·rw [ln he] at a3
        have := mP (hK ds') en.ag en.le en.ff en.fh en.fn e st' ρ' w2 (hJ.1.trans (a1.less hc) (Nat.le_refl _)) (Nat.le_trans hc a2) a3 a4
        exact fY he this
    ·cases h2
   ·cases h
  ·exact lh _ hs h hK
 | rangeFunc g ps assign body =>
  intro Q fr K st ρ w ds hs h hK
  unfold gz at h
  split at h
  ·rename_i hi hb hr hh
   split at h
   ·rename_i gv hg
    exact Pc hΓ htb htp htc hg hs h (fun p st1 ρ1 w1 ds' a1 a2 a3 a4 => hK ds' (D9 p) { st1 with E := st.E, h := hr } ρ1 w1 a1 a2 a3 a4)
   ·cases h
  ·cases h
 | _ => intro Q fr K st ρ w ds hs h hK; exact lh _ hs (by unfold gz at h; exact h) hK
def MV (K : XE → StB → Option R) : XE → StB → Option R
 | .nrm, st => K .nrm st
 | .ret, st => K .ret st
 | _, _ => none
theorem Ly (hΓ : ∀ it ∈ X.Γ, it ∈ Φ) (htb : ∀ e ∈ tb, e.Ok X.P X.Γ) (htp : ∀ e ∈ tp, e.Ok X.P X.Γ) (htc : ∀ c ∈ tc, c.Ok X.P) {fn : Func} {S : Value → World → Prop} {Sp : List PanicEntry → World → Prop} (c : Code) {fr : Fr} {K : XE → StB → Option R} {st : StB} {ρ : Nms} {w : World}
  (hs : Sat (items ρ [] st.G ++ (items ρ [] fr.H ++ Φ)) w) (h : gz X tb tp tc c fr (MV K) st = some r) (hK : ix (BP X.P fn S Sp) [] fr Φ st.c ρ r K) : WC X.P none c (BP X.P fn S Sp) fr.n [] (ai ρ [] st.E fr.F) w := by
 have hs1 : Sat (items ρ [] st.G ++ (items ρ [] fr.H ++ cw [] :: Φ)) w := by
  have h1 : Sat (cw [] :: ((items ρ [] st.G ++ items ρ [] fr.H) ++ Φ)) w := by
   rw [List.append_assoc]; exact hs.OL
  have := h1.behind
  rwa [List.append_assoc] at this
 refine NG (D := []) (ds := []) hΓ htb htp htc c hs1 h (fun ds e st' ρ' w' a1 a2 a3 a4 => ?_)
 have a5 : Sat (cw ds :: (items ρ' [] st'.G ++ (items ρ' [] fr.H ++ Φ))) w' := by
  have h1 : Sat ((items ρ' [] st'.G ++ items ρ' [] fr.H) ++ cw ds :: Φ) w' := by rw [List.append_assoc]; exact a4
  have := h1.front
  rwa [List.append_assoc] at this
 rw [List.append_nil]
 cases e with
 | nrm => exact Db ds a5 (fun w2 hw => hK .nrm st' ρ' w2 a1 a2 a3 hw)
 | ret => exact yv ds a5 (fun w2 hw => hK .ret st' ρ' w2 a1 a2 a3 hw)
 | _ => cases a3
end
end Go.Proofs.YtdhgpnejphlfpaaDoor
namespace Go.Proofs.YtdhgpnejphlfpaaDoor
open Go.Lib
abbrev Qv {R : Type} (E0 : aj) (K : StB → Option R) : XE → StB → Option R
 | .nrm, st => K { st with E := E0 }
 | .ret, st => K { st with E := E0 }
 | _, _ => none
noncomputable def Ez {R : Type} (X : Cx) (tb : List Ent) (tp : List bc) (cl : Clo) (cap : List AV) (v : AV) (fr : Fr) (st : StB) (K : StB → Option R) : Option R := match cl.fn.body with
 | some (.seq (.region _ ops false) y) => (match ops.toList with
  | ⟨some d, .call ⟨.builtin .recover, xs, _⟩, _, _, _, none⟩ :: l => ifS (xs.isEmpty && l.all Co && cl.fn.results.isEmpty && Nat.ble cap.length cl.fn.ntmps && Nat.blt d cl.fn.ntmps) (
    qT X tb tp (fun _ _ => none) ops.toList ⟨[], fr.H, cl.fn.ntmps⟩ l [] { st with E := (d, none, v) :: lM 0 cap, h := .c (.r (List.range cap.length) .o) .o } (fun st1 => den X tb tp y ⟨[], fr.H, cl.fn.ntmps⟩ (Qv st.E K) st1)) none
  | _ => none)
 | _ => none
section
variable {X : Cx} {tb : List Ent} {tp : List bc} {D : List Deferred} {R : Type} {r : R} {Φ : Ctx}
theorem AU {cl : Clo} {cap : List AV} {v : AV} {fr : Fr} {st : StB} {K : StB → Option R} {ρ : Nms} {w : World} {u u' : FrameMode} {T : World → Prop} (hcl : cl.Ok X.P) (hΓ : ∀ it ∈ X.Γ, it ∈ Φ) (htb : ∀ e ∈ tb, e.Ok X.P X.Γ) (htp : ∀ e ∈ tp, e.Ok X.P X.Γ)
  (hs : Sat (items ρ [] st.G ++ (items ρ [] fr.H ++ Φ)) w) (hu : (u = .returning ∧ u' = .returning ∧ v.val ρ = .nilIface) ∨ (u = .panicking (pan (v.val ρ)) ∧ u' = .panicking [{ v := v.val ρ, recovered := true }]))
  (h : Ez X tb tp cl cap v fr st K = some r) (hK : ∀ (st' : StB) (ρ' : Nms) (w' : World), ax st.c ρ ρ' → st.c ≤ st'.c → K { st' with E := st.E } = some r → Sat (items ρ' [] st'.G ++ (items ρ' [] fr.H ++ Φ)) w' → T w') :
  vJ X.P cl.f (AV.ae ρ cap) u w fun u2 w' => u2 = u' ∧ T w' := by
 unfold Ez at h
 split at h
 ·rename_i id ops y hb
  split at h
  ·rename_i d xs tys ty pos af l hops
   obtain ⟨h1, h2⟩ := al h
   simp only [Bool.and_eq_true] at h1
   obtain ⟨⟨⟨⟨h3, h4⟩, h5⟩, h6⟩, h7⟩ := h1
   have hxs : xs = #[] := by simpa using h3
   subst hxs
   have hres : cl.fn.results = #[] := by simpa using h5
   refine AK (n := cl.fn.ntmps) hcl.2 hb hops h4 hres rfl (by rw [AV.aK]; exact h6) h7 hu ?_
   obtain ⟨opl⟩ := ops
   simp only at hops h2
   have := Fm (σ := none) (D := []) (Q := Exit.then (y.wpIn (FW none) 0 X.P (QB T)) (QB T)) (ρ := ρ) (w := w) (r := r) (ops := opl) (fr := ⟨[], fr.H, cl.fn.ntmps⟩) (st := { st with E := (d, none, v) :: lM 0 cap, h := .c (.r (List.range cap.length) .o) .o }) hΓ htb htp (fun x h => by cases h) (fun x h => by cases h) ⟨fun x _ => rfl, fun x _ => rfl⟩ hs h2 (fun st1 ρ1 w1 a1 a2 a3 a4 => ?_) (fun v st1 ρ1 w1 a1 a2 a3 a4 => by cases a3)
   ·have e1 : ai ρ [] ((d, none, v) :: lM 0 cap) [] = (d, true, v.val ρ) :: iota 0 (AV.ae ρ cap) := by
     show aj.env ρ [] ((d, none, v) :: lM 0 cap) ++ [] = _
     simp only [aj.env, Tbl.get_none, uX, List.append_nil]
    have e2 : ai ρ [] ({ st with E := (d, none, v) :: lM 0 cap, h := .c (.r (List.range cap.length) .o) .o } : StB).E (⟨[], fr.H, cl.fn.ntmps⟩ : Fr).F = (d, true, v.val ρ) :: iota 0 (AV.ae ρ cap) := e1
    rw [e2] at this
    exact this
   ·refine mW (eV (σ := none) (D := []) hΓ htb htp y (fr := ⟨[], fr.H, cl.fn.ntmps⟩) a4 a3 (fun e st2 ρ2 w2 b1 b2 b3 b4 => ?_))
    cases e with
    | nrm => exact P3 (hK st2 ρ2 w2 (a1.trans b1 a2) (Nat.le_trans a2 b2) b3 b4)
    | ret => exact PE (hK st2 ρ2 w2 (a1.trans b1 a2) (Nat.le_trans a2 b2) b3 b4)
    | ext i => cases b3
    | gto l => cases b3
    | pan v => cases b3
    | panE v => cases b3
  ·cases h
 ·cases h
end
def Hg : List Oper → Option (List Oper × Operand)
 | [] => none
 | o :: l => (match l with
  | [] => (match o with
   | ⟨none, .defer ⟨.value fo, xs, _⟩, _, _, _, none⟩ => ifS xs.isEmpty (some ([], fo)) none
   | _ => none)
  | _ :: _ => (match Hg l with
   | some p => some (o :: p.1, p.2)
   | none => none))
theorem FA : {l l' : List Oper} → {fo : Operand} → Hg l = some (l', fo) → ∃ tys ty pos af, l = l' ++ [⟨none, .defer ⟨.value fo, #[], tys⟩, ty, pos, af, none⟩]
 | [], _, _, h => by cases h
 | o :: l, l', fo, h => by
  unfold Hg at h
  split at h
  ·split at h
   ·obtain ⟨h1, h2⟩ := al h
    rename_i xs _ _ _ _
    have : xs = #[] := by simpa using h1
    subst this
    cases h2
    exact ⟨_, _, _, _, rfl⟩
   ·cases h
  ·split at h
   ·rename_i p hp
    cases h
    obtain ⟨tys, ty, pos, af, h2⟩ := FA (fo := p.2) (l' := p.1) (by rw [hp])
    exact ⟨tys, ty, pos, af, by rw [h2]; rfl⟩
   ·cases h
def G8 : Code → Option (List Oper × List Oper × Operand)
 | .region _ ops false => (match Hg ops.toList with
  | some p => some (ops.toList, p.1, p.2)
  | none => none)
 | _ => none
def MH : Code → Bool
 | .scope _ => true
 | .seq x y => (G8 x).isSome || MH y
 | _ => false
noncomputable def Qp {R : Type} (X : Cx) (tb : List Ent) (tp : List bc) (cl : Clo) (cap : List AV) (fr : Fr) (K : XE → StB → Option R) : XE → StB → Option R
 | .nrm, st => ifS (st.low fr) (Ez X tb tp cl cap (.raw .nilIface) fr st (K .ret)) none
 | .ret, st => ifS (st.low fr) (Ez X tb tp cl cap (.raw .nilIface) fr st (K .ret)) none
 | .panE v, st => ifS (st.low fr) (Ez X tb tp cl cap v fr st (K .ret)) none
 | _, _ => none
noncomputable def Ij {R : Type} (X : Cx) (tb : List Ent) (tp : List bc) (tc : List Clo) : Code → Fr → (XE → StB → Option R) → StB → Option R
 | .scope c, fr, K, st => LX X tb tp c fr K st
 | .seq x y, fr, K, st => (match G8 x with
  | some p => qT X tb tp (fun v st => K (.panE v) st) p.1 fr p.2.1 [] (pM st) (fun st1 => match opA [] st1.E fr.F none p.2.2 with
   | some (.fn f [] cap) => (match zT tc f with
    | some cl => ifS (AV.aY st1.c cap) (den X tb tp y fr (Qp X tb tp cl cap fr K) st1) none
    | none => none)
   | _ => none)
  | none => ifS (MH y) (den X tb tp x fr (thn (Ij X tb tp tc y fr K) K) (pM st)) (ifS (kh x || kh y) (gz X tb tp tc (.seq x y) fr (MV K) st) (den X tb tp (.seq x y) fr K st)))
 | c, fr, K, st => den X tb tp c fr K st
section
variable {X : Cx} {tb : List Ent} {tp : List bc} {tc : List Clo} {R : Type} {r : R} {Φ : Ctx} {fn : Func} {S : Value → World → Prop} {Sp : List PanicEntry → World → Prop}
theorem Oc {c : Code} {p : List Oper × List Oper × Operand} (h : G8 c = some p) : ∃ id ops, c = .region id ops false ∧ ops.toList = p.1 ∧ ∃ tys ty pos af, p.1 = p.2.1 ++ [⟨none, .defer ⟨.value p.2.2, #[], tys⟩, ty, pos, af, none⟩] := by
 unfold G8 at h
 split at h
 ·rename_i id ops
  split at h
  ·rename_i q hq
   cases h
   exact ⟨id, ops, rfl, rfl, FA hq⟩
  ·cases h
 ·cases h
theorem Oh (hΓ : ∀ it ∈ X.Γ, it ∈ Φ) (htb : ∀ e ∈ tb, e.Ok X.P X.Γ) (htp : ∀ e ∈ tp, e.Ok X.P X.Γ) (htc : ∀ c ∈ tc, c.Ok X.P) : ∀ (c : Code) {fr : Fr} {K : XE → StB → Option R} {st : StB} {ρ : Nms} {w : World}, Sat (items ρ [] st.G ++ (items ρ [] fr.H ++ Φ)) w →
  Ij X tb tp tc c fr K st = some r → ix (BP X.P fn S Sp) [] fr Φ st.c ρ r K → WC X.P none c (BP X.P fn S Sp) fr.n [] (ai ρ [] st.E fr.F) w := fun c => by
 induction c with
 | scope c => intro fr K st ρ w hs h hK; exact NI hΓ htb htp hs h hK
 | seq x y ihx ihy =>
  intro fr K st ρ w hs h hK
  obtain ⟨p1, p2, p3⟩ := FM (st := st)
  unfold Ij at h
  split at h
  ·rename_i p hp
   obtain ⟨id, ops, rfl, e1, tys, ty, pos, af, e2⟩ := Oc hp
   refine rn (wP ?_)
   obtain ⟨opl⟩ := ops
   simp only at e1
   subst e1
   have hw := uN (σ := none) (D := []) (Q := Exit.then (y.wpIn (FW none) 0 X.P (BP X.P fn S Sp)) (BP X.P fn S Sp)) (ρ := ρ) (w := w) (st := pM st) (rest := [⟨none, .defer ⟨.value p.2.2, #[], tys⟩, ty, pos, af, none⟩]) hΓ htb htp (fun x h => by cases h) (fun x h => by cases h) ⟨fun x _ => rfl, fun x _ => rfl⟩ (by rw [p3]; exact hs) h (fun st1 ρ1 w1 a1 a2 a3 a4 => ?_) (fun v st1 ρ1 w1 a1 a2 a3 a4 => ?_)
   ·rw [p2, ← e2] at hw
    exact hw
   ·split at a3
    ·rename_i f cap hfo
     split at a3
     ·rename_i cl hcl
      obtain ⟨b1, b2⟩ := al a3
      obtain ⟨c1, c2⟩ := yY htc hcl
      have hfo' := bp (ρ := ρ1) hfo
      simp only [AV.val, AV.ae] at hfo'
      subst c2
      refine Mi hfo' (zQ (mW ?_))
      rw [p1] at a1 a2
      refine eV (σ := none) (D := [dfr cl.f (AV.ae ρ1 cap)]) hΓ htb htp y a4 b2 (fun e st2 ρ2 w2 d1 d2 d3 d4 => ?_)
      have hcap : AV.ae ρ2 cap = AV.ae ρ1 cap := AV.aX d1 _ b1
      have kk : st2.low fr = true → ∀ (st3 : StB) (ρ3 : Nms) (w3 : World), ax st2.c ρ2 ρ3 → st2.c ≤ st3.c → K .ret { st3 with E := st2.E } = some r → Sat (items ρ3 [] st3.G ++ (items ρ3 [] fr.H ++ Φ)) w3 → At (BP X.P fn S Sp) .ret fr.n [] (ai ρ2 [] st2.E fr.F) w3 := fun hl st3 ρ3 w3 f1 f2 f3 f4 => by
       have := hK .ret { st3 with E := st2.E } ρ3 w3 (a1.trans (d1.trans f1 d2) a2) (Nat.le_trans a2 (Nat.le_trans d2 f2)) f3 f4
       rw [← jM hl f1]
       exact this
      rw [← hcap]
      cases e with
      | nrm =>
       obtain ⟨l1, l2⟩ := al d3
       exact JU c1.1 (AU (u := .returning) (T := fun w' => At (BP X.P fn S Sp) .ret fr.n [] (ai ρ2 [] st2.E fr.F) w') c1 hΓ htb htp d4 (.inl ⟨rfl, rfl, rfl⟩) l2 (kk l1)) (fun _ h => h)
      | ret =>
       obtain ⟨l1, l2⟩ := al d3
       exact JU c1.1 (AU (u := .returning) (T := fun w' => At (BP X.P fn S Sp) .ret fr.n [] (ai ρ2 [] st2.E fr.F) w') c1 hΓ htb htp d4 (.inl ⟨rfl, rfl, rfl⟩) l2 (kk l1)) (fun _ h => h)
      | ext i => cases d3
      | gto l => cases d3
      | pan v => cases d3
      | panE v =>
       obtain ⟨l1, l2⟩ := al d3
       have hp := AU (u := .panicking (pan (v.val ρ2))) (T := fun w' => At (BP X.P fn S Sp) .ret fr.n [] (ai ρ2 [] st2.E fr.F) w') c1 hΓ htb htp d4 (.inr ⟨rfl, rfl⟩) l2 (kk l1)
       exact Nl c1.1 hp (fun _ h => h)
     ·cases a3
    ·cases a3
   ·rw [p1] at a1 a2
    exact B1 (hK (.panE v) st1 ρ1 w1 a1 a2 a3 a4)
  ·rename_i hp
   rcases cW h with ⟨h1, h2⟩ | ⟨_, h2⟩
   ·refine rn ?_
    have := eV (σ := none) (D := []) hΓ htb htp x (fr := fr) (st := pM st) (ρ := ρ) (w := w) (Q := Exit.then (y.wpIn (FW none) 0 X.P (BP X.P fn S Sp)) (BP X.P fn S Sp)) (by rw [p3]; exact hs) h2 (fun e st' ρ' w' a1 a2 a3 a4 => ?_)
    ·rw [p2] at this; exact this
    ·rw [p1] at a1 a2
     by_cases he : e = .nrm
     ·subst he
      exact mW (ihy a4 a3 (hK.less a1 a2))
     ·rw [ln he] at a3
      exact fY he (hK e st' ρ' w' a1 a2 a3 a4)
   ·rcases cW h2 with ⟨_, h3⟩ | ⟨_, h3⟩
    ·exact Ly hΓ htb htp htc (.seq x y) hs h3 hK
    ·exact eV hΓ htb htp (.seq x y) hs h3 hK
 | _ => intro fr K st ρ w hs h hK; exact eV hΓ htb htp _ hs h hK
end
end Go.Proofs.YtdhgpnejphlfpaaDoor
namespace Go.Proofs.YtdhgpnejphlfpaaDoor
open Go.Lib
def cO : List (Bool × Row) → List Row
 | [] => []
 | x :: R => ifS x.1 (x.2 :: cO R) (cO R)
def g9 : List (Bool × Row) → List Row
 | [] => []
 | x :: R => ifS x.1 (g9 R) (x.2 :: g9 R)
def wk : List Row → List Nat
 | [] => []
 | r :: G => (match r with
  | .box j _ _ => j :: wk G
  | _ => wk G)
def idB : Nat → Nat → List (Option Nat)
 | 0, _ => []
 | n + 1, k => some k :: idB n (k + 1)
def EF : List (Nat × List AV) → List (List AV) → List (Nat × List AV)
 | x :: X, cs :: C => (x.1, cs) :: EF X C
 | _, _ => []
def wH (X : Cx) (fr : Fr) (st : StB) : ResultVar → Option AV
 | .tmp t => oT st.E fr.F t
 | .cell p t => (match oT st.E fr.F p with
  | some v => (match tC [] st.G fr.H none v with
   | some cs => kS X.P t cs
   | none => none)
  | none => none)
def vP (vs : List AV) : AV := match vs with
 | [v] => v
 | vs => .tuple vs
def Lw (e : Ent) (fr : Fr) (st : StB) (v : AV) (fix0 : Nat → Option AV) (fix : Nat → FxA) : List Row := frz (lC st.G fr.H e.r v ++ zq st.G fr.H fix0 fix e.os) st.G
def O1 (e : Ent) (fr : Fr) (n : Nat) (G : List Row) (v : AV) (fix0 : Nat → Option AV) (fix : Nat → FxA) : Option (Tup (hol e.r ++ eK e.os)) := match mt G fr.H e.r v none none (idB n 0) with
 | some mr => (match mtV G fr.H fix0 fix e.os mr.B with
  | some mq => ifS (qS ((mr.S ++ mq.S).map fun x => cr G fr.H x.2) && ltT G.length ((mr.S ++ mq.S).map fun x => cr G fr.H x.2)) (tup _ (mr.D ++ mq.D)) none
  | none => none)
 | none => none
def HD (X : Cx) (e : Ent) (fn : Func) (fr : Fr) (n : Nat) (fix0 : Nat → Option AV) (fix : Nat → FxA) (st : StB) : Option (Tup (hol e.r ++ eK e.os)) := match ot (wH X fr st) fn.results.toList with
 | some rs => O1 e fr n (Lw e fr st (vP rs) fix0 fix) (vP rs) fix0 fix
 | none => none
abbrev Qx {R : Type} (K : StB → Option R) : XE → StB → Option R
 | .nrm, st => K st
 | .ret, st => K st
 | _, _ => none
noncomputable def Ib {R : Type} (X : Cx) (tb : List Ent) (tp : List bc) (tc : List Clo) (h : HT) (fn : Func) (ps : List Pt) (KF : List AV → List Row → Nat → List (Nat × List AV) → XE → StB → Option R) (s : Tup (lr ps)) : Option R :=
 match cZ id ps [] 0 (unt _ s) with
 | ⟨vs, R, n, _, XA⟩ => match ir (wk (cO R)) n (cO R) with
  | (G, Q, c) => match fn.body with
   | none => none
   | some body => ifS (Nat.ble vs.length fn.ntmps && AV.aY n vs && aO n (R.map (·.2))) (
    Ij X tb tp tc body ⟨[], Q ++ g9 R, fn.ntmps⟩ (KF vs (Q ++ g9 R) n (EF XA (bxs G))) ⟨c, lM 0 vs, G, h⟩) none
noncomputable def Pz (X : Cx) (tb : List Ent) (tp : List bc) (tc : List Clo) (h : HT) (fn : Func) (e : Ent) (s : Tup (lr e.ps)) : Option (Tup (hol e.r ++ eK e.os)) :=
 Ib X tb tp tc h fn e.ps (fun vs H n XX => Qx (HD X e fn ⟨[], H, fn.ntmps⟩ n (fun (i : Nat) => vs[i]?) (fxK e.ps vs XX))) s
def yN (e : bc) (fr : Fr) (v : AV) (st : StB) : Option (Tup (hol e.pp)) := match mt (frz (lC st.G fr.H e.pp v) st.G) fr.H e.pp v none none [] with
 | some mr => ifS (qS (mr.S.map fun x => cr (frz (lC st.G fr.H e.pp v) st.G) fr.H x.2) && ltT (frz (lC st.G fr.H e.pp v) st.G).length (mr.S.map fun x => cr (frz (lC st.G fr.H e.pp v) st.G) fr.H x.2)) (tup _ mr.D) none
 | none => none
abbrev inT {B : Type} : (nv : Bool) → (r : Pt) → (os : List (Bool × Nat × Pt)) → Option (Tup (hol r ++ eK os)) → Option (Except B (OkT nv r os))
 | true, _, _, _ => none
 | false, _, _, o => o.map .ok
theorem DT {B : Type} : {nv : Bool} → {r : Pt} → {os : List (Bool × Nat × Pt)} → {o : Option (Tup (hol r ++ eK os))} → {z : Except B (OkT nv r os)} → inT nv r os o = some z → ∃ x q, o = some q ∧ z = .ok x ∧ isOk nv r os x q
 | true, _, _, _, _, h => by cases h
 | false, _, _, none, _, h => by cases h
 | false, _, _, some q, _, h => by cases h; exact ⟨q, q, rfl, rfl, rfl⟩
abbrev Qj {B : Type} (nv : Bool) (r : Pt) (os : List (Bool × Nat × Pt)) (K : StB → Option (Tup (hol r ++ eK os))) (KP : AV → StB → Option B) : XE → StB → Option (Except B (OkT nv r os))
 | .nrm, st => inT nv r os (K st)
 | .ret, st => inT nv r os (K st)
 | .pan v, st => (KP v st).map .error
 | .panE v, st => (KP v st).map .error
 | _, _ => none
noncomputable def OX (X : Cx) (tb : List Ent) (tp : List bc) (tc : List Clo) (h : HT) (fn : Func) (e : bc) (s : Tup (lr e.ps)) : Option (Except (Tup (hol e.pp)) (OkT e.nv e.r e.os)) :=
 Ib X tb tp tc h fn e.ps (fun vs H n XX => Qj e.nv e.r e.os (HD X e.oe fn ⟨[], H, fn.ntmps⟩ n (fun (i : Nat) => vs[i]?) (fxK e.ps vs XX)) (yN e ⟨[], H, fn.ntmps⟩)) s
theorem qk : {G H : List Row} → bxs (G ++ H) = bxs G ++ bxs H
 | [], _ => rfl
 | r :: G, H => by
  cases r <;> simp only [List.cons_append, bxs, qk]
theorem oO : {R S : List (Bool × Row)} → cO (R ++ S) = cO R ++ cO S
 | [], _ => rfl
 | x :: R, S => by
  have e : ∀ Q, cO (x :: Q) = ifS x.1 (x.2 :: cO Q) (cO Q) := fun _ => rfl
  rw [List.cons_append, e, e, oO]
  cases x.1 <;> rfl
theorem A0 {nm : Nat → Nat} : (t : Ty) → (x : t.T) → (n : Nat) → (o : List (Option TypeId)) → bxs (cO (ed nm t x n o).R) = []
 | .i _, _, _, _ | .bo, _, _, _ | .s, _, _, _ | .un, _, _, _ | .n, _, _, _ | .mp _ _, _, _, _ => rfl
 | .p a b, x, n, o => by
  unfold ed
  have h1 := A0 (nm := nm) a x.1 n o
  generalize ed nm a x.1 n o = L at h1
  obtain ⟨u, p, n1, o1⟩ := L
  dsimp only
  have h2 := A0 (nm := nm) b x.2 n1 o1
  generalize ed nm b x.2 n1 o1 = L at h2
  obtain ⟨u2, p2, n2, o2⟩ := L
  show bxs (cO (p ++ p2)) = []
  rw [oO, qk, show bxs (cO p) = [] from h1, show bxs (cO p2) = [] from h2]
  rfl
 | .l t, x, n, o => by
  unfold ed
  split <;> first | rfl | (rename_i e _; show bxs (cO [(ow e, _)]) = []; unfold cO; cases ow e <;> rfl)
 | .ex, x, n, o => by
  unfold ed
  split <;> first | rfl | (rename_i e _; show bxs (cO [(ow e, _)]) = []; unfold cO; cases ow e <;> rfl)
mutual
theorem F8 {nm : Nat → Nat} : (p : Pt) → (fx : FxA) → (sm : Option AV) → (n : Nat) → (D : List Dyn) → (fill nm p fx sm n D).X.map (·.2) = bxs (cO (fill nm p fx sm n D).R)
 | .int _, _, _, _, _ | .bool, _, _, _, _ | .str, _, _, _, _ | .sli _, _, _, _, _ | .slr _, _, _, _, _ | .ptr _ _, _, _, _, _ | .it, _, _, _, _ | .cst _, _, _, _, _ | .sfp, _, _, _, _ | .same, _, _, _, _ => rfl
 | .own t e m, fx, sm, n, D => by cases m <;> rfl
 | .mp k v m, fx, sm, n, D => by cases m <;> rfl
 | .bx t off m vs, fx, sm, n, D => by
  unfold fill
  have h := mb (nm := nm) vs (vh fx) (n + 1) D
  generalize cZ nm vs (vh fx) (n + 1) D = L at h
  obtain ⟨cs, R, k, DD, XX⟩ := L
  have h' : XX.map (·.2) = bxs (cO R) := h
  cases m
  ·exact h'
  ·show reS (nmP nm fx n) vs cs :: XX.map (·.2) = reS (nmP nm fx n) vs cs :: bxs (cO R)
   rw [h']
 | .agg l, fx, sm, n, D => by
  unfold fill
  have h := mb (nm := nm) l [] n D
  generalize cZ nm l [] n D = L at h
  obtain ⟨cs, R, k, DD, XX⟩ := L
  exact h
 | .tup l, fx, sm, n, D => by
  unfold fill
  have h := mb (nm := nm) l [] n D
  generalize cZ nm l [] n D = L at h
  obtain ⟨cs, R, k, DD, XX⟩ := L
  exact h
 | .fn f a b, fx, sm, n, D => by
  unfold fill
  have h := mb (nm := nm) a [] n D
  generalize cZ nm a [] n D = L at h
  obtain ⟨cs, R, k, DD, XX⟩ := L
  dsimp only
  have h2 := mb (nm := nm) b [] k DD
  generalize cZ nm b [] k DD = L at h2
  obtain ⟨cs2, R2, k2, DD2, XX2⟩ := L
  show (XX ++ XX2).map (·.2) = bxs (cO (R ++ R2))
  rw [List.map_append, oO, qk, show XX.map (·.2) = bxs (cO R) from h, show XX2.map (·.2) = bxs (cO R2) from h2]
 | .ifc t p, fx, sm, n, D => by
  unfold fill
  have h := F8 (nm := nm) p none none n D
  generalize fill nm p none none n D = L at h
  obtain ⟨v, R, k, DD, XX⟩ := L
  exact h
 | .dat t o, fx, sm, n, D => by
  unfold fill
  have h := A0 (nm := nm) t (ec t D) n o
  generalize ed nm t (ec t D) n o = L at h
  obtain ⟨cs, R, k, oo⟩ := L
  exact h.symm
theorem mb {nm : Nat → Nat} : (l : List Pt) → (sms : List AV) → (n : Nat) → (D : List Dyn) → (cZ nm l sms n D).X.map (·.2) = bxs (cO (cZ nm l sms n D).R)
 | [], _, _, _ => rfl
 | p :: l, sms, n, D => by
  unfold cZ
  have h := F8 (nm := nm) p none sms.head? n D
  generalize fill nm p none sms.head? n D = L at h
  obtain ⟨cs, R, k, DD, XX⟩ := L
  dsimp only
  have h2 := mb (nm := nm) l sms.tail k DD
  generalize cZ nm l sms.tail k DD = L at h2
  obtain ⟨cs2, R2, k2, DD2, XX2⟩ := L
  show (XX ++ XX2).map (·.2) = bxs (cO (R ++ R2))
  rw [List.map_append, oO, qk, show XX.map (·.2) = bxs (cO R) from h, show XX2.map (·.2) = bxs (cO R2) from h2]
end
theorem CH {ρ ρ' : Nms} : {X : List (Nat × List AV)} → {C : List (List AV)} → C.map (AV.ae ρ') = X.map (fun x => AV.ae ρ x.2) → cK ρ' (EF X C) = cK ρ X
 | [], [], _ => rfl
 | [], _ :: _, h => by cases h
 | _ :: _, [], h => by cases h
 | x :: X, cs :: C, h => by
  simp only [List.map_cons, List.cons.injEq] at h
  show (x.1, AV.ae ρ' cs) :: cK ρ' (EF X C) = (x.1, AV.ae ρ x.2) :: cK ρ X
  rw [h.1, CH h.2]
section
variable {w : World} {ρ : Nms}
theorem Sat.PJ {A B : Ctx} {x : Item} (h : Sat (A ++ B) w) (hx : x.own = [] ∧ ∀ M w, x.P M w) : Sat (A ++ x :: B) w := by
 refine h.qi (fun j k => (j < A.length ∧ k = j) ∨ (A.length < j ∧ k + 1 = j)) (fun j jt hj => ?_) (fun j k q hjk h1 h2 => by omega)
 by_cases e : j < A.length
 ·rw [List.getElem?_append_left e] at hj
  exact .inr ⟨j, jt, .inl ⟨e, rfl⟩, by rw [List.getElem?_append_left e]; exact hj, aU.refl⟩
 ·rw [List.getElem?_append_right (by omega)] at hj
  by_cases e2 : j = A.length
  ·subst e2
   simp at hj
   subst hj
   exact .inl hx
  ·refine .inr ⟨j - 1, jt, .inr ⟨by omega, by omega⟩, ?_, aU.refl⟩
   rw [List.getElem?_append_right (by omega)]
   have : j - A.length = (j - 1 - A.length) + 1 := by omega
   rw [this, List.getElem?_cons_succ] at hj
   exact hj
theorem Sat.Lq {A B : Ctx} (h : Sat (A ++ B) w) : ∀ (L : List Item), (∀ it ∈ L, it.cC = true ∧ ∀ M w, it.P M w) → Sat (A ++ (L ++ B)) w
 | [], _ => h
 | x :: L, hL => (Sat.Lq h L (fun it hit => hL it (List.mem_cons_of_mem _ hit))).PJ ⟨x.hp (hL x (List.mem_cons_self ..)).1, (hL x (List.mem_cons_self ..)).2⟩
theorem BN {Φ : Ctx} {T : Tbl} : ∀ {R : List (Bool × Row)} {A : Ctx}, Sat (A ++ (items ρ T (R.map (·.2)) ++ Φ)) w → Sat (A ++ (items ρ T (cO R) ++ (items ρ T (g9 R) ++ Φ))) w
 | [], _, h => h
 | x :: R, A, h => by
  have h1 : Sat ((A ++ [x.2.item ρ T]) ++ (items ρ T (R.map (·.2)) ++ Φ)) w := by simpa [items] using h
  have h2 := BN h1
  unfold cO g9
  cases x.1
  ·have h3 : Sat (A ++ x.2.item ρ T :: (items ρ T (cO R) ++ (items ρ T (g9 R) ++ Φ))) w := by simpa using h2
   exact h3.move
  ·simpa [items] using h2
theorem wx {Φ : Ctx} {T : Tbl} : ∀ {R : List (Bool × Row)} {I : Its} {A : Ctx}, dy (RwI ρ T) R I → Sat (A ++ (items ρ T (g9 R) ++ Φ)) w → Sat (A ++ (ez I ++ Φ)) w
 | _, _, _, .nil, h => h
 | _, _, A, .cons (a := a) (b := b) (l := l) (m := m) h1 hr, h => by
  unfold g9 at h
  show Sat (A ++ (ifS b.1 gZ b.2) :: (ez m ++ Φ)) w
  rw [← h1.1]
  cases ha : a.1
  ·rw [ha] at h
   have h2 : Sat (A ++ b.2 :: (items ρ T (g9 l) ++ Φ)) w := by
    have h3 : Sat (A ++ a.2.item ρ T :: (items ρ T (g9 l) ++ Φ)) w := h
    exact h3.le2 h1.2.2
   have h4 : Sat ((A ++ [b.2]) ++ (items ρ T (g9 l) ++ Φ)) w := by simpa using h2
   have := wx hr h4
   simpa using this
  ·rw [ha] at h
   have h3 : Sat (A ++ (items ρ T (g9 l) ++ Φ)) w := h
   exact (wx hr h3).PJ ⟨rfl, fun _ _ => trivial⟩
theorem D5 {c : Nat} : {R : List (Bool × Row)} → aO c (R.map (·.2)) = true → aO c (cO R) = true ∧ aO c (g9 R) = true
 | [], _ => ⟨rfl, rfl⟩
 | x :: R, h => by
  simp only [List.map_cons, aO, Bool.and_eq_true] at h
  obtain ⟨h1, h2⟩ := D5 h.2
  unfold cO g9
  cases x.1
  ·exact ⟨h1, by show aO c (x.2 :: g9 R) = true; simp only [aO, Bool.and_eq_true]; exact ⟨h.1, h2⟩⟩
  ·exact ⟨by show aO c (x.2 :: cO R) = true; simp only [aO, Bool.and_eq_true]; exact ⟨h.1, h1⟩, h2⟩
theorem IE {N : List Nm} : ∀ {M : List Nm} {k : Nat}, (∀ i a, M[i]? = some a → ρ (k + i) = a) → NB ρ (idB M.length k) M
 | [], _, _ => .nil
 | a :: M, k, h => .cons (by
   have := h 0 a rfl
   rw [Nat.add_zero] at this
   exact ⟨by rw [this], by rw [this], by rw [this]⟩) (IE (N := N) fun i b hb => by
   have := h (i + 1) b (by simpa using hb)
   rw [← this]; congr 1; omega)
end
section
variable {X : Cx} {fr : Fr} {st : StB} {ρ : Nms} {Φ : Ctx} {w : World}
theorem Nr (hs : Sat (items ρ [] st.G ++ (items ρ [] fr.H ++ Φ)) w) {r : ResultVar} {v : AV} (h : wH X fr st r = some v) : lX X.P (ai ρ [] st.E fr.F) w r (v.val ρ) := by
 cases r with
 | tmp t => exact lX.t (sQ h)
 | cell p t =>
  unfold wH at h
  dsimp only at h
  split at h
  ·rename_i u hu
   split at h
   ·rename_i cs hcs
    obtain ⟨ad, e1, hc⟩ := Bn hs hcs Tbl.get_none
    have hl := sQ (ρ := ρ) hu
    rw [e1] at hl
    have h' : kS X.P t (cs.drop 0) = some v := by simpa using h
    obtain ⟨d, n, bytes, z, c1, c2, c3⟩ := nF (ρ := ρ) h'
    cases hd : ji d
    ·rw [hd] at c3
     simp only [Bool.false_eq_true, if_false] at c3
     exact lX.c1 hl c1 hd hc c3
    ·unfold kS at h
     rw [c1] at h
     rcases cW h with ⟨_, h2⟩ | ⟨h1, _⟩
     ·split at h2
      ·rename_i q hq
       obtain ⟨n, bytes, z⟩ := q
       obtain ⟨h3, h4⟩ := al h2
       cases h4
       have hle : n ≤ cs.length := Nat.le_of_ble_eq_true h3
       simp only [AV.val]
       refine lX.cA hl c1 hd (cH hq) (vs := AV.ae ρ (cs.take n)) ?_ (by rw [AV.aK, List.length_take, Nat.min_eq_left hle])
       have := hc.sub (us := AV.ae ρ (cs.take n)) 0 (by rw [AV.iE, List.drop_zero, List.length_take, AV.aK, Nat.min_eq_left hle])
       simpa [Addr.add] using this
      ·cases h2
     ·rw [hd] at h1; cases h1
   ·cases h
  ·cases h
theorem Ka {rs : List AV} : (if h : (AV.ae ρ rs).length = 1 then (AV.ae ρ rs)[0] else .tuple (AV.ae ρ rs).toArray) = (vP rs).val ρ := by
 match rs with
 | [] => simp [vP, AV.ae, AV.val]
 | [v] => simp [vP, AV.ae]
 | u :: v :: l => simp [vP, AV.ae, AV.val]
theorem PU {fn : Func} {S : Value → World → Prop} {Sp : List PanicEntry → World → Prop} {rs : List AV} (hs : Sat (items ρ [] st.G ++ (items ρ [] fr.H ++ Φ)) w) (h : ot (wH X fr st) fn.results.toList = some rs) (hS : S ((vP rs).val ρ) w) :
  At (BP X.P fn S Sp) .ret fr.n [] (ai ρ [] st.E fr.F) w := by
 have hlen : ∀ {α β : Type} {f : α → Option β} {l : List α} {ys : List β}, ot f l = some ys → l.length = ys.length := fun {α β f l} => by
  induction l with
  | nil => intro ys h; cases h; rfl
  | cons x l ih =>
   intro ys h
   unfold ot at h
   split at h
   ·split at h
    ·rename_i zs hz; cases h; simp [ih hz]
    ·cases h
   ·cases h
 have hmap : ∀ {l : List ResultVar} {ys : List AV}, ot (wH X fr st) l = some ys → ot (fun r => (wH X fr st r).map (AV.val ρ)) l = some (AV.ae ρ ys) := fun {l} => by
  induction l with
  | nil => intro ys h; cases h; simp [ot, AV.ae]
  | cons x l ih =>
   intro ys h
   unfold ot at h ⊢
   split at h
   ·rename_i y hy
    split at h
    ·rename_i zs hz
     cases h
     rw [hy, ih hz]
     simp [AV.ae]
    ·cases h
   ·cases h
 refine LD (vs := AV.ae ρ rs) (by rw [AV.aK]; exact hlen h) (fun a hf => zn (g := fun r => (wH X fr st r).map (AV.val ρ)) (fun r v hv => ?_) (hmap h)) Ka hS
 cases hr : wH X fr st r with
 | none => rw [hr] at hv; cases hv
 | some u =>
  rw [hr] at hv
  cases hv
  exact (Nr hs hr).run hf
end
theorem FZ {R : Type} {X : Cx} {tb : List Ent} {tp : List bc} {tc : List Clo} {h : HT} {fn : Func} {f : FuncId} {ps : List Pt} {KF : List AV → List Row → Nat → List (Nat × List AV) → XE → StB → Option R} {s : Tup (lr ps)} {r : R} {S : Value → World → Prop} {Sp : List PanicEntry → World → Prop}
  (hfn : X.P.funcs[f]? = some fn) (htb : ∀ e ∈ tb, e.Ok X.P X.Γ) (htp : ∀ e ∈ tp, e.Ok X.P X.Γ) (htc : ∀ c ∈ tc, c.Ok X.P) (hd : Ib X tb tp tc h fn ps KF s = some r) {vsV : List Value} {N : List Nm} {I : Its} {XX : Bxs} {Φ : Ctx} {w : World}
  (hS : nO ps vsV [] [] (unt _ s) I XX N) (hsat : Sat (cF I ++ Φ) w) (hΓ : ∀ it ∈ X.Γ, it ∈ Φ)
  (fin : ∀ (x : XE) (vs : List AV) (H : List Row) (XA : List (Nat × List AV)) (st : StB) (ρ : Nms) (w' : World), KF vs H N.length XA x st = some r → Sat (items ρ [] st.G ++ (items ρ [] H ++ Φ)) w' → NB ρ (idB N.length 0) N → AV.ae ρ vs = vsV → cK ρ XA = XX →
   (∀ {A : Ctx} {w2 : World}, Sat (A ++ (items ρ [] H ++ Φ)) w2 → Sat (A ++ (ez I ++ Φ)) w2) → AtX (BP X.P fn S Sp) x ρ fn.ntmps [] (ai ρ [] st.E []) w') : iA X.P f vsV w S Sp := by
 -- names of the arguments
 have hnm : nQ (fun (i : Nat) => (N[i]?).getD nm0) id 0 N := fun i a ha => by simp only [id, ha, Option.getD_some]; exact ⟨trivial, trivial, trivial, fun _ => trivial⟩
 have hN0 : ∀ (i : Nat) a, N[i]? = some a → (fun (i : Nat) => (N[i]?).getD nm0) (0 + i) = a := fun i a ha => by simp only [Nat.zero_add, ha, Option.getD_some]
 generalize (fun (i : Nat) => (N[i]?).getD nm0) = ρ at hnm hN0
 obtain ⟨f1, f2, f3, f4, f5⟩ := mm (T := []) (nm := id) ps vsV [] [] (unt _ s) I XX N (by simpa only [AV.ae] using hS) hnm (Nat.zero_le _) []
 have fb := mb (nm := id) ps [] 0 (unt _ s)
 simp only [List.append_nil, List.length_nil] at f1 f2 f3 f4 f5
 unfold Ib at hd
 generalize cZ id ps [] 0 (unt _ s) = L at f1 f2 f3 f4 f5 fb hd
 obtain ⟨vs, R, n, DD, XA⟩ := L
 simp only at f1 f2 f3 f4 f5 fb
 dsimp only at hd
 subst f2
 generalize hL : ir (wk (cO R)) N.length (cO R) = L at hd
 obtain ⟨G, Qr, c⟩ := L
 dsimp only at hd
 split at hd
 ·cases hd
 rename_i body hbody
 obtain ⟨h1, h2⟩ := al hd
 simp only [Bool.and_eq_true] at h1
 obtain ⟨⟨h3, h4⟩, h5⟩ := h1
 obtain ⟨l1, l2⟩ := D5 h5
 obtain ⟨ρ1, lk⟩ := uB (ids := wk (cO R)) (ρ := ρ) l1
 rw [hL] at lk
 have hc : N.length ≤ c := lk.le
 have hs1 : Sat (items ρ [] (R.map (·.2)) ++ Φ) w := Sat.leL (A := []) (B := cF I) (C := Φ) hsat f5.rw
 have hs2 := BN (A := []) hs1
 have e1 : items ρ1 [] G = items ρ [] (cO R) := lk.eq
 have hs3 : Sat (items ρ1 [] G ++ (items ρ1 [] (Qr ++ g9 R) ++ Φ)) w := by
  rw [e1, aG, aE lk.ag l2, List.append_assoc]
  exact Sat.Lq (A := items ρ [] (cO R)) (B := items ρ [] (g9 R) ++ Φ) hs2 (items ρ1 [] Qr) (fun it hit => by
   obtain ⟨q, hq, rfl⟩ := List.mem_map.1 hit
   exact lk.rp q hq)
 have hvs : AV.ae ρ1 vs = vsV := by rw [AV.aX lk.ag _ h4, f1]
 refine w9 hfn hbody rfl (by rw [← hvs, AV.aK]; exact h3) ?_
 have hE : ai ρ1 [] (lM 0 vs) [] = iota 0 vsV := by
  show aj.env ρ1 [] (lM 0 vs) ++ [] = _
  rw [uX, hvs, List.append_nil]
 rw [← hE]
 refine Oh (fr := ⟨[], Qr ++ g9 R, fn.ntmps⟩) (st := ⟨c, lM 0 vs, G, h⟩) hΓ htb htp htc body hs3 h2 (fun x st' ρ' w' a1 a2 a3 a4 => ?_)
 have hag : ax N.length ρ ρ' := lk.ag.trans (a1.less hc) (Nat.le_refl _)
 refine fin x vs (Qr ++ g9 R) (EF XA (bxs G)) st' ρ' w' a3 a4 (IE (N := N) (fun i a ha => by
   have hi : i < N.length := (List.getElem?_eq_some_iff.1 ha).1
   rw [hag _ (by omega)]; exact hN0 i a ha)) (by rw [AV.aX hag _ h4, f1]) ?_ (fun {A w2} hw => ?_)
 ·rw [f4]
  refine CH ?_
  have g1 : (bxs G).map (AV.ae ρ') = (bxs G).map (AV.ae ρ1) := vZ a1 lk.lw
  have g2 : (bxs G).map (AV.ae ρ1) = (bxs (cO R)).map (AV.ae ρ) := lk.bx
  rw [g1, g2, ← fb, List.map_map]; rfl
 ·rw [aG, List.append_assoc] at hw
  have p4 := hw.xC
  have hfr : items ρ' [] (g9 R) = items ρ [] (g9 R) := aE hag l2
  rw [hfr] at p4
  exact wx f5 p4
theorem xh {X : Cx} {e : Ent} {fn : Func} {S : Value → World → Prop} {Sp : List PanicEntry → World → Prop} {q : Tup (hol e.r ++ eK e.os)} {vsV : List Value} {N : List Nm} {I : Its} {XX : Bxs} {Φ : Ctx} {vs : List AV} {H : List Row} {XA : List (Nat × List AV)} {st : StB} {ρ : Nms} {w' : World}
  (hk : HD X e fn ⟨[], H, fn.ntmps⟩ N.length (fun (i : Nat) => vs[i]?) (fxK e.ps vs XA) st = some q) (a4 : Sat (items ρ [] st.G ++ (items ρ [] H ++ Φ)) w') (hNB : NB ρ (idB N.length 0) N) (hvs' : AV.ae ρ vs = vsV) (hX : cK ρ XA = XX)
  (hback : ∀ {A : Ctx} {w2 : World}, Sat (A ++ (items ρ [] H ++ Φ)) w2 → Sat (A ++ (ez I ++ Φ)) w2)
  (hSS : ∀ v w', (∃ (N1 N2 : List Nm) (D1 D2 : List Dyn) (I1 I2 : Its) (X1 X2 : Bxs), Sem e.r v none none N D1 I1 X1 N1 ∧ sX (fxS e.ps vsV XX) (fun (i : Nat) => vsV[i]?) e.os N1 D2 I2 X2 N2 ∧ D1 ++ D2 = unt _ q ∧ Sat ((cF I1 ++ cF I2) ++ (ez I ++ Φ)) w') → S v w') :
  At (BP X.P fn S Sp) .ret fn.ntmps [] (ai ρ [] st.E []) w' := by
 unfold HD at hk
 split at hk
 ·rename_i rs hrs
  refine PU (fr := ⟨[], H, fn.ntmps⟩) a4 hrs (hSS _ _ ?_)
  generalize vP rs = v at hk
  have b4 := gf (ids := lC st.G H e.r v ++ zq st.G H (fun (i : Nat) => vs[i]?) (fxK e.ps vs XA) e.os) a4
  change Sat (items ρ [] (Lw e ⟨[], H, fn.ntmps⟩ st v (fun (i : Nat) => vs[i]?) (fxK e.ps vs XA)) ++ _) w' at b4
  generalize Lw e ⟨[], H, fn.ntmps⟩ st v (fun (i : Nat) => vs[i]?) (fxK e.ps vs XA) = G' at hk b4
  unfold O1 at hk
  split at hk
  ·rename_i mr hmr
   split at hk
   ·rename_i mq hmq
    obtain ⟨k1, k2⟩ := al hk
    simp only [Bool.and_eq_true] at k1
    obtain ⟨N1, I1, s1, n1, q1⟩ := uJ b4 e.r v none none _ mr N hmr hNB (fun q hq => by cases hq)
    obtain ⟨N2, I2, s2, n2, q2⟩ := An b4 e.os mr.B mq N1 hmq n1
    have hfx : (fun i => iU ρ (fxK e.ps vs XA i)) = fxS e.ps vsV XX := by
     funext i
     rw [← FX, hvs', hX]
    have hval : (fun (i : Nat) => (vs[i]?).map (AV.val ρ)) = fun (i : Nat) => vsV[i]? := by
     funext i
     rw [← hvs', Bd]
    rw [hfx, hval] at s2
    obtain ⟨p1, _⟩ := uI b4 (q1.append q2)
    obtain ⟨p2, _⟩ := mL b4 p1 (mO k1.1)
    rw [oA k1.2] at p2
    have p3 := p2.xC
    have p5 := hback p3
    refine ⟨N1, N2, mr.D, mq.D, I1, I2, _, _, s1, s2, (oH _ k2).symm, ?_⟩
    simpa [cF] using p5
   ·cases hk
  ·cases hk
 ·cases hk
theorem PV {X : Cx} {tb : List Ent} {tp : List bc} {tc : List Clo} {h : HT} {fn : Func} {e : Ent} (hen : fH X.P e.f) (hfn : X.P.funcs[e.f]? = some fn) (htb : ∀ e ∈ tb, e.Ok X.P X.Γ) (htp : ∀ e ∈ tp, e.Ok X.P X.Γ) (htc : ∀ c ∈ tc, c.Ok X.P) (hm : ∀ s r, e.m s = some r → Pz X tb tp tc h fn e s = some r) : e.Ok X.P X.Γ := by
 refine ⟨hen, fun s r hr vsV N I XX Φ w hS hsat hΓ => ?_⟩
 refine FZ hfn htb htp htc (hm s r hr) hS hsat hΓ (fun x vs H XA st ρ w' hk a4 hNB hvs hX hback => ?_)
 cases x with
 | nrm => exact xh hk a4 hNB hvs hX hback (fun _ _ h => h)
 | ret => exact xh hk a4 hNB hvs hX hback (fun _ _ h => h)
 | ext i => cases hk
 | gto l => cases hk
 | pan v => cases hk
 | panE v => cases hk
theorem OH {X : Cx} {tb : List Ent} {tp : List bc} {tc : List Clo} {h : HT} {fn : Func} {e : bc} (hen : fH X.P e.f) (hfn : X.P.funcs[e.f]? = some fn) (htb : ∀ e ∈ tb, e.Ok X.P X.Γ) (htp : ∀ e ∈ tp, e.Ok X.P X.Γ) (htc : ∀ c ∈ tc, c.Ok X.P) (hm : ∀ s r, e.m s = some r → OX X tb tp tc h fn e s = some r) : e.Ok X.P X.Γ := by
 refine ⟨hen, fun s r hr vsV N I XX Φ w hS hsat hΓ => ?_⟩
 refine FZ hfn htb htp htc (hm s r hr) hS hsat hΓ (fun x vs H XA st ρ w' hk a4 hNB hvs hX hback => ?_)
 cases x with
 | nrm =>
  obtain ⟨x, q, hq, rfl, hi⟩ := DT hk
  exact xh hq a4 hNB hvs hX hback (fun _ _ h => ⟨x, q, rfl, hi, h⟩)
 | ret =>
  obtain ⟨x, q, hq, rfl, hi⟩ := DT hk
  exact xh hq a4 hNB hvs hX hback (fun _ _ h => ⟨x, q, rfl, hi, h⟩)
 | ext i => cases hk
 | gto l => cases hk
 | pan v =>
  have hk' : (yN e ⟨[], H, fn.ntmps⟩ v st).map Except.error = some r := hk
  cases hp : yN e ⟨[], H, fn.ntmps⟩ v st with
  | none => rw [hp] at hk'; cases hk'
  | some p =>
   rw [hp] at hk'
   cases hk'
   unfold yN at hp
   have b4 := gf (ids := lC st.G H e.pp v) a4
   generalize frz (lC st.G H e.pp v) st.G = G' at hp b4
   split at hp
   ·rename_i mr hmr
    obtain ⟨k1, k2⟩ := al hp
    simp only [Bool.and_eq_true] at k1
    obtain ⟨N1, I1, s1, n1, q1⟩ := uJ b4 e.pp v none none _ mr [] hmr .nil (fun q hq => by cases hq)
    obtain ⟨p1, _⟩ := uI b4 q1
    obtain ⟨p2, _⟩ := mL b4 p1 (mO k1.1)
    rw [oA k1.2] at p2
    have p5 := hback p2.xC
    rw [← oH _ k2] at s1
    exact M3 ⟨p, rfl, v.val ρ, N1, I1, _, rfl, s1, by simpa [cF] using p5⟩
   ·cases hp
 | panE v =>
  have hk' : (yN e ⟨[], H, fn.ntmps⟩ v st).map Except.error = some r := hk
  cases hp : yN e ⟨[], H, fn.ntmps⟩ v st with
  | none => rw [hp] at hk'; cases hk'
  | some p =>
   rw [hp] at hk'
   cases hk'
   unfold yN at hp
   have b4 := gf (ids := lC st.G H e.pp v) a4
   generalize frz (lC st.G H e.pp v) st.G = G' at hp b4
   split at hp
   ·rename_i mr hmr
    obtain ⟨k1, k2⟩ := al hp
    simp only [Bool.and_eq_true] at k1
    obtain ⟨N1, I1, s1, n1, q1⟩ := uJ b4 e.pp v none none _ mr [] hmr .nil (fun q hq => by cases hq)
    obtain ⟨p1, _⟩ := uI b4 q1
    obtain ⟨p2, _⟩ := mL b4 p1 (mO k1.1)
    rw [oA k1.2] at p2
    have p5 := hback p2.xC
    rw [← oH _ k2] at s1
    exact (M3 ⟨p, rfl, v.val ρ, N1, I1, _, rfl, s1, by simpa [cF] using p5⟩ : AtP _ _ [] _).at
   ·cases hp
theorem jX {X : Cx} {A B : Type} {E : (A → Option B) → Ent} {F : (A → Option B) → A → Option B} (h0 : (E fun _ => none).Ok X.P X.Γ) (step : ∀ k, (E k).Ok X.P X.Γ → (E (F k)).Ok X.P X.Γ) : ∀ n, (E (an F n)).Ok X.P X.Γ
 | 0 => h0
 | n + 1 => step _ (jX h0 step n)
theorem aD {X : Cx} {tb : List Ent} {tp : List bc} {tc : List Clo} {fn : Func} {e : Ent} (h : HT) (hen : fH X.P e.f) (hfn : X.P.funcs[e.f]? = some fn) (htb : ∀ e ∈ tb, e.Ok X.P X.Γ) (htp : ∀ e ∈ tp, e.Ok X.P X.Γ) (htc : ∀ c ∈ tc, c.Ok X.P) (eq : ∀ s, Pz X tb tp tc h fn e s = e.m s) : e.Ok X.P X.Γ :=
 PV hen hfn htb htp htc fun s _ hr => (eq s).trans hr
theorem tq {X : Cx} {tb : List Ent} {tp : List bc} {tc : List Clo} {fn : Func} {e : bc} (h : HT) (hen : fH X.P e.f) (hfn : X.P.funcs[e.f]? = some fn) (htb : ∀ e ∈ tb, e.Ok X.P X.Γ) (htp : ∀ e ∈ tp, e.Ok X.P X.Γ) (htc : ∀ c ∈ tc, c.Ok X.P) (eq : ∀ s, OX X tb tp tc h fn e s = e.m s) : e.Ok X.P X.Γ :=
 OH hen hfn htb htp htc fun s _ hr => (eq s).trans hr
theorem ok0 {E : Type} {p : E → Prop} : ∀ e ∈ ([] : List E), p e := fun _ h => by cases h
theorem ok1 {E : Type} {p : E → Prop} {x : E} {l : List E} (hx : p x) (hl : ∀ e ∈ l, p e) : ∀ e ∈ x :: l, p e := fun e he => by
 rcases List.mem_cons.1 he with rfl | he
 ·exact hx
 ·exact hl e he
end Go.Proofs.YtdhgpnejphlfpaaDoor
namespace Go.Proofs.YtdhgpnejphlfpaaDoor
def i64B (x : Int) : Bool := decide (-9223372036854775808 ≤ x) && decide (x ≤ 9223372036854775807)
end Go.Proofs.YtdhgpnejphlfpaaDoor
