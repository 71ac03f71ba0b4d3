/-
  Own texts for the statement ModelTells, cut down to what it needs: B26, B27, B22, KIt, Model. (cut and joined by a program)
-/
import Derived.Test.YtdhgpnejphlfpaaGreatDoorModelTellsA
import Derived.Test.YtdhgpnejphlfpaaGreatDoorModelTellsB
import Derived.Test.YtdhgpnejphlfpaaGreatDoorModelTellsC
import Derived.Lib.ItoaNum
namespace Go.Proofs.YtdhgpnejphlfpaaGreatDoor
open Go.Lib
def kE (l : Nat) : Code → Bool
 | .label j => j == l
 | .seq x y => kE l x || kE l y
 | _ => false
theorem LY {l : Nat} : (c : Code) → kE l c = false → findLabel c l = none := fun c => by
 induction c with
 | label j =>
  intro h
  unfold kE at h
  unfold findLabel
  rw [h]; rfl
 | seq x y ihx ihy =>
  intro h
  simp only [kE, Bool.or_eq_false_iff] at h
  simp only [findLabel, ihx h.1, ihy h.2]
 | _ => intro _; rfl
theorem Dm {l : Nat} : (c : Code) → kE l c = true → ∃ r, findLabel c l = some r := fun c => by
 induction c with
 | label j =>
  intro h
  unfold kE at h
  unfold findLabel
  rw [h]; exact ⟨_, rfl⟩
 | seq x y ihx ihy =>
  intro h
  simp only [kE, Bool.or_eq_true] at h
  unfold findLabel
  cases hx : findLabel x l with
  | some r => exact ⟨_, rfl⟩
  | none =>
   rcases h with h | h
   ·obtain ⟨r, hr⟩ := ihx h; rw [hx] at hr; cases hr
   ·exact ihy h
 | _ => intro h; cases h
def lab (P : Program) (ρ : Option Nat) (l : Nat) : Code → ba → ba
 | .seq x y, Q => ifS (kE l x) (lab P ρ l x (Exit.then (y.wpIn (FW ρ) 0 P Q) Q)) (lab P ρ l y Q)
 | _, Q => Q
theorem Jv {P : Program} {ρ : Option Nat} {l : Nat} : (c : Code) → {r : Code} → {Q : ba} → {a : Act} → {w : World} → findLabel c l = some r → lab P ρ l c Q .normal a w → r.wpIn (FW ρ) 0 P Q a w := fun c => by
 induction c with
 | label j =>
  intro r Q a w hr h
  unfold findLabel at hr
  split at hr
  ·cases hr; exact wpIn_skip h
  ·cases hr
 | seq x y ihx ihy =>
  intro r Q a w hr h
  unfold lab at h
  unfold findLabel at hr
  cases hx : kE l x
  ·rw [hx] at h
   rw [LY x hx] at hr
   exact ihy hr h
  ·rw [hx] at h
   obtain ⟨r', hr'⟩ := Dm x hx
   rw [hr'] at hr
   cases hr
   exact wpIn_seq (ihx hr' h)
 | _ => intro r Q a w hr h; cases hr
def rU (l : Nat) : Code → Nat
 | .seq x y => ifS (kE l x) (Nat.lor (rU l x) (fL y)) (rU l y)
 | _ => 0
def qA (st : StB) : StB := match st.h with
 | .s h => { st with h := h }
 | _ => st
abbrev gtk {R : Type} (l : Nat) (A : StB → Option R) (K : XE → StB → Option R) : XE → StB → Option R
 | .gto j, st => ifS (Nat.beq j l) (A st) none
 | e, st => K e st
noncomputable def yl {R : Type} (X : Cx) (tb : List Ent) (tp : List bK) (l : Nat) (fr : Fr) : Code → (XE → StB → Option R) → StB → Option R
 | .seq x y, K, st => ifS (kE l x) (yl X tb tp l fr x (thn (den X tb tp y fr K) K) st) (yl X tb tp l fr y K st)
 | .label _, K, st => K .nrm st
 | _, _, _ => none
noncomputable def x6 {R : Type} (X : Cx) (tb : List Ent) (tp : List bK) (l : Nat) (fr : Fr) (K : XE → StB → Option R) (KL : StB → Option R) : Code → StB → Option R
 | .seq x y, st => ifS (kE l x) (x6 X tb tp l fr K KL x (qA st)) (den X tb tp x fr (thn (fun st => x6 X tb tp l fr K KL y st) K) (qA st))
 | .label _, st => KL st
 | _, _ => none
noncomputable def KX {R : Type} (X : Cx) (tb : List Ent) (tp : List bK) (c : Code) (fr : Fr) (K : XE → StB → Option R) (st : StB) : Option R := match st.h with
 | .n l (.j tm p q) => ifS (kE l c) (
   x6 X tb tp l fr (gtk l (fun _ => none) K) (fun st1 => ifS (st1.low fr) (
     match pX (enter fr tm (rU l c) st1) tm (enter fr tm (rU l c) st1).Et (enter fr tm (rU l c) st1).Gt with
     | some s => aj (fun again s => yl X tb tp l (enter fr tm (rU l c) st1).fr c (gtk l (fun st' => match pX (enter fr tm (rU l c) st1) tm st'.E st'.G with
       | some s => again s
       | none => none) (fun e st' => K e (xN (enter fr tm (rU l c) st1) st'))) (fz (enter fr tm (rU l c) st1) tm s q)) al s
     | none => none) none) c { st with h := p }) none
 | _ => none
section
variable {X : Cx} {tb : List Ent} {tp : List bK} {σ : Option Nat} {D : List Deferred} {R : Type} {r : R} {Φ : Ctx}
theorem Fy {Q : ba} {l n : Nat} {E : Env} {w : World} {e : XE} {ρ : Nms} {J : Act → World → Prop} (hne : ∀ j, e ≠ .gto j) (h : AtX Q e ρ n D E w) : AtX (Exit.jump l J Q) e ρ n D E w := by
 cases e <;> first | exact ((hne _) rfl).elim | exact h
theorem Kg {l : Nat} (hΓ : ∀ it ∈ X.Γ, it ∈ Φ) (htb : ∀ e ∈ tb, e.Ok X.P X.Γ) (htp : ∀ e ∈ tp, e.Ok X.P X.Γ) : ∀ (c : Code) {Q : ba} {fr : Fr} {K : XE → StB → Option R} {st : StB} {ρ : Nms} {w : World}, Sat (items ρ [] st.G ++ (items ρ [] fr.H ++ Φ)) w →
  yl X tb tp l fr c K st = some r → lz Q D fr Φ st.c ρ r K → ∀ a, Fits fr.n (aq ρ [] st.E fr.F) a → a.defers = D → lab X.P σ l c Q .normal a w := fun c => by
 induction c with
 | label j => intro Q fr K st ρ w hs h hK a hf hd; exact hK .nrm st ρ w .refl (Nat.le_refl _) h hs a hf hd
 | seq x y ihx ihy =>
  intro Q fr K st ρ w hs h hK a hf hd
  unfold yl at h
  unfold lab
  cases hx : kE l x
  ·rw [hx] at h
   exact ihy hs h hK a hf hd
  ·rw [hx] at h
   refine ihx (Q := Exit.then (y.wpIn (FW σ) 0 X.P Q) Q) hs h (fun e st' ρ' w' a1 a2 a3 a4 => ?_) a hf hd
   by_cases he : e = .nrm
   ·subst he
    exact rL (iJ hΓ htb htp y a4 a3 (hK.less a1 a2))
   ·rw [uE he] at a3
    exact nr he (hK e st' ρ' w' a1 a2 a3 a4)
 | _ => intro Q fr K st ρ w hs h; cases h
theorem Fm {st : StB} : (qA st).c = st.c ∧ (qA st).E = st.E ∧ (qA st).G = st.G := by
 unfold qA
 split <;> exact ⟨rfl, rfl, rfl⟩
theorem I0 {l : Nat} (hΓ : ∀ it ∈ X.Γ, it ∈ Φ) (htb : ∀ e ∈ tb, e.Ok X.P X.Γ) (htp : ∀ e ∈ tp, e.Ok X.P X.Γ) {Q0 : ba} {fr : Fr} {K : XE → StB → Option R} {KL : StB → Option R} {c0 : Nat} {ρ0 : Nms} (hK : lz Q0 D fr Φ c0 ρ0 r K) : ∀ (c : Code) {Q : ba} {st : StB} {ρ : Nms} {w : World},
  (∀ e (E : Env) (ρ : Nms) w, e ≠ .nrm → AtX Q0 e ρ fr.n D E w → AtX Q e ρ fr.n D E w) →
  (∀ st1 ρ1 w1, aE c0 ρ0 ρ1 → c0 ≤ st1.c → KL st1 = some r → Sat (items ρ1 [] st1.G ++ (items ρ1 [] fr.H ++ Φ)) w1 → ∀ a, Fits fr.n (aq ρ1 [] st1.E fr.F) a → a.defers = D → lab X.P σ l c Q .normal a w1) →
  kE l c = true → aE c0 ρ0 ρ → c0 ≤ st.c → Sat (items ρ [] st.G ++ (items ρ [] fr.H ++ Φ)) w →
  x6 X tb tp l fr K KL c st = some r → WC X.P σ c Q fr.n D (aq ρ [] st.E fr.F) w := fun c => by
 induction c with
 | label j => intro Q st ρ w hQ hL _ ha hc hs h; exact Eu (fun a hf hd => hL st ρ w ha hc h hs a hf hd)
 | seq x y ihx ihy =>
  intro Q st ρ w hQ hL hh ha hc hs h
  obtain ⟨p1, p2, p3⟩ := Fm (st := st)
  unfold x6 at h
  cases hx : kE l x
  ·rw [hx] at h
   simp only [kE, hx, Bool.false_or] at hh
   refine xn ?_
   have := iJ (σ := σ) (D := D) hΓ htb htp x (fr := fr) (st := qA st) (ρ := ρ) (w := w) (Q := Exit.then (y.wpIn (FW σ) 0 X.P Q) Q) (by rw [p3]; exact hs) h (fun e st' ρ' w' a1 a2 a3 a4 => ?_)
   ·rw [p2] at this; exact this
   ·rw [p1] at a1 a2
    by_cases he : e = .nrm
    ·subst he
     refine rL (ihy hQ (fun st1 ρ1 w1 b1 b2 b3 b4 a hf hd => ?_) hh (ha.trans a1 hc) (Nat.le_trans hc a2) a4 a3)
     have := hL st1 ρ1 w1 b1 b2 b3 b4 a hf hd
     unfold lab at this
     rw [hx] at this
     exact this
    ·rw [uE he] at a3
     exact nr he (hQ _ _ _ _ he (hK e st' ρ' w' (ha.trans a1 hc) (Nat.le_trans hc a2) a3 a4))
  ·rw [hx] at h
   refine xn ?_
   have := ihx (Q := Exit.then (y.wpIn (FW σ) 0 X.P Q) Q) (st := qA st) (ρ := ρ) (w := w) (fun e E ρ w hne he => nr hne (hQ e E ρ w hne he)) (fun st1 ρ1 w1 b1 b2 b3 b4 a hf hd => ?_) hx ha (by rw [p1]; exact hc) (by rw [p3]; exact hs) h
   ·rw [p2] at this; exact this
   ·have := hL st1 ρ1 w1 b1 b2 b3 b4 a hf hd
    unfold lab at this
    rw [hx] at this
    exact this
 | _ => intro Q st ρ w hQ hL hh; cases hh
theorem MO {c : Code} {Q : ba} {fr : Fr} {K : XE → StB → Option R} {st : StB} {ρ : Nms} {w : World} (hΓ : ∀ it ∈ X.Γ, it ∈ Φ) (htb : ∀ e ∈ tb, e.Ok X.P X.Γ) (htp : ∀ e ∈ tp, e.Ok X.P X.Γ) (hs : Sat (items ρ [] st.G ++ (items ρ [] fr.H ++ Φ)) w)
  (h : KX X tb tp c fr K st = some r) (hK : lz Q D fr Φ st.c ρ r K) : WC X.P σ (.scope c) Q fr.n D (aq ρ [] st.E fr.F) w := by
 unfold KX at h
 split at h
 ·rename_i l tm p q hh
  obtain ⟨hlab, h0⟩ := aw h
  obtain ⟨rest, hrest⟩ := Dm c hlab
  -- what holds at the label
  let F : En → (Tup (gQ tm.vs) → Option R) → Tup (gQ tm.vs) → Option R := fun E0 again s => yl X tb tp l E0.fr c (gtk l (fun st' => match pX E0 tm st'.E st'.G with
     | some s => again s
     | none => none) (fun e st' => K e (xN E0 st'))) (fz E0 tm s q)
  let I : Nat → Act → World → Prop := fun m a w => ∃ (E0 : En) (ρ1 : Nms), (E0.fr.F = E0.E ++ fr.F ∧ E0.fr.H = E0.G ++ fr.H ∧ E0.fr.n = fr.n ∧ an.low E0.c E0.fr.F = true ∧ bg E0.c E0.fr.H = true ∧ (∀ t q, E0.fix t = some q → q.1.low E0.c = true ∧ AV.bJ E0.c q.2 = true)) ∧ aE st.c ρ ρ1 ∧ st.c ≤ E0.c ∧
   tQ (aj (F E0) m) r (fun s (g : Nms) w' => aE E0.c ρ1 g ∧ Sat (items g [] (fz E0 tm s q).G ++ (items g [] E0.fr.H ++ Φ)) w') (fun s g => aq g [] (fz E0 tm s q).E E0.fr.F) fr.n D a w
  have at_lab : ∀ m a w, I m a w → lab X.P σ l c (Exit.jump l (fun a' w' => ∃ m' < m, I m' a' w') Q) .normal a w := by
   rintro m a w ⟨E0, ρ1, ⟨ff, fh, fn, lF, lH, fx⟩, hag, hle, s, g, hm, hJ, hF, hD⟩
   obtain ⟨m', rfl, hm'⟩ := tV hm
   have eL : ∀ s E' R' k DD, fO (fun n => E0.c + n) E0.fix tm.vs 0 (unt _ s) = ⟨E', R', k, DD⟩ → fz E0 tm s q = ⟨E0.c + k, E', rowsOf R', q⟩ := fun s E' R' k DD hb => by unfold fz; rw [hb]
   have hc : E0.c ≤ (fz E0 tm s q).c := by
    unfold fz
    generalize fO (fun n => E0.c + n) E0.fix tm.vs 0 (unt _ s) = L
    obtain ⟨a, b, c, d⟩ := L
    exact Nat.le_add_right _ _
   refine Kg (σ := σ) (D := D) hΓ htb htp c (fr := E0.fr) (st := fz E0 tm s q) (ρ := g) (Q := Exit.jump l (fun a' w' => ∃ m'' < m' + 1, I m'' a' w') Q) hJ.2 hm' (fun e st' ρ' w2 a1 a2 a3 a4 => ?_) a (by rw [fn]; exact hF) hD
   by_cases he : ∃ j, e = .gto j
   ·obtain ⟨j, rfl⟩ := he
    unfold gtk at a3
    obtain ⟨hj, a5⟩ := aw a3
    have := Nat.eq_of_beq_eq_true hj
    subst this
    dsimp only at a5
    split at a5
    ·rename_i s' hb
     obtain ⟨ρ3, E2, R2, k2, DD2, d1, d2, d3, d4⟩ := uX lF lH fx a4 hb
     refine fun a2' hf2 hd2 => ⟨rfl, m', Nat.lt_succ_self _, E0, ρ1, ⟨ff, fh, fn, lF, lH, fx⟩, hag, hle, s', ρ3, a5, ⟨(hJ.1.trans (a1.less hc) (Nat.le_refl _)).trans d2 (Nat.le_refl _), ?_⟩, ?_, hd2⟩
     ·rw [eL _ _ _ _ _ d1]; exact d4
     ·rw [fn] at hf2
      show Fits fr.n (aq ρ3 [] (fz E0 tm s' q).E E0.fr.F) a2'
      rw [eL _ _ _ _ _ d1]
      exact hf2.px d3
    ·cases a5
   ·have hne : ∀ j, e ≠ .gto j := fun j hj => he ⟨j, hj⟩
    have a3' : K e (xN E0 st') = some r := by
     cases e <;> first | exact ((hne _) rfl).elim | exact a3
    exact Fy hne (xO hK hag hle ff fh fn e st' ρ' w2 (hJ.1.trans (a1.less hc) (Nat.le_refl _)) (Nat.le_trans hc a2) a3' a4)
  refine fun a hf hd => tK l I hrest ?_ (fun m a w hI => Jv c hrest (at_lab m a w hI))
  -- the way to the label
  have hK' : lz (Exit.jump l (fun a w => ∃ m, I m a w) Q) D fr Φ st.c ρ r (gtk l (fun _ => none) K) := fun e st1 ρ' w' a1 a2 a3 a4 => by
   by_cases he : ∃ j, e = .gto j
   ·obtain ⟨j, rfl⟩ := he
    unfold gtk at a3
    obtain ⟨_, a5⟩ := aw a3
    cases a5
   ·have hne : ∀ j, e ≠ .gto j := fun j hj => he ⟨j, hj⟩
    have a3' : K e st1 = some r := by
     cases e <;> first | exact ((hne _) rfl).elim | exact a3
    exact Fy hne (hK e st1 ρ' w' a1 a2 a3' a4)
  refine I0 (σ := σ) hΓ htb htp hK' c (Q := Exit.jump l (fun a w => ∃ m, I m a w) Q) (st := { st with h := p }) (ρ := ρ) (fun _ _ _ _ _ h => h) (fun st1 ρ' w' a1 a2 a3 a4 a' hf' hd' => ?_) hlab .refl (Nat.le_refl _) hs h0 a hf hd
  obtain ⟨hl, h2⟩ := aw a3
  obtain ⟨ρ1, en⟩ := zI (tm := tm) (m := rU l c) hl a4
  generalize enter fr tm (rU l c) st1 = E0 at h2 en
  split at h2
  ·rename_i s0 hb0
   obtain ⟨ρ2, E', R', k, DD, b1, b2, b3, b4⟩ := uX en.lF en.lH en.fx en.sat hb0
   have eL : fz E0 tm s0 q = ⟨E0.c + k, E', rowsOf R', q⟩ := by unfold fz; rw [b1]
   have key : I al a' w' := by
    refine ⟨E0, ρ1, ⟨en.ff, en.fh, en.fn, en.lF, en.lH, en.fx⟩, a1.trans en.ag a2, Nat.le_trans a2 en.le, s0, ρ2, h2, ⟨b2, ?_⟩, ?_, hd'⟩
    ·rw [eL]; exact b4
    ·show Fits fr.n (aq ρ2 [] (fz E0 tm s0 q).E E0.fr.F) a'
     rw [eL]; exact hf'.px (b3.trans en.sub)
   have mono : ∀ (c : Code) (Q1 Q2 : ba), (∀ e a w, Q1 e a w → Q2 e a w) → ∀ a w, lab X.P σ l c Q1 .normal a w → lab X.P σ l c Q2 .normal a w := fun c => by
    induction c with
    | seq x y ihx ihy =>
     intro Q1 Q2 hq a w h
     unfold lab at h ⊢
     cases hx : kE l x
     ·rw [hx] at h; exact ihy Q1 Q2 hq a w h
     ·rw [hx] at h
      refine ihx _ _ (fun e a w he => ?_) a w h
      cases e with
      | normal => exact wpIn_mono he hq
      | _ => exact hq _ _ _ he
    | _ => intro Q1 Q2 hq a w h; exact hq _ _ _ h
   exact mono c _ _ (fun e a w he => by
    cases e <;> first | exact he | exact ⟨he.1, let ⟨m', _, hI⟩ := he.2; ⟨m', hI⟩⟩) a' w' (at_lab al a' w' key)
  ·cases h2
 ·cases h
end
end Go.Proofs.YtdhgpnejphlfpaaGreatDoor
namespace Go.Proofs.YtdhgpnejphlfpaaGreatDoor
open Go.Lib
def qO : Nat → List AV → an
 | _, [] => []
 | k, v :: vs => (k, none, v) :: qO (k + 1) vs
theorem zt {ρ : Nms} : {vs : List AV} → {k : Nat} → an.env ρ [] (qO k vs) = iota k (AV.ah ρ vs)
 | [], _ => rfl
 | v :: vs, k => by simp only [qO, an.env, AV.ah, iota, Tbl.get_none, zt]
structure Clo where
 f : FuncId
 fn : Func
def Clo.Ok (P : Program) (c : Clo) : Prop := ia P c.f ∧ P.funcs[c.f]? = some c.fn
def CB : List Clo → Nat → Option Clo
 | [], _ => none
 | c :: l, f => ifS (Nat.beq c.f f) (some c) (CB l f)
theorem Dk {P : Program} {f : Nat} {c : Clo} : {l : List Clo} → (∀ c ∈ l, c.Ok P) → CB l f = some c → c.Ok P ∧ c.f = f
 | [], _, h => by cases h
 | c' :: l, hl, h => by
  unfold CB at h
  rcases fD h with ⟨h1, h2⟩ | ⟨_, h2⟩
  ·cases h2; exact ⟨hl _ (List.mem_cons_self ..), Nat.eq_of_beq_eq_true h1⟩
  ·exact Dk (fun c hc => hl c (List.mem_cons_of_mem _ hc)) h2
abbrev OW {R : Type} (E0 : an) (K : StB → Option R) : XE → StB → Option R
 | .nrm, st => K { st with E := E0 }
 | .ret, st => K { st with E := E0 }
 | _, _ => none
noncomputable def Ep {R : Type} (X : Cx) (tb : List Ent) (tp : List bK) (cl : Clo) (cap : List AV) (v : AV) (fr : Fr) (st : StB) (K : StB → Option R) : Option R := match cl.fn.body with
 | some (.seq (.region _ ops false) y) => (match ops.toList with
  | ⟨some d, .call ⟨.builtin .recover, xs, _⟩, _, _, _, none⟩ :: l => ifS (xs.isEmpty && l.all CJ && cl.fn.results.isEmpty && Nat.ble cap.length cl.fn.ntmps && Nat.blt d cl.fn.ntmps) (
    sd X tb tp (fun _ _ => none) ops.toList ⟨[], fr.H, cl.fn.ntmps⟩ l [] { st with E := (d, none, v) :: qO 0 cap, h := .c (.r (List.range cap.length) .o) .o } (fun st1 => den X tb tp y ⟨[], fr.H, cl.fn.ntmps⟩ (OW st.E K) st1)) none
  | _ => none)
 | _ => none
section
variable {X : Cx} {tb : List Ent} {tp : List bK} {D : List Deferred} {R : Type} {r : R} {Φ : Ctx}
theorem Bg {cl : Clo} {cap : List AV} {v : AV} {fr : Fr} {st : StB} {K : StB → Option R} {ρ : Nms} {w : World} {u u' : FrameMode} {T : World → Prop} (hcl : cl.Ok X.P) (hΓ : ∀ it ∈ X.Γ, it ∈ Φ) (htb : ∀ e ∈ tb, e.Ok X.P X.Γ) (htp : ∀ e ∈ tp, e.Ok X.P X.Γ)
  (hs : Sat (items ρ [] st.G ++ (items ρ [] fr.H ++ Φ)) w) (hu : (u = .returning ∧ u' = .returning ∧ v.val ρ = .nilIface) ∨ (u = .panicking (pan (v.val ρ)) ∧ u' = .panicking [{ v := v.val ρ, recovered := true }]))
  (h : Ep X tb tp cl cap v fr st K = some r) (hK : ∀ (st' : StB) (ρ' : Nms) (w' : World), aE st.c ρ ρ' → st.c ≤ st'.c → K { st' with E := st.E } = some r → Sat (items ρ' [] st'.G ++ (items ρ' [] fr.H ++ Φ)) w' → T w') :
  xW X.P cl.f (AV.ah ρ cap) u w fun u2 w' => u2 = u' ∧ T w' := by
 unfold Ep at h
 split at h
 ·rename_i id ops y hb
  split at h
  ·rename_i d xs tys ty pos af l hops
   obtain ⟨h1, h2⟩ := aw h
   simp only [Bool.and_eq_true] at h1
   obtain ⟨⟨⟨⟨h3, h4⟩, h5⟩, h6⟩, h7⟩ := h1
   have hxs : xs = #[] := by simpa using h3
   subst hxs
   have hres : cl.fn.results = #[] := by simpa using h5
   refine AU (n := cl.fn.ntmps) hcl.2 hb hops h4 hres rfl (by rw [AV.aW]; exact h6) h7 hu ?_
   obtain ⟨opl⟩ := ops
   simp only at hops h2
   have := FM (σ := none) (D := []) (Q := Exit.then (y.wpIn (FW none) 0 X.P (QB T)) (QB T)) (ρ := ρ) (w := w) (r := r) (ops := opl) (fr := ⟨[], fr.H, cl.fn.ntmps⟩) (st := { st with E := (d, none, v) :: qO 0 cap, h := .c (.r (List.range cap.length) .o) .o }) hΓ htb htp (fun x h => by cases h) (fun x h => by cases h) ⟨fun x _ => rfl, fun x _ => rfl⟩ hs h2 (fun st1 ρ1 w1 a1 a2 a3 a4 => ?_) (fun v st1 ρ1 w1 a1 a2 a3 a4 => by cases a3)
   ·have e1 : aq ρ [] ((d, none, v) :: qO 0 cap) [] = (d, true, v.val ρ) :: iota 0 (AV.ah ρ cap) := by
     show an.env ρ [] ((d, none, v) :: qO 0 cap) ++ [] = _
     simp only [an.env, Tbl.get_none, zt, List.append_nil]
    have e2 : aq ρ [] ({ st with E := (d, none, v) :: qO 0 cap, h := .c (.r (List.range cap.length) .o) .o } : StB).E (⟨[], fr.H, cl.fn.ntmps⟩ : Fr).F = (d, true, v.val ρ) :: iota 0 (AV.ah ρ cap) := e1
    rw [e2] at this
    exact this
   ·refine rL (iJ (σ := none) (D := []) hΓ htb htp y (fr := ⟨[], fr.H, cl.fn.ntmps⟩) a4 a3 (fun e st2 ρ2 w2 b1 b2 b3 b4 => ?_))
    cases e with
    | nrm => exact OG (hK st2 ρ2 w2 (a1.trans b1 a2) (Nat.le_trans a2 b2) b3 b4)
    | ret => exact Oe (hK st2 ρ2 w2 (a1.trans b1 a2) (Nat.le_trans a2 b2) b3 b4)
    | ext i => cases b3
    | gto l => cases b3
    | pan v => cases b3
    | panE v => cases b3
  ·cases h
 ·cases h
end
def GS : List Oper → Option (List Oper × Operand)
 | [] => none
 | o :: l => (match l with
  | [] => (match o with
   | ⟨none, .defer ⟨.value fo, xs, _⟩, _, _, _, none⟩ => ifS xs.isEmpty (some ([], fo)) none
   | _ => none)
  | _ :: _ => (match GS l with
   | some p => some (o :: p.1, p.2)
   | none => none))
theorem Fs : {l l' : List Oper} → {fo : Operand} → GS l = some (l', fo) → ∃ tys ty pos af, l = l' ++ [⟨none, .defer ⟨.value fo, #[], tys⟩, ty, pos, af, none⟩]
 | [], _, _, h => by cases h
 | o :: l, l', fo, h => by
  unfold GS at h
  split at h
  ·split at h
   ·obtain ⟨h1, h2⟩ := aw h
    rename_i xs _ _ _ _
    have : xs = #[] := by simpa using h1
    subst this
    cases h2
    exact ⟨_, _, _, _, rfl⟩
   ·cases h
  ·split at h
   ·rename_i p hp
    cases h
    obtain ⟨tys, ty, pos, af, h2⟩ := Fs (fo := p.2) (l' := p.1) (by rw [hp])
    exact ⟨tys, ty, pos, af, by rw [h2]; rfl⟩
   ·cases h
def HE : Code → Option (List Oper × List Oper × Operand)
 | .region _ ops false => (match GS ops.toList with
  | some p => some (ops.toList, p.1, p.2)
  | none => none)
 | _ => none
def Lo : Code → Bool
 | .scope _ => true
 | .seq x y => (HE x).isSome || Lo y
 | _ => false
noncomputable def O8 {R : Type} (X : Cx) (tb : List Ent) (tp : List bK) (cl : Clo) (cap : List AV) (fr : Fr) (K : XE → StB → Option R) : XE → StB → Option R
 | .nrm, st => ifS (st.low fr) (Ep X tb tp cl cap (.raw .nilIface) fr st (K .ret)) none
 | .ret, st => ifS (st.low fr) (Ep X tb tp cl cap (.raw .nilIface) fr st (K .ret)) none
 | .panE v, st => ifS (st.low fr) (Ep X tb tp cl cap v fr st (K .ret)) none
 | _, _ => none
noncomputable def Hf {R : Type} (X : Cx) (tb : List Ent) (tp : List bK) (tc : List Clo) : Code → Fr → (XE → StB → Option R) → StB → Option R
 | .scope c, fr, K, st => KX X tb tp c fr K st
 | .seq x y, fr, K, st => (match HE x with
  | some p => sd X tb tp (fun v st => K (.panE v) st) p.1 fr p.2.1 [] (qA st) (fun st1 => match opA [] st1.E fr.F none p.2.2 with
   | some (.fn f [] cap) => (match CB tc f with
    | some cl => ifS (AV.bJ st1.c cap) (den X tb tp y fr (O8 X tb tp cl cap fr K) st1) none
    | none => none)
   | _ => none)
  | none => ifS (Lo y) (den X tb tp x fr (thn (Hf X tb tp tc y fr K) K) (qA st)) (den X tb tp (.seq x y) fr K st))
 | c, fr, K, st => den X tb tp c fr K st
section
variable {X : Cx} {tb : List Ent} {tp : List bK} {tc : List Clo} {R : Type} {r : R} {Φ : Ctx} {fn : Func} {S : Value → World → Prop} {Sp : List PanicEntry → World → Prop}
theorem L7 {c : Code} {p : List Oper × List Oper × Operand} (h : HE c = some p) : ∃ id ops, c = .region id ops false ∧ ops.toList = p.1 ∧ ∃ tys ty pos af, p.1 = p.2.1 ++ [⟨none, .defer ⟨.value p.2.2, #[], tys⟩, ty, pos, af, none⟩] := by
 unfold HE at h
 split at h
 ·rename_i id ops
  split at h
  ·rename_i q hq
   cases h
   exact ⟨id, ops, rfl, rfl, Fs hq⟩
  ·cases h
 ·cases h
theorem LS (hΓ : ∀ it ∈ X.Γ, it ∈ Φ) (htb : ∀ e ∈ tb, e.Ok X.P X.Γ) (htp : ∀ e ∈ tp, e.Ok X.P X.Γ) (htc : ∀ c ∈ tc, c.Ok X.P) : ∀ (c : Code) {fr : Fr} {K : XE → StB → Option R} {st : StB} {ρ : Nms} {w : World}, Sat (items ρ [] st.G ++ (items ρ [] fr.H ++ Φ)) w →
  Hf X tb tp tc c fr K st = some r → lz (BP X.P fn S Sp) [] fr Φ st.c ρ r K → WC X.P none c (BP X.P fn S Sp) fr.n [] (aq ρ [] st.E fr.F) w := fun c => by
 induction c with
 | scope c => intro fr K st ρ w hs h hK; exact MO hΓ htb htp hs h hK
 | seq x y ihx ihy =>
  intro fr K st ρ w hs h hK
  obtain ⟨p1, p2, p3⟩ := Fm (st := st)
  unfold Hf at h
  split at h
  ·rename_i p hp
   obtain ⟨id, ops, rfl, e1, tys, ty, pos, af, e2⟩ := L7 hp
   refine xn (Cg ?_)
   obtain ⟨opl⟩ := ops
   simp only at e1
   subst e1
   have hw := vW (σ := none) (D := []) (Q := Exit.then (y.wpIn (FW none) 0 X.P (BP X.P fn S Sp)) (BP X.P fn S Sp)) (ρ := ρ) (w := w) (st := qA st) (rest := [⟨none, .defer ⟨.value p.2.2, #[], tys⟩, ty, pos, af, none⟩]) hΓ htb htp (fun x h => by cases h) (fun x h => by cases h) ⟨fun x _ => rfl, fun x _ => rfl⟩ (by rw [p3]; exact hs) h (fun st1 ρ1 w1 a1 a2 a3 a4 => ?_) (fun v st1 ρ1 w1 a1 a2 a3 a4 => ?_)
   ·rw [p2, ← e2] at hw
    exact hw
   ·split at a3
    ·rename_i f cap hfo
     split at a3
     ·rename_i cl hcl
      obtain ⟨b1, b2⟩ := aw a3
      obtain ⟨c1, c2⟩ := Dk htc hcl
      have hfo' := dx (ρ := ρ1) hfo
      simp only [AV.val, AV.ah] at hfo'
      subst c2
      refine K3 hfo' (EE (rL ?_))
      rw [p1] at a1 a2
      refine iJ (σ := none) (D := [dfr cl.f (AV.ah ρ1 cap)]) hΓ htb htp y a4 b2 (fun e st2 ρ2 w2 d1 d2 d3 d4 => ?_)
      have hcap : AV.ah ρ2 cap = AV.ah ρ1 cap := AV.bH d1 _ b1
      have kk : st2.low fr = true → ∀ (st3 : StB) (ρ3 : Nms) (w3 : World), aE st2.c ρ2 ρ3 → st2.c ≤ st3.c → K .ret { st3 with E := st2.E } = some r → Sat (items ρ3 [] st3.G ++ (items ρ3 [] fr.H ++ Φ)) w3 → At (BP X.P fn S Sp) .ret fr.n [] (aq ρ2 [] st2.E fr.F) w3 := fun hl st3 ρ3 w3 f1 f2 f3 f4 => by
       have := hK .ret { st3 with E := st2.E } ρ3 w3 (a1.trans (d1.trans f1 d2) a2) (Nat.le_trans a2 (Nat.le_trans d2 f2)) f3 f4
       rw [← q8 hl f1]
       exact this
      rw [← hcap]
      cases e with
      | nrm =>
       obtain ⟨l1, l2⟩ := aw d3
       exact HO c1.1 (Bg (u := .returning) (T := fun w' => At (BP X.P fn S Sp) .ret fr.n [] (aq ρ2 [] st2.E fr.F) w') c1 hΓ htb htp d4 (.inl ⟨rfl, rfl, rfl⟩) l2 (kk l1)) (fun _ h => h)
      | ret =>
       obtain ⟨l1, l2⟩ := aw d3
       exact HO c1.1 (Bg (u := .returning) (T := fun w' => At (BP X.P fn S Sp) .ret fr.n [] (aq ρ2 [] st2.E fr.F) w') c1 hΓ htb htp d4 (.inl ⟨rfl, rfl, rfl⟩) l2 (kk l1)) (fun _ h => h)
      | ext i => cases d3
      | gto l => cases d3
      | pan v => cases d3
      | panE v =>
       obtain ⟨l1, l2⟩ := aw d3
       have hp := Bg (u := .panicking (pan (v.val ρ2))) (T := fun w' => At (BP X.P fn S Sp) .ret fr.n [] (aq ρ2 [] st2.E fr.F) w') c1 hΓ htb htp d4 (.inr ⟨rfl, rfl⟩) l2 (kk l1)
       exact L6 c1.1 hp (fun _ h => h)
     ·cases a3
    ·cases a3
   ·rw [p1] at a1 a2
    exact Cq (hK (.panE v) st1 ρ1 w1 a1 a2 a3 a4)
  ·rename_i hp
   rcases fD h with ⟨h1, h2⟩ | ⟨_, h2⟩
   ·refine xn ?_
    have := iJ (σ := none) (D := []) hΓ htb htp x (fr := fr) (st := qA st) (ρ := ρ) (w := w) (Q := Exit.then (y.wpIn (FW none) 0 X.P (BP X.P fn S Sp)) (BP X.P fn S Sp)) (by rw [p3]; exact hs) h2 (fun e st' ρ' w' a1 a2 a3 a4 => ?_)
    ·rw [p2] at this; exact this
    ·rw [p1] at a1 a2
     by_cases he : e = .nrm
     ·subst he
      exact rL (ihy a4 a3 (hK.less a1 a2))
     ·rw [uE he] at a3
      exact nr he (hK e st' ρ' w' a1 a2 a3 a4)
   ·exact iJ hΓ htb htp (.seq x y) hs h2 hK
 | _ => intro fr K st ρ w hs h hK; exact iJ hΓ htb htp _ hs h hK
end
end Go.Proofs.YtdhgpnejphlfpaaGreatDoor
namespace Go.Proofs.YtdhgpnejphlfpaaGreatDoor
open Go.Lib
def di : List (Bool × Row) → List Row
 | [] => []
 | x :: R => ifS x.1 (x.2 :: di R) (di R)
def iZ : List (Bool × Row) → List Row
 | [] => []
 | x :: R => ifS x.1 (iZ R) (x.2 :: iZ R)
def xf : List Row → List Nat
 | [] => []
 | r :: G => (match r with
  | .box j _ _ => j :: xf G
  | _ => xf G)
def idB : Nat → Nat → List (Option Nat)
 | 0, _ => []
 | n + 1, k => some k :: idB n (k + 1)
def DF : List (Nat × List AV) → List (List AV) → List (Nat × List AV)
 | x :: X, cs :: C => (x.1, cs) :: DF X C
 | _, _ => []
def wX (X : Cx) (fr : Fr) (st : StB) : ResultVar → Option AV
 | .tmp t => lU st.E fr.F t
 | .cell p t => (match lU st.E fr.F p with
  | some v => (match wZ [] st.G fr.H none v with
   | some cs => lS X.P t cs
   | none => none)
  | none => none)
def wY (vs : List AV) : AV := match vs with
 | [v] => v
 | vs => .tuple vs
def KJ (e : Ent) (fr : Fr) (st : StB) (v : AV) (fix0 : Nat → Option AV) (fix : Nat → FxA) : List Row := frz (mE st.G fr.H e.r v ++ Ak st.G fr.H fix0 fix e.os) st.G
def Nv (e : Ent) (fr : Fr) (n : Nat) (G : List Row) (v : AV) (fix0 : Nat → Option AV) (fix : Nat → FxA) : Option (Tup (hol e.r ++ gQ e.os)) := match mt G fr.H e.r v none none (idB n 0) with
 | some mr => (match mtV G fr.H fix0 fix e.os mr.B with
  | some mq => ifS (sf ((mr.S ++ mq.S).map fun x => cK G fr.H x.2) && ltT G.length ((mr.S ++ mq.S).map fun x => cK G fr.H x.2)) (tup _ (mr.D ++ mq.D)) none
  | none => none)
 | none => none
def Hm (X : Cx) (e : Ent) (fn : Func) (fr : Fr) (n : Nat) (fix0 : Nat → Option AV) (fix : Nat → FxA) (st : StB) : Option (Tup (hol e.r ++ gQ e.os)) := match pL (wX X fr st) fn.results.toList with
 | some rs => Nv e fr n (KJ e fr st (wY rs) fix0 fix) (wY rs) fix0 fix
 | none => none
abbrev OR {R : Type} (K : StB → Option R) : XE → StB → Option R
 | .nrm, st => K st
 | .ret, st => K st
 | _, _ => none
noncomputable def G6 {R : Type} (X : Cx) (tb : List Ent) (tp : List bK) (tc : List Clo) (h : HT) (fn : Func) (ps : List Pt) (KF : List AV → List Row → Nat → List (Nat × List AV) → XE → StB → Option R) (s : Tup (lX ps)) : Option R :=
 match dC id ps [] 0 (unt _ s) with
 | ⟨vs, R, n, _, XA⟩ => match jm (xf (di R)) n (di R) with
  | (G, Q, c) => match fn.body with
   | none => none
   | some body => ifS (Nat.ble vs.length fn.ntmps && AV.bJ n vs && bg n (R.map (·.2))) (
    Hf X tb tp tc body ⟨[], Q ++ iZ R, fn.ntmps⟩ (KF vs (Q ++ iZ R) n (DF XA (bxs G))) ⟨c, qO 0 vs, G, h⟩) none
noncomputable def N3 (X : Cx) (tb : List Ent) (tp : List bK) (tc : List Clo) (h : HT) (fn : Func) (e : Ent) (s : Tup (lX e.ps)) : Option (Tup (hol e.r ++ gQ e.os)) :=
 G6 X tb tp tc h fn e.ps (fun vs H n XX => OR (Hm X e fn ⟨[], H, fn.ntmps⟩ n (fun (i : Nat) => vs[i]?) (fxK e.ps vs XX))) s
def zf (e : bK) (fr : Fr) (v : AV) (st : StB) : Option (Tup (hol e.pp)) := match mt (frz (mE st.G fr.H e.pp v) st.G) fr.H e.pp v none none [] with
 | some mr => ifS (sf (mr.S.map fun x => cK (frz (mE st.G fr.H e.pp v) st.G) fr.H x.2) && ltT (frz (mE st.G fr.H e.pp v) st.G).length (mr.S.map fun x => cK (frz (mE st.G fr.H e.pp v) st.G) fr.H x.2)) (tup _ mr.D) none
 | none => none
abbrev inT {B : Type} : (nv : Bool) → (r : Pt) → (os : List (Bool × Nat × Pt)) → Option (Tup (hol r ++ gQ os)) → Option (Except B (OkT nv r os))
 | true, _, _, _ => none
 | false, _, _, o => o.map .ok
theorem Dg {B : Type} : {nv : Bool} → {r : Pt} → {os : List (Bool × Nat × Pt)} → {o : Option (Tup (hol r ++ gQ os))} → {z : Except B (OkT nv r os)} → inT nv r os o = some z → ∃ x q, o = some q ∧ z = .ok x ∧ isOk nv r os x q
 | true, _, _, _, _, h => by cases h
 | false, _, _, none, _, h => by cases h
 | false, _, _, some q, _, h => by cases h; exact ⟨q, q, rfl, rfl, rfl⟩
abbrev O4 {B : Type} (nv : Bool) (r : Pt) (os : List (Bool × Nat × Pt)) (K : StB → Option (Tup (hol r ++ gQ os))) (KP : AV → StB → Option B) : XE → StB → Option (Except B (OkT nv r os))
 | .nrm, st => inT nv r os (K st)
 | .ret, st => inT nv r os (K st)
 | .pan v, st => (KP v st).map .error
 | .panE v, st => (KP v st).map .error
 | _, _ => none
noncomputable def NK (X : Cx) (tb : List Ent) (tp : List bK) (tc : List Clo) (h : HT) (fn : Func) (e : bK) (s : Tup (lX e.ps)) : Option (Except (Tup (hol e.pp)) (OkT e.nv e.r e.os)) :=
 G6 X tb tp tc h fn e.ps (fun vs H n XX => O4 e.nv e.r e.os (Hm X e.oe fn ⟨[], H, fn.ntmps⟩ n (fun (i : Nat) => vs[i]?) (fxK e.ps vs XX)) (zf e ⟨[], H, fn.ntmps⟩)) s
theorem rv : {G H : List Row} → bxs (G ++ H) = bxs G ++ bxs H
 | [], _ => rfl
 | r :: G, H => by
  cases r <;> simp only [List.cons_append, bxs, rv]
theorem pV : {R S : List (Bool × Row)} → di (R ++ S) = di R ++ di S
 | [], _ => rfl
 | x :: R, S => by
  have e : ∀ Q, di (x :: Q) = ifS x.1 (x.2 :: di Q) (di Q) := fun _ => rfl
  rw [List.cons_append, e, e, pV]
  cases x.1 <;> rfl
theorem Bu {nm : Nat → Nat} : (t : Ty) → (x : t.T) → (n : Nat) → (o : List (Option TypeId)) → bxs (di (fm nm t x n o).R) = []
 | .i _, _, _, _ | .bo, _, _, _ | .s, _, _, _ | .un, _, _, _ | .n, _, _, _ | .mp _ _, _, _, _ => rfl
 | .p a b, x, n, o => by
  unfold fm
  have h1 := Bu (nm := nm) a x.1 n o
  generalize fm nm a x.1 n o = L at h1
  obtain ⟨u, p, n1, o1⟩ := L
  dsimp only
  have h2 := Bu (nm := nm) b x.2 n1 o1
  generalize fm nm b x.2 n1 o1 = L at h2
  obtain ⟨u2, p2, n2, o2⟩ := L
  show bxs (di (p ++ p2)) = []
  rw [pV, rv, show bxs (di p) = [] from h1, show bxs (di p2) = [] from h2]
  rfl
 | .l t, x, n, o => by
  unfold fm
  split <;> first | rfl | (rename_i e _; show bxs (di [(ow e, _)]) = []; unfold di; cases ow e <;> rfl)
 | .ex, x, n, o => by
  unfold fm
  split <;> first | rfl | (rename_i e _; show bxs (di [(ow e, _)]) = []; unfold di; cases ow e <;> rfl)
mutual
theorem FY {nm : Nat → Nat} : (p : Pt) → (fx : FxA) → (sm : Option AV) → (n : Nat) → (D : List Dyn) → (fill nm p fx sm n D).X.map (·.2) = bxs (di (fill nm p fx sm n D).R)
 | .int _, _, _, _, _ | .bool, _, _, _, _ | .str, _, _, _, _ | .sli _, _, _, _, _ | .slr _, _, _, _, _ | .ptr _ _, _, _, _, _ | .it, _, _, _, _ | .cst _, _, _, _, _ | .sfp, _, _, _, _ | .same, _, _, _, _ => rfl
 | .own t e m, fx, sm, n, D => by cases m <;> rfl
 | .mp k v m, fx, sm, n, D => by cases m <;> rfl
 | .bx t off m vs, fx, sm, n, D => by
  unfold fill
  have h := np (nm := nm) vs (vt fx) (n + 1) D
  generalize dC nm vs (vt fx) (n + 1) D = L at h
  obtain ⟨cs, R, k, DD, XX⟩ := L
  have h' : XX.map (·.2) = bxs (di R) := h
  cases m
  ·exact h'
  ·show cs :: XX.map (·.2) = cs :: bxs (di R)
   rw [h']
 | .agg l, fx, sm, n, D => by
  unfold fill
  have h := np (nm := nm) l [] n D
  generalize dC nm l [] n D = L at h
  obtain ⟨cs, R, k, DD, XX⟩ := L
  exact h
 | .tup l, fx, sm, n, D => by
  unfold fill
  have h := np (nm := nm) l [] n D
  generalize dC nm l [] n D = L at h
  obtain ⟨cs, R, k, DD, XX⟩ := L
  exact h
 | .fn f a b, fx, sm, n, D => by
  unfold fill
  have h := np (nm := nm) a [] n D
  generalize dC nm a [] n D = L at h
  obtain ⟨cs, R, k, DD, XX⟩ := L
  dsimp only
  have h2 := np (nm := nm) b [] k DD
  generalize dC nm b [] k DD = L at h2
  obtain ⟨cs2, R2, k2, DD2, XX2⟩ := L
  show (XX ++ XX2).map (·.2) = bxs (di (R ++ R2))
  rw [List.map_append, pV, rv, show XX.map (·.2) = bxs (di R) from h, show XX2.map (·.2) = bxs (di R2) from h2]
 | .ifc t p, fx, sm, n, D => by
  unfold fill
  have h := FY (nm := nm) p none none n D
  generalize fill nm p none none n D = L at h
  obtain ⟨v, R, k, DD, XX⟩ := L
  exact h
 | .dat t o, fx, sm, n, D => by
  unfold fill
  have h := Bu (nm := nm) t (fv t D) n o
  generalize fm nm t (fv t D) n o = L at h
  obtain ⟨cs, R, k, oo⟩ := L
  exact h.symm
theorem np {nm : Nat → Nat} : (l : List Pt) → (sms : List AV) → (n : Nat) → (D : List Dyn) → (dC nm l sms n D).X.map (·.2) = bxs (di (dC nm l sms n D).R)
 | [], _, _, _ => rfl
 | p :: l, sms, n, D => by
  unfold dC
  have h := FY (nm := nm) p none sms.head? n D
  generalize fill nm p none sms.head? n D = L at h
  obtain ⟨cs, R, k, DD, XX⟩ := L
  dsimp only
  have h2 := np (nm := nm) l sms.tail k DD
  generalize dC nm l sms.tail k DD = L at h2
  obtain ⟨cs2, R2, k2, DD2, XX2⟩ := L
  show (XX ++ XX2).map (·.2) = bxs (di (R ++ R2))
  rw [List.map_append, pV, rv, show XX.map (·.2) = bxs (di R) from h, show XX2.map (·.2) = bxs (di R2) from h2]
end
theorem EG {ρ ρ' : Nms} : {X : List (Nat × List AV)} → {C : List (List AV)} → C.map (AV.ah ρ') = X.map (fun x => AV.ah ρ x.2) → db ρ' (DF X C) = db ρ X
 | [], [], _ => rfl
 | [], _ :: _, h => by cases h
 | _ :: _, [], h => by cases h
 | x :: X, cs :: C, h => by
  simp only [List.map_cons, List.cons.injEq] at h
  show (x.1, AV.ah ρ' cs) :: db ρ' (DF X C) = (x.1, AV.ah ρ x.2) :: db ρ X
  rw [h.1, EG h.2]
section
variable {w : World} {ρ : Nms}
theorem Sat.NW {A B : Ctx} {x : Item} (h : Sat (A ++ B) w) (hx : x.own = [] ∧ ∀ M w, x.P M w) : Sat (A ++ x :: B) w := by
 refine h.tT (fun j k => (j < A.length ∧ k = j) ∨ (A.length < j ∧ k + 1 = j)) (fun j jt hj => ?_) (fun j k q hjk h1 h2 => by omega)
 by_cases e : j < A.length
 ·rw [List.getElem?_append_left e] at hj
  exact .inr ⟨j, jt, .inl ⟨e, rfl⟩, by rw [List.getElem?_append_left e]; exact hj, bk.refl⟩
 ·rw [List.getElem?_append_right (by omega)] at hj
  by_cases e2 : j = A.length
  ·subst e2
   simp at hj
   subst hj
   exact .inl hx
  ·refine .inr ⟨j - 1, jt, .inr ⟨by omega, by omega⟩, ?_, bk.refl⟩
   rw [List.getElem?_append_right (by omega)]
   have : j - A.length = (j - 1 - A.length) + 1 := by omega
   rw [this, List.getElem?_cons_succ] at hj
   exact hj
theorem Sat.Le {A B : Ctx} (h : Sat (A ++ B) w) : ∀ (L : List Item), (∀ it ∈ L, it.cS = true ∧ ∀ M w, it.P M w) → Sat (A ++ (L ++ B)) w
 | [], _ => h
 | x :: L, hL => (Sat.Le h L (fun it hit => hL it (List.mem_cons_of_mem _ hit))).NW ⟨x.hp (hL x (List.mem_cons_self ..)).1, (hL x (List.mem_cons_self ..)).2⟩
theorem Ce {Φ : Ctx} {T : Tbl} : ∀ {R : List (Bool × Row)} {A : Ctx}, Sat (A ++ (items ρ T (R.map (·.2)) ++ Φ)) w → Sat (A ++ (items ρ T (di R) ++ (items ρ T (iZ R) ++ Φ))) w
 | [], _, h => h
 | x :: R, A, h => by
  have h1 : Sat ((A ++ [x.2.item ρ T]) ++ (items ρ T (R.map (·.2)) ++ Φ)) w := by simpa [items] using h
  have h2 := Ce h1
  unfold di iZ
  cases x.1
  ·have h3 : Sat (A ++ x.2.item ρ T :: (items ρ T (di R) ++ (items ρ T (iZ R) ++ Φ))) w := by simpa using h2
   exact h3.move
  ·simpa [items] using h2
theorem xS {Φ : Ctx} {T : Tbl} : ∀ {R : List (Bool × Row)} {I : Its} {A : Ctx}, dX (RwI ρ T) R I → Sat (A ++ (items ρ T (iZ R) ++ Φ)) w → Sat (A ++ (fR I ++ Φ)) w
 | _, _, _, .nil, h => h
 | _, _, A, .cons (a := a) (b := b) (l := l) (m := m) h1 hr, h => by
  unfold iZ at h
  show Sat (A ++ (ifS b.1 jd b.2) :: (fR m ++ Φ)) w
  rw [← h1.1]
  cases ha : a.1
  ·rw [ha] at h
   have h2 : Sat (A ++ b.2 :: (items ρ T (iZ l) ++ Φ)) w := by
    have h3 : Sat (A ++ a.2.item ρ T :: (items ρ T (iZ l) ++ Φ)) w := h
    exact h3.le2 h1.2.2
   have h4 : Sat ((A ++ [b.2]) ++ (items ρ T (iZ l) ++ Φ)) w := by simpa using h2
   have := xS hr h4
   simpa using this
  ·rw [ha] at h
   have h3 : Sat (A ++ (items ρ T (iZ l) ++ Φ)) w := h
   exact (xS hr h3).NW ⟨rfl, fun _ _ => trivial⟩
theorem Dn {c : Nat} : {R : List (Bool × Row)} → bg c (R.map (·.2)) = true → bg c (di R) = true ∧ bg c (iZ R) = true
 | [], _ => ⟨rfl, rfl⟩
 | x :: R, h => by
  simp only [List.map_cons, bg, Bool.and_eq_true] at h
  obtain ⟨h1, h2⟩ := Dn h.2
  unfold di iZ
  cases x.1
  ·exact ⟨h1, by show bg c (x.2 :: iZ R) = true; simp only [bg, Bool.and_eq_true]; exact ⟨h.1, h2⟩⟩
  ·exact ⟨by show bg c (x.2 :: di R) = true; simp only [bg, Bool.and_eq_true]; exact ⟨h.1, h1⟩, h2⟩
theorem Ia {N : List Nm} : ∀ {M : List Nm} {k : Nat}, (∀ i a, M[i]? = some a → ρ (k + i) = a) → NB ρ (idB M.length k) M
 | [], _, _ => .nil
 | a :: M, k, h => .cons (by
   have := h 0 a rfl
   rw [Nat.add_zero] at this
   exact ⟨by rw [this], by rw [this], by rw [this]⟩) (Ia (N := N) fun i b hb => by
   have := h (i + 1) b (by simpa using hb)
   rw [← this]; congr 1; omega)
end
section
variable {X : Cx} {fr : Fr} {st : StB} {ρ : Nms} {Φ : Ctx} {w : World}
theorem Mt (hs : Sat (items ρ [] st.G ++ (items ρ [] fr.H ++ Φ)) w) {r : ResultVar} {v : AV} (h : wX X fr st r = some v) : m6 X.P (aq ρ [] st.E fr.F) w r (v.val ρ) := by
 cases r with
 | tmp t => exact m6.t (uB h)
 | cell p t =>
  unfold wX at h
  dsimp only at h
  split at h
  ·rename_i u hu
   split at h
   ·rename_i cs hcs
    obtain ⟨ad, e1, hc⟩ := BW hs hcs Tbl.get_none
    have hl := uB (ρ := ρ) hu
    rw [e1] at hl
    have h' : lS X.P t (cs.drop 0) = some v := by simpa using h
    obtain ⟨d, n, bytes, z, c1, c2, c3⟩ := o7 (ρ := ρ) h'
    cases hd : j6 d
    ·rw [hd] at c3
     simp only [Bool.false_eq_true, if_false] at c3
     exact m6.c1 hl c1 hd hc c3
    ·unfold lS at h
     rw [c1] at h
     rcases fD h with ⟨_, h2⟩ | ⟨h1, _⟩
     ·split at h2
      ·rename_i q hq
       obtain ⟨n, bytes, z⟩ := q
       obtain ⟨h3, h4⟩ := aw h2
       cases h4
       have hle : n ≤ cs.length := Nat.le_of_ble_eq_true h3
       simp only [AV.val]
       refine m6.cA hl c1 hd (fg hq) (vs := AV.ah ρ (cs.take n)) ?_ (by rw [AV.aW, List.length_take, Nat.min_eq_left hle])
       have := hc.sub (us := AV.ah ρ (cs.take n)) 0 (by rw [AV.jn, List.drop_zero, List.length_take, AV.aW, Nat.min_eq_left hle])
       simpa [Addr.add] using this
      ·cases h2
     ·rw [hd] at h1; cases h1
   ·cases h
  ·cases h
theorem Kx {rs : List AV} : (if h : (AV.ah ρ rs).length = 1 then (AV.ah ρ rs)[0] else .tuple (AV.ah ρ rs).toArray) = (wY rs).val ρ := by
 match rs with
 | [] => simp [wY, AV.ah, AV.val]
 | [v] => simp [wY, AV.ah]
 | u :: v :: l => simp [wY, AV.ah, AV.val]
theorem NP {fn : Func} {S : Value → World → Prop} {Sp : List PanicEntry → World → Prop} {rs : List AV} (hs : Sat (items ρ [] st.G ++ (items ρ [] fr.H ++ Φ)) w) (h : pL (wX X fr st) fn.results.toList = some rs) (hS : S ((wY rs).val ρ) w) :
  At (BP X.P fn S Sp) .ret fr.n [] (aq ρ [] st.E fr.F) w := by
 have hlen : ∀ {α β : Type} {f : α → Option β} {l : List α} {ys : List β}, pL f l = some ys → l.length = ys.length := fun {α β f l} => by
  induction l with
  | nil => intro ys h; cases h; rfl
  | cons x l ih =>
   intro ys h
   unfold pL at h
   split at h
   ·split at h
    ·rename_i zs hz; cases h; simp [ih hz]
    ·cases h
   ·cases h
 have hmap : ∀ {l : List ResultVar} {ys : List AV}, pL (wX X fr st) l = some ys → pL (fun r => (wX X fr st r).map (AV.val ρ)) l = some (AV.ah ρ ys) := fun {l} => by
  induction l with
  | nil => intro ys h; cases h; simp [pL, AV.ah]
  | cons x l ih =>
   intro ys h
   unfold pL at h ⊢
   split at h
   ·rename_i y hy
    split at h
    ·rename_i zs hz
     cases h
     rw [hy, ih hz]
     simp [AV.ah]
    ·cases h
   ·cases h
 refine OV (vs := AV.ah ρ rs) (by rw [AV.aW]; exact hlen h) (fun a hf => Ad (g := fun r => (wX X fr st r).map (AV.val ρ)) (fun r v hv => ?_) (hmap h)) Kx hS
 cases hr : wX X fr st r with
 | none => rw [hr] at hv; cases hv
 | some u =>
  rw [hr] at hv
  cases hv
  exact (Mt hs hr).run hf
end
theorem F3 {R : Type} {X : Cx} {tb : List Ent} {tp : List bK} {tc : List Clo} {h : HT} {fn : Func} {f : FuncId} {ps : List Pt} {KF : List AV → List Row → Nat → List (Nat × List AV) → XE → StB → Option R} {s : Tup (lX ps)} {r : R} {S : Value → World → Prop} {Sp : List PanicEntry → World → Prop}
  (hfn : X.P.funcs[f]? = some fn) (htb : ∀ e ∈ tb, e.Ok X.P X.Γ) (htp : ∀ e ∈ tp, e.Ok X.P X.Γ) (htc : ∀ c ∈ tc, c.Ok X.P) (hd : G6 X tb tp tc h fn ps KF s = some r) {vsV : List Value} {N : List Nm} {I : Its} {XX : Bxs} {Φ : Ctx} {w : World}
  (hS : qp ps vsV [] [] (unt _ s) I XX N) (hsat : Sat (cX I ++ Φ) w) (hΓ : ∀ it ∈ X.Γ, it ∈ Φ)
  (fin : ∀ (x : XE) (vs : List AV) (H : List Row) (XA : List (Nat × List AV)) (st : StB) (ρ : Nms) (w' : World), KF vs H N.length XA x st = some r → Sat (items ρ [] st.G ++ (items ρ [] H ++ Φ)) w' → NB ρ (idB N.length 0) N → AV.ah ρ vs = vsV → db ρ XA = XX →
   (∀ {A : Ctx} {w2 : World}, Sat (A ++ (items ρ [] H ++ Φ)) w2 → Sat (A ++ (fR I ++ Φ)) w2) → AtX (BP X.P fn S Sp) x ρ fn.ntmps [] (aq ρ [] st.E []) w') : jv X.P f vsV w S Sp := by
 -- names of the arguments
 have hnm : pd (fun (i : Nat) => (N[i]?).getD nm0) id 0 N := fun i a ha => by simp only [id, ha, Option.getD_some]; exact ⟨trivial, trivial, trivial, fun _ => trivial⟩
 have hN0 : ∀ (i : Nat) a, N[i]? = some a → (fun (i : Nat) => (N[i]?).getD nm0) (0 + i) = a := fun i a ha => by simp only [Nat.zero_add, ha, Option.getD_some]
 generalize (fun (i : Nat) => (N[i]?).getD nm0) = ρ at hnm hN0
 obtain ⟨f1, f2, f3, f4, f5⟩ := nt (T := []) (nm := id) ps vsV [] [] (unt _ s) I XX N (by simpa only [AV.ah] using hS) hnm (Nat.zero_le _) []
 have fb := np (nm := id) ps [] 0 (unt _ s)
 simp only [List.append_nil, List.length_nil] at f1 f2 f3 f4 f5
 unfold G6 at hd
 generalize dC id ps [] 0 (unt _ s) = L at f1 f2 f3 f4 f5 fb hd
 obtain ⟨vs, R, n, DD, XA⟩ := L
 simp only at f1 f2 f3 f4 f5 fb
 dsimp only at hd
 subst f2
 generalize hL : jm (xf (di R)) N.length (di R) = L at hd
 obtain ⟨G, Qr, c⟩ := L
 dsimp only at hd
 split at hd
 ·cases hd
 rename_i body hbody
 obtain ⟨h1, h2⟩ := aw hd
 simp only [Bool.and_eq_true] at h1
 obtain ⟨⟨h3, h4⟩, h5⟩ := h1
 obtain ⟨l1, l2⟩ := Dn h5
 obtain ⟨ρ1, lk⟩ := wB (ids := xf (di R)) (ρ := ρ) l1
 rw [hL] at lk
 have hc : N.length ≤ c := lk.le
 have hs1 : Sat (items ρ [] (R.map (·.2)) ++ Φ) w := Sat.leL (A := []) (B := cX I) (C := Φ) hsat f5.rw
 have hs2 := Ce (A := []) hs1
 have e1 : items ρ1 [] G = items ρ [] (di R) := lk.eq
 have hs3 : Sat (items ρ1 [] G ++ (items ρ1 [] (Qr ++ iZ R) ++ Φ)) w := by
  rw [e1, aU, aX lk.ag l2, List.append_assoc]
  exact Sat.Le (A := items ρ [] (di R)) (B := items ρ [] (iZ R) ++ Φ) hs2 (items ρ1 [] Qr) (fun it hit => by
   obtain ⟨q, hq, rfl⟩ := List.mem_map.1 hit
   exact lk.rp q hq)
 have hvs : AV.ah ρ1 vs = vsV := by rw [AV.bH lk.ag _ h4, f1]
 refine CT hfn hbody rfl (by rw [← hvs, AV.aW]; exact h3) ?_
 have hE : aq ρ1 [] (qO 0 vs) [] = iota 0 vsV := by
  show an.env ρ1 [] (qO 0 vs) ++ [] = _
  rw [zt, hvs, List.append_nil]
 rw [← hE]
 refine LS (fr := ⟨[], Qr ++ iZ R, fn.ntmps⟩) (st := ⟨c, qO 0 vs, G, h⟩) hΓ htb htp htc body hs3 h2 (fun x st' ρ' w' a1 a2 a3 a4 => ?_)
 have hag : aE N.length ρ ρ' := lk.ag.trans (a1.less hc) (Nat.le_refl _)
 refine fin x vs (Qr ++ iZ R) (DF XA (bxs G)) st' ρ' w' a3 a4 (Ia (N := N) (fun i a ha => by
   have hi : i < N.length := (List.getElem?_eq_some_iff.1 ha).1
   rw [hag _ (by omega)]; exact hN0 i a ha)) (by rw [AV.bH hag _ h4, f1]) ?_ (fun {A w2} hw => ?_)
 ·rw [f4]
  refine EG ?_
  have g1 : (bxs G).map (AV.ah ρ') = (bxs G).map (AV.ah ρ1) := xq a1 lk.lw
  have g2 : (bxs G).map (AV.ah ρ1) = (bxs (di R)).map (AV.ah ρ) := lk.bx
  rw [g1, g2, ← fb, List.map_map]; rfl
 ·rw [aU, List.append_assoc] at hw
  have p4 := hw.yg
  have hfr : items ρ' [] (iZ R) = items ρ [] (iZ R) := aX hag l2
  rw [hfr] at p4
  exact xS f5 p4
theorem yC {X : Cx} {e : Ent} {fn : Func} {S : Value → World → Prop} {Sp : List PanicEntry → World → Prop} {q : Tup (hol e.r ++ gQ e.os)} {vsV : List Value} {N : List Nm} {I : Its} {XX : Bxs} {Φ : Ctx} {vs : List AV} {H : List Row} {XA : List (Nat × List AV)} {st : StB} {ρ : Nms} {w' : World}
  (hk : Hm X e fn ⟨[], H, fn.ntmps⟩ N.length (fun (i : Nat) => vs[i]?) (fxK e.ps vs XA) st = some q) (a4 : Sat (items ρ [] st.G ++ (items ρ [] H ++ Φ)) w') (hNB : NB ρ (idB N.length 0) N) (hvs' : AV.ah ρ vs = vsV) (hX : db ρ XA = XX)
  (hback : ∀ {A : Ctx} {w2 : World}, Sat (A ++ (items ρ [] H ++ Φ)) w2 → Sat (A ++ (fR I ++ Φ)) w2)
  (hSS : ∀ v w', (∃ (N1 N2 : List Nm) (D1 D2 : List Dyn) (I1 I2 : Its) (X1 X2 : Bxs), Sem e.r v none none N D1 I1 X1 N1 ∧ ui (fxS e.ps vsV XX) (fun (i : Nat) => vsV[i]?) e.os N1 D2 I2 X2 N2 ∧ D1 ++ D2 = unt _ q ∧ Sat ((cX I1 ++ cX I2) ++ (fR I ++ Φ)) w') → S v w') :
  At (BP X.P fn S Sp) .ret fn.ntmps [] (aq ρ [] st.E []) w' := by
 unfold Hm at hk
 split at hk
 ·rename_i rs hrs
  refine NP (fr := ⟨[], H, fn.ntmps⟩) a4 hrs (hSS _ _ ?_)
  generalize wY rs = v at hk
  have b4 := jL (ids := mE st.G H e.r v ++ Ak st.G H (fun (i : Nat) => vs[i]?) (fxK e.ps vs XA) e.os) a4
  change Sat (items ρ [] (KJ e ⟨[], H, fn.ntmps⟩ st v (fun (i : Nat) => vs[i]?) (fxK e.ps vs XA)) ++ _) w' at b4
  generalize KJ e ⟨[], H, fn.ntmps⟩ st v (fun (i : Nat) => vs[i]?) (fxK e.ps vs XA) = G' at hk b4
  unfold Nv at hk
  split at hk
  ·rename_i mr hmr
   split at hk
   ·rename_i mq hmq
    obtain ⟨k1, k2⟩ := aw hk
    simp only [Bool.and_eq_true] at k1
    obtain ⟨N1, I1, s1, n1, q1⟩ := wG b4 e.r v none none _ mr N hmr hNB (fun q hq => by cases hq)
    obtain ⟨N2, I2, s2, n2, q2⟩ := zS b4 e.os mr.B mq N1 hmq n1
    have hfx : (fun i => jV ρ (fxK e.ps vs XA i)) = fxS e.ps vsV XX := by
     funext i
     rw [← FF, hvs', hX]
    have hval : (fun (i : Nat) => (vs[i]?).map (AV.val ρ)) = fun (i : Nat) => vsV[i]? := by
     funext i
     rw [← hvs', Bt]
    rw [hfx, hval] at s2
    obtain ⟨p1, _⟩ := vw b4 (q1.append q2)
    obtain ⟨p2, _⟩ := nT b4 p1 (nS k1.1)
    rw [py k1.2] at p2
    have p3 := p2.yg
    have p5 := hback p3
    refine ⟨N1, N2, mr.D, mq.D, I1, I2, _, _, s1, s2, (pR _ k2).symm, ?_⟩
    simpa [cX] using p5
   ·cases hk
  ·cases hk
 ·cases hk
theorem NF {X : Cx} {tb : List Ent} {tp : List bK} {tc : List Clo} {h : HT} {fn : Func} {e : Ent} (hen : ia X.P e.f) (hfn : X.P.funcs[e.f]? = some fn) (htb : ∀ e ∈ tb, e.Ok X.P X.Γ) (htp : ∀ e ∈ tp, e.Ok X.P X.Γ) (htc : ∀ c ∈ tc, c.Ok X.P) (hm : ∀ s r, e.m s = some r → N3 X tb tp tc h fn e s = some r) : e.Ok X.P X.Γ := by
 refine ⟨hen, fun s r hr vsV N I XX Φ w hS hsat hΓ => ?_⟩
 refine F3 hfn htb htp htc (hm s r hr) hS hsat hΓ (fun x vs H XA st ρ w' hk a4 hNB hvs hX hback => ?_)
 cases x with
 | nrm => exact yC hk a4 hNB hvs hX hback (fun _ _ h => h)
 | ret => exact yC hk a4 hNB hvs hX hback (fun _ _ h => h)
 | ext i => cases hk
 | gto l => cases hk
 | pan v => cases hk
 | panE v => cases hk
theorem No {X : Cx} {tb : List Ent} {tp : List bK} {tc : List Clo} {h : HT} {fn : Func} {e : bK} (hen : ia X.P e.f) (hfn : X.P.funcs[e.f]? = some fn) (htb : ∀ e ∈ tb, e.Ok X.P X.Γ) (htp : ∀ e ∈ tp, e.Ok X.P X.Γ) (htc : ∀ c ∈ tc, c.Ok X.P) (hm : ∀ s r, e.m s = some r → NK X tb tp tc h fn e s = some r) : e.Ok X.P X.Γ := by
 refine ⟨hen, fun s r hr vsV N I XX Φ w hS hsat hΓ => ?_⟩
 refine F3 hfn htb htp htc (hm s r hr) hS hsat hΓ (fun x vs H XA st ρ w' hk a4 hNB hvs hX hback => ?_)
 cases x with
 | nrm =>
  obtain ⟨x, q, hq, rfl, hi⟩ := Dg hk
  exact yC hq a4 hNB hvs hX hback (fun _ _ h => ⟨x, q, rfl, hi, h⟩)
 | ret =>
  obtain ⟨x, q, hq, rfl, hi⟩ := Dg hk
  exact yC hq a4 hNB hvs hX hback (fun _ _ h => ⟨x, q, rfl, hi, h⟩)
 | ext i => cases hk
 | gto l => cases hk
 | pan v =>
  have hk' : (zf e ⟨[], H, fn.ntmps⟩ v st).map Except.error = some r := hk
  cases hp : zf e ⟨[], H, fn.ntmps⟩ v st with
  | none => rw [hp] at hk'; cases hk'
  | some p =>
   rw [hp] at hk'
   cases hk'
   unfold zf at hp
   have b4 := jL (ids := mE st.G H e.pp v) a4
   generalize frz (mE st.G H e.pp v) st.G = G' at hp b4
   split at hp
   ·rename_i mr hmr
    obtain ⟨k1, k2⟩ := aw hp
    simp only [Bool.and_eq_true] at k1
    obtain ⟨N1, I1, s1, n1, q1⟩ := wG b4 e.pp v none none _ mr [] hmr .nil (fun q hq => by cases hq)
    obtain ⟨p1, _⟩ := vw b4 q1
    obtain ⟨p2, _⟩ := nT b4 p1 (nS k1.1)
    rw [py k1.2] at p2
    have p5 := hback p2.yg
    rw [← pR _ k2] at s1
    exact LJ ⟨p, rfl, v.val ρ, N1, I1, _, rfl, s1, by simpa [cX] using p5⟩
   ·cases hp
 | panE v =>
  have hk' : (zf e ⟨[], H, fn.ntmps⟩ v st).map Except.error = some r := hk
  cases hp : zf e ⟨[], H, fn.ntmps⟩ v st with
  | none => rw [hp] at hk'; cases hk'
  | some p =>
   rw [hp] at hk'
   cases hk'
   unfold zf at hp
   have b4 := jL (ids := mE st.G H e.pp v) a4
   generalize frz (mE st.G H e.pp v) st.G = G' at hp b4
   split at hp
   ·rename_i mr hmr
    obtain ⟨k1, k2⟩ := aw hp
    simp only [Bool.and_eq_true] at k1
    obtain ⟨N1, I1, s1, n1, q1⟩ := wG b4 e.pp v none none _ mr [] hmr .nil (fun q hq => by cases hq)
    obtain ⟨p1, _⟩ := vw b4 q1
    obtain ⟨p2, _⟩ := nT b4 p1 (nS k1.1)
    rw [py k1.2] at p2
    have p5 := hback p2.yg
    rw [← pR _ k2] at s1
    exact (LJ ⟨p, rfl, v.val ρ, N1, I1, _, rfl, s1, by simpa [cX] using p5⟩ : AtP _ _ [] _).at
   ·cases hp
theorem jg {X : Cx} {A B : Type} {E : (A → Option B) → Ent} {F : (A → Option B) → A → Option B} (h0 : (E fun _ => none).Ok X.P X.Γ) (step : ∀ k, (E k).Ok X.P X.Γ → (E (F k)).Ok X.P X.Γ) : ∀ n, (E (aj F n)).Ok X.P X.Γ
 | 0 => h0
 | n + 1 => step _ (jg h0 step n)
theorem az {X : Cx} {tb : List Ent} {tp : List bK} {tc : List Clo} {fn : Func} {e : Ent} (h : HT) (hen : ia X.P e.f) (hfn : X.P.funcs[e.f]? = some fn) (htb : ∀ e ∈ tb, e.Ok X.P X.Γ) (htp : ∀ e ∈ tp, e.Ok X.P X.Γ) (htc : ∀ c ∈ tc, c.Ok X.P) (eq : ∀ s, N3 X tb tp tc h fn e s = e.m s) : e.Ok X.P X.Γ :=
 NF hen hfn htb htp htc fun s _ hr => (eq s).trans hr
theorem ug {X : Cx} {tb : List Ent} {tp : List bK} {tc : List Clo} {fn : Func} {e : bK} (h : HT) (hen : ia X.P e.f) (hfn : X.P.funcs[e.f]? = some fn) (htb : ∀ e ∈ tb, e.Ok X.P X.Γ) (htp : ∀ e ∈ tp, e.Ok X.P X.Γ) (htc : ∀ c ∈ tc, c.Ok X.P) (eq : ∀ s, NK X tb tp tc h fn e s = e.m s) : e.Ok X.P X.Γ :=
 No hen hfn htb htp htc fun s _ hr => (eq s).trans hr
theorem ok0 {E : Type} {p : E → Prop} : ∀ e ∈ ([] : List E), p e := fun _ h => by cases h
theorem ok1 {E : Type} {p : E → Prop} {x : E} {l : List E} (hx : p x) (hl : ∀ e ∈ l, p e) : ∀ e ∈ x :: l, p e := fun e he => by
 rcases List.mem_cons.1 he with rfl | he
 ·exact hx
 ·exact hl e he
end Go.Proofs.YtdhgpnejphlfpaaGreatDoor
namespace Go.Proofs.YtdhgpnejphlfpaaGreatDoor
def i64B (x : Int) : Bool := decide (-9223372036854775808 ≤ x) && decide (x ≤ 9223372036854775807)
end Go.Proofs.YtdhgpnejphlfpaaGreatDoor
namespace Go.Proofs.YtdhgpnejphlfpaaGreatDoor
abbrev Q1 := (List (Int × Str × Int × Int))
abbrev Q2 := (List (Int × Ex × (List (Int × Ex))))
abbrev Q3 := (Ex × Int × Int × Int × Int)
abbrev Q4 := (Q1 × Int × (List Str) × Int × Int × Int)
abbrev Q5 := ((List Str) × (List (Int × Int)) × (List Int) × (List Str) × Q2)
abbrev Q6 := (List Str)
abbrev Q7 := (List (Int × Int))
abbrev Q8 := (Ex × Int × Int × Int)
abbrev Q9 := (Int × Int × Int)
abbrev Q10 := (Int × Str × Int × Int)
abbrev Q11 := (List Int)
abbrev Q12 := (List (Int × Ex))
abbrev Q13 := (Int × Int × Q1 × Int × Q6 × Int × Int)
abbrev Q14 := (Int × Int)
abbrev Q15 := (Int × Q2 × Int × Int)
abbrev Q16 := (Int × Int × Int × Int × Int × Int × Int × (List Ex))
abbrev Q17 := (Q1 × Int × Int)
abbrev Q18 := (Int × Int × Int × Int)
abbrev Q19 := (Int × Int × Int × Q12 × Bool)
abbrev Q20 := (Q5 × Int × Int)
abbrev Q21 := (Int × Ex)
abbrev Q22 := (Int × Q6 × Q7 × Q11 × Q6 × Q2 × Int × Int)
abbrev Q23 := (Int × Ex × Q12)
abbrev Q24 := (Except Q14 (Int × Q2))
abbrev Q25 := (Except Q14 (Ex × Int))
abbrev Q26 := (Except Q14 (Q21 × Int))
abbrev Q27 := (Int × Q6 × Q7 × Q11 × Q6 × Q2)
abbrev Q28 := (Bool × Bool × Bool × Int)
abbrev Q29 := (Int × Bool)
noncomputable section
def vN : List Str := [[116, 114, 117, 101], [102, 97, 108, 115, 101], [88], [70], [71], [85], [82], [118, 97, 114], [112, 114, 111, 99]]
def mZ : List Str := [[], [], [], [43], [45], [42], [45], [61, 61], [33, 61], [60], [60, 61], [62], [62, 61], [116, 114, 117, 101], [102, 97, 108, 115, 101], [33], [38], [124], [45, 62], [60, 45, 62], [88], [70], [71], [85], [82]]
def yA (x0 : Int) (x1 : Int) (y0 : Int) (y1 : Int) : Bool := x0 == y0 && x1 == y1
def xL (c : Int) : Option Bool :=
ab (c == 32) fun b3 =>
ab (c == 9) fun b5 =>
ab (b3 || b5) fun b7 =>
ab (c == 10) fun b9 =>
ab (b7 || b9) fun b11 =>
ab (c == 13) fun b13 =>
ab (b11 || b13) fun b15 =>
some b15
def qu (c : Int) : Option Bool :=
some (c != 10)
def GW (text : Str) (again5 : Int → Option Str) (t4 : Int) : Option Str :=
bif (decide (t4 < (List.length text : Int))) then (
chk (inB t4 (List.length text)) <|
(qu (dJ text t4)).bind fun r8 =>
bif (!r8) then (
chk (j8 0 t4 (List.length text)) <|
some (cut text 0 t4))
else (
again5 (IntKind.i64.wrap (t4 + 1))))
else (
some text)
def Bk (text : Str) : Option Str :=
aj (GW text) al 0
def ra (c : Int) : Option Bool :=
ab (decide (97 ≤ c)) fun b3 =>
ab (decide (c ≤ 122)) fun b5 =>
ab (b3 && b5) fun b7 =>
ab (decide (65 ≤ c)) fun b9 =>
ab (decide (c ≤ 90)) fun b11 =>
ab (b9 && b11) fun b13 =>
ab (b7 || b13) fun b15 =>
ab (c == 95) fun b17 =>
ab (b15 || b17) fun b19 =>
some b19
def qe (c : Int) : Option Bool :=
ab (decide (48 ≤ c)) fun b3 =>
ab (decide (c ≤ 57)) fun b5 =>
ab (b3 && b5) fun b7 =>
some b7
def q6 (c : Int) : Option Bool :=
(ra c).bind fun r3 =>
ax (!r3) default (qe c) fun r6 =>
ab (r3 || r6) fun b12 =>
some b12
def Ct (text : Str) (again5 : Int → Option Str) (t4 : Int) : Option Str :=
bif (decide (t4 < (List.length text : Int))) then (
chk (inB t4 (List.length text)) <|
(q6 (dJ text t4)).bind fun r8 =>
bif (!r8) then (
chk (j8 0 t4 (List.length text)) <|
some (cut text 0 t4))
else (
again5 (IntKind.i64.wrap (t4 + 1))))
else (
some text)
def wI (text : Str) : Option Str :=
aj (Ct text) al 0
def Cp (text : Str) (again5 : Int → Option Str) (t4 : Int) : Option Str :=
bif (decide (t4 < (List.length text : Int))) then (
chk (inB t4 (List.length text)) <|
(qe (dJ text t4)).bind fun r8 =>
bif (!r8) then (
chk (j8 0 t4 (List.length text)) <|
some (cut text 0 t4))
else (
again5 (IntKind.i64.wrap (t4 + 1))))
else (
some text)
def wm (text : Str) : Option Str :=
aj (Cp text) al 0
def o8 (s : Str) (again9 : (Int × Nat) → Option Q29) : Int × Nat → Option Q29 := fun ⟨n7, p8⟩ =>
bif decide (p8 < List.length s) then (
bif (decide (1073741824 < (IntKind.i64.wrap ((IntKind.i64.wrap (10 * n7)) + (IntKind.i64.wrap (IntKind.i32.wrap ((mT s p8) - 48))))))) then (
some (0, false))
else (
again9 ((IntKind.i64.wrap ((IntKind.i64.wrap (10 * n7)) + (IntKind.i64.wrap (IntKind.i32.wrap ((mT s p8) - 48))))), (jk s p8))))
else (
some (n7, true))
def xi (s : Str) : Option Q29 :=
aj (o8 s) al (0, 0)
def yd : Option Q6 :=
some ([[60, 45, 62], [45, 62], [61, 61], [33, 61], [60, 61], [62, 61], [60], [62], [61], [43], [45], [42], [40], [41], [123], [125], [59], [44], [58], [38], [124], [33]] : List Str)
def cL (s : Str) (prefix_ : Str) : Option Bool :=
ab (decide ((List.length prefix_ : Int) ≤ (List.length s : Int))) fun b3 =>
ox b3 (j8 0 (List.length prefix_ : Int) (List.length s)) <|
ab ((cut s 0 (List.length prefix_ : Int)) == prefix_) fun b6 =>
ab (b3 && b6) fun b8 =>
some b8
def mH (s : Str) (prefix_ : Str) : Option Bool :=
(cL s prefix_).bind fun r3 =>
some r3
def yY (text : Str) (r3 : Q6) (again10 : Int → Option Str) (t9 : Int) : Option Str :=
bif (decide (t9 < (List.length r3 : Int))) then (
(idx r3 t9).bind fun e12 =>
(mH text e12).bind fun r14 =>
bif r14 then (
some e12)
else (
again10 (IntKind.i64.wrap (t9 + 1))))
else (
some [])
def vI (text : Str) : Option Str :=
(yd).bind fun r3 =>
aj (yY text r3) al 0
def tU (text : Str) : Option (Q10 × Int) :=
chk (inB 0 (List.length text)) <|
(ra (dJ text 0)).bind fun r7 =>
bif r7 then (
(wI text).bind fun r11 =>
bif (decide (32 < (List.length r11 : Int))) then (
some ((0, [], 0, 0), 9))
else (
some ((1, r11, 0, 0), 0)))
else (
(qe (dJ text 0)).bind fun r17 =>
bif r17 then (
(wm text).bind fun r21 =>
(xi r21).bind fun r24 =>
bif (!r24.2) then (
some ((0, [], 0, 0), 9))
else (
some ((2, r21, r24.1, 0), 0)))
else (
(vI text).bind fun r30 =>
bif (r30 == []) then (
some ((0, [], 0, 0), 2))
else (
some ((3, r30, 0, 0), 0))))
def nd (text : Str) (again13 : (Q1 × Int) → Option Q17) : Q1 × Int → Option Q17 := fun ⟨out9, at12⟩ =>
ab (decide (at12 < (List.length text : Int))) fun b14 =>
ox b14 (inB at12 (List.length text)) <|
ax b14 default (xL (dJ text at12)) fun r17 =>
ab (b14 && r17) fun b23 =>
bif b23 then (
again13 (out9, (IntKind.i64.wrap (at12 + 1))))
else (
ab (decide (at12 < (List.length text : Int))) fun b26 =>
ox b26 (inB at12 (List.length text)) <|
ab ((dJ text at12) == 35) fun b29 =>
ab (b26 && b29) fun b31 =>
bif b31 then (
chk (j8 at12 ((List.length text) : Int) (List.length text)) <|
(Bk (cut text at12 ((List.length text) : Int))).bind fun r35 =>
again13 (out9, (IntKind.i64.wrap (at12 + (List.length r35 : Int)))))
else (
bif (decide (at12 < (List.length text : Int))) then (
chk (j8 at12 ((List.length text) : Int) (List.length text)) <|
(tU (cut text at12 ((List.length text) : Int))).bind fun r40 =>
bif (r40.2 != 0) then (
some ([], r40.2, at12))
else (
chk (bu (List.length out9 + List.length ([(r40.1.1, r40.1.2.1, r40.1.2.2.1, at12)] : List Q10)) 40) <|
again13 ((out9 ++ ([(r40.1.1, r40.1.2.1, r40.1.2.2.1, at12)] : List Q10)), (IntKind.i64.wrap (at12 + (List.length r40.1.2.1 : Int))))))
else (
chk (bu (List.length out9 + List.length ([(4, [], 0, at12)] : List Q10)) 40) <|
some ((out9 ++ ([(4, [], 0, at12)] : List Q10)), 0, 0))))
def qZ (text : Str) : Option Q17 :=
bif (decide (65536 < (List.length text : Int))) then (
some ([], 9, 0))
else (
aj (nd text) al ([], 0))
def cD (l : Q1) (at_ : Int) (_Names : Q6) (_Schema : Q7) (_Init : Q11) (_Procs : Q6) (_Cmd : Q2) : Option Q10 :=
(idx l at_).bind fun e7 =>
some e7
def dY (kind : Int) (text : Str) (l : Q1) (at_ : Int) (Names : Q6) (Schema : Q7) (Init : Q11) (Procs : Q6) (Cmd : Q2) : Option Bool :=
(cD l at_ Names Schema Init Procs Cmd).bind fun r3 =>
ab (r3.1 == kind) fun b6 =>
ax b6 default (cD l at_ Names Schema Init Procs Cmd) fun r8 =>
ab (r8.2.1 == text) fun b14 =>
ab (b6 && b14) fun b16 =>
some b16
def aY (e : Int) (l : Q1) (at_ : Int) (Names : Q6) (Schema : Q7) (Init : Q11) (Procs : Q6) (Cmd : Q2) : Option (Except Q14 Empty) :=
(cD l at_ Names Schema Init Procs Cmd).bind fun r2 =>
some (.error (e, r2.2.2.2))
def cR (s : Q6) (v3 : Str) (again5 : Int → Option Int) (t4 : Int) : Option Int :=
bif (decide (t4 < (List.length s : Int))) then (
(idx s t4).bind fun e7 =>
bif (v3 == e7) then (
some t4)
else (
again5 (IntKind.i64.wrap (t4 + 1))))
else (
some (-1))
def hY (s : Q6) (v3 : Str) : Option Int :=
aj (cR s v3) al 0
def dR (s : Q6) (v3 : Str) : Option Bool :=
(hY s v3).bind fun r3 =>
some (decide (0 ≤ r3))
def nn (name : Str) : Option Bool :=
(dR vN name).bind fun r3 =>
some r3
def cE (s : Q6) (v3 : Str) (again5 : Int → Option Int) (t4 : Int) : Option Int :=
bif (decide (t4 < (List.length s : Int))) then (
(idx s t4).bind fun e7 =>
bif (v3 == e7) then (
some t4)
else (
again5 (IntKind.i64.wrap (t4 + 1))))
else (
some (-1))
def aS (s : Q6) (v3 : Str) : Option Int :=
aj (cE s v3) al 0
def cF (s : Q6) (v3 : Str) : Option Bool :=
(aS s v3).bind fun r3 =>
some (decide (0 ≤ r3))
def kC (name : Str) (_l : Q1) (_at_ : Int) (Names : Q6) (_Schema : Q7) (_Init : Q11) (Procs : Q6) (_Cmd : Q2) : Option Bool :=
(cF Names name).bind fun r3 =>
ax (!r3) default (cF Procs name) fun r6 =>
ab (r3 || r6) fun b12 =>
some b12
def qc (at_ : Int) (r4 : Q10) : Option (Except Q14 (Str × Int)) :=
some (.ok (r4.2.1, (IntKind.i64.wrap (at_ + 1))))
def fy (full : Bool) (l : Q1) (at_ : Int) (Names : Q6) (Schema : Q7) (Init : Q11) (Procs : Q6) (Cmd : Q2) : Option (Except Q14 (Str × Int)) :=
(cD l at_ Names Schema Init Procs Cmd).bind fun r4 =>
ab (fun (_s13 : Unit) => qc at_ r4) fun kk12 =>
bif (r4.1 != 1) then (
cr (aY 2 l at_ Names Schema Init Procs Cmd) fun r15 =>
r15.elim)
else (
(nn r4.2.1).bind fun r21 =>
ax (!r21) default (kC r4.2.1 l at_ Names Schema Init Procs Cmd) fun r24 =>
ab (r21 || r24) fun b30 =>
bif b30 then (
cr (aY 3 l at_ Names Schema Init Procs Cmd) fun r33 =>
r33.elim)
else (
bif full then (
cr (aY 9 l at_ Names Schema Init Procs Cmd) fun r40 =>
r40.elim)
else (
kk12 ())))
def oU (r4 : Bool) (c8 : Int) (r9 : Q10) : Option (Except Q14 Q14) :=
bif r4 then (
some (.ok ((IntKind.i64.wrap (0 - r9.2.2.1)), (IntKind.i64.wrap (c8 + 1)))))
else (
some (.ok (r9.2.2.1, (IntKind.i64.wrap (c8 + 1)))))
def kL (l : Q1) (Names : Q6) (Schema : Q7) (Init : Q11) (Procs : Q6) (Cmd : Q2) (r4 : Bool) (c8 : Int) : Option (Except Q14 Q14) :=
(cD l c8 Names Schema Init Procs Cmd).bind fun r9 =>
ab (fun (_s19 : Unit) => oU r4 c8 r9) fun kk18 =>
bif (r9.1 != 2) then (
cr (aY 2 l c8 Names Schema Init Procs Cmd) fun r21 =>
r21.elim)
else (
kk18 ())
def cY (l : Q1) (at_ : Int) (Names : Q6) (Schema : Q7) (Init : Q11) (Procs : Q6) (Cmd : Q2) : Option (Except Q14 Q14) :=
(dY 3 [45] l at_ Names Schema Init Procs Cmd).bind fun r4 =>
ab (fun (s28 : Int) => kL l Names Schema Init Procs Cmd r4 s28) fun kk27 =>
bif r4 then (
kk27 (IntKind.i64.wrap (at_ + 1)))
else (
kk27 at_)
def ql (at_ : Int) : Option (Except Q14 Int) :=
some (.ok (IntKind.i64.wrap (at_ + 1)))
def bm (text : Str) (l : Q1) (at_ : Int) (Names : Q6) (Schema : Q7) (Init : Q11) (Procs : Q6) (Cmd : Q2) : Option (Except Q14 Int) :=
ab (fun (_s6 : Unit) => ql at_) fun kk5 =>
(dY 3 text l at_ Names Schema Init Procs Cmd).bind fun r7 =>
bif (!r7) then (
cr (aY 2 l at_ Names Schema Init Procs Cmd) fun r11 =>
r11.elim)
else (
kk5 ())
def lA (f : Q14) : Option Bool :=
ab (decide (f.1 < (-1073741824))) fun b5 =>
ab (decide (1073741824 < f.2)) fun b7 =>
ab (b5 || b7) fun b9 =>
ab (!b9) fun b11 =>
ab (decide (f.1 ≤ f.2)) fun b13 =>
ab (b11 && b13) fun b15 =>
ab (decide ((IntKind.i64.wrap (f.2 - f.1)) < 65536)) fun b17 =>
ab (b15 && b17) fun b19 =>
some b19
def gz (s : Q7) (again12 : ((List Bool) × Int) → Option (List Bool)) : (List Bool) × Int → Option (List Bool) := fun ⟨l10, t11⟩ =>
bif (decide (t11 < (List.length s : Int))) then (
(idx s t11).bind fun e14 =>
(lA e14).bind fun r19 =>
(idx l10 t11).bind fun _e22 =>
again12 ((List.set l10 (Int.toNat t11) r19), (IntKind.i64.wrap (t11 + 1))))
else (
some l10)
def lr (s : Q7) : Option (List Bool) :=
chk (decide (0 ≤ (List.length s : Int))) <|
chk (bu (Int.toNat (List.length s : Int)) 1) <|
aj (gz s) al ((List.replicate (Int.toNat (List.length s : Int)) false), 0)
def fk (s : (List Bool)) (v3 : Bool) (again5 : Int → Option Int) (t4 : Int) : Option Int :=
bif (decide (t4 < (List.length s : Int))) then (
(idx s t4).bind fun e7 =>
bif (v3 == e7) then (
some t4)
else (
again5 (IntKind.i64.wrap (t4 + 1))))
else (
some (-1))
def jy (s : (List Bool)) (v3 : Bool) : Option Int :=
aj (fk s v3) al 0
def iy (s : (List Bool)) (v3 : Bool) : Option Bool :=
(jy s v3).bind fun r3 =>
some (decide (0 ≤ r3))
def lC (s : Q7) : Option Bool :=
ab (decide (1 ≤ (List.length s : Int))) fun b3 =>
ab (decide ((List.length s : Int) ≤ 17)) fun b5 =>
ab (b3 && b5) fun b7 =>
ax b7 default (lr s) fun r9 =>
ax b7 default (iy r9 false) fun r18 =>
ab (!r18) fun b24 =>
ab (b7 && b24) fun b26 =>
some b26
def oM (f : Q14) (n : Int) : Option Bool :=
ab (decide (f.1 ≤ n)) fun b5 =>
ab (decide (n ≤ f.2)) fun b7 =>
ab (b5 && b7) fun b9 =>
some b9
def oL (s : Q7) (v3 : Q11) (again6 : Int → Option Int) (t5 : Int) : Option Int :=
bif (decide (t5 < (List.length v3 : Int))) then (
(idx v3 t5).bind fun e8 =>
(idx s t5).bind fun e10 =>
(oM e10 e8).bind fun r12 =>
bif (!r12) then (
some 5)
else (
again6 (IntKind.i64.wrap (t5 + 1))))
else (
some 0)
def oQ (s : Q7) (v3 : Q11) : Option Int :=
bif ((List.length v3 : Int) != (List.length s : Int)) then (
some 1)
else (
aj (oL s v3) al 0)
def gv (Names : Q6) (Schema : Q7) (Init : Q11) (r13 : (Str × Int)) (r22 : Q14) (r28 : Q14) (r34 : Q14) (r42 : Int) : Option (Except Q14 (Int × Q6 × Q7 × Q11)) :=
chk (bu (List.length Names + List.length ([r13.1] : List Str)) 16) <|
(idx ([(r22.1, r28.1)] : List Q14) 0).bind fun e58 =>
chk (bu (List.length Schema + List.length ([e58] : List Q14)) 16) <|
chk (bu (List.length Init + List.length ([r34.1] : List Int)) 8) <|
some (.ok (r42, (Names ++ ([r13.1] : List Str)), (Schema ++ ([e58] : List Q14)), (Init ++ ([r34.1] : List Int))))
def fW (l : Q1) (at_ : Int) (Names : Q6) (Schema : Q7) (Init : Q11) (Procs : Q6) (Cmd : Q2) : Option (Except Q14 (Int × Q6 × Q7 × Q11)) :=
cr (fy (decide (16 ≤ (List.length Names : Int))) l at_ Names Schema Init Procs Cmd) fun r13 =>
(cD l r13.2 Names Schema Init Procs Cmd).bind fun r19 =>
cr (cY l r13.2 Names Schema Init Procs Cmd) fun r22 =>
cr (cY l r22.2 Names Schema Init Procs Cmd) fun r28 =>
cr (cY l r28.2 Names Schema Init Procs Cmd) fun r34 =>
cr (bm [59] l r34.2 Names Schema Init Procs Cmd) fun r42 =>
ab (fun (_s75 : Unit) => gv Names Schema Init r13 r22 r28 r34 r42) fun kk74 =>
(lC ([(r22.1, r28.1)] : List Q14)).bind fun r76 =>
ab (!r76) fun b79 =>
ax (!b79) default (oQ ([(r22.1, r28.1)] : List Q14) ([r34.1] : List Int)) fun r83 =>
ab (r83 != 0) fun b89 =>
ab (b79 || b89) fun b91 =>
bif b91 then (
some (.error (5, r19.2.2.2)))
else (
kk74 ())
def aD (e : Int) (l : Q1) (at_ : Int) (_names : Q6) (_deep : Int) (bad : Int) (place : Int) : Option (Ex × Int × Int) :=
bif (bad == 0) then (
(idx l at_).bind fun e12 =>
some ((Ex.mk 0 0 0 []), e, e12.2.2.2))
else (
some ((Ex.mk 0 0 0 []), bad, place))
def au (l : Q1) (at_ : Int) (_names : Q6) (_deep : Int) (_bad : Int) (_place : Int) : Option Q10 :=
(idx l at_).bind fun e7 =>
some e7
def gM (ops : Q11) (r4 : Q10) (again29 : Int → Option Q29) (t28 : Int) : Option Q29 :=
bif (decide (t28 < (List.length ops : Int))) then (
(idx ops t28).bind fun e31 =>
(idx mZ e31).bind fun e35 =>
bif (e35 == r4.2.1) then (
some (e31, true))
else (
again29 (IntKind.i64.wrap (t28 + 1))))
else (
some (0, false))
def ay (ops : Q11) (l : Q1) (at_ : Int) (names : Q6) (deep : Int) (bad : Int) (place : Int) : Option Q29 :=
(au l at_ names deep bad place).bind fun r4 =>
ab (r4.1 != 3) fun b10 =>
ab (r4.1 == 1) fun b12 =>
ax (b10 && b12) default (nn r4.2.1) fun r14 =>
ab (b12 && r14) fun b20 =>
ab (!b20) fun b22 =>
ab (b10 && b22) fun b24 =>
bif b24 then (
some (0, false))
else (
aj (gM ops r4) al 0)
def eS (aa : Q4 → Option Q3) (l : Q1) (at_ : Int) (names : Q6) (deep : Int) (bad : Int) (place : Int) : Option Q3 :=
bif (bad != 0) then (
some ((Ex.mk 0 0 0 []), at_, deep, bad, place))
else (
(au l at_ names deep bad place).bind fun r13 =>
(ay ([13, 14] : List Int) l at_ names deep bad place).bind fun r21 =>
bif r21.2 then (
some ((Ex.mk r21.1 0 r13.2.2.2 []), (IntKind.i64.wrap (at_ + 1)), deep, bad, place))
else (
bif (r13.1 == 2) then (
some ((Ex.mk 1 r13.2.2.1 r13.2.2.2 []), (IntKind.i64.wrap (at_ + 1)), deep, bad, place))
else (
ab (r13.1 == 1) fun b30 =>
ax b30 default (nn r13.2.1) fun r32 =>
ab (!r32) fun b38 =>
ab (b30 && b38) fun b40 =>
bif b40 then (
(aS names r13.2.1).bind fun r45 =>
bif (decide (r45 < 0)) then (
(aD 3 l at_ names deep bad place).bind fun r49 =>
some (r49.1, at_, deep, r49.2.1, r49.2.2))
else (
some ((Ex.mk 2 r45 r13.2.2.2 []), (IntKind.i64.wrap (at_ + 1)), deep, bad, place)))
else (
ab (r13.1 == 3) fun b57 =>
ab (r13.2.1 == [40]) fun b59 =>
ab (b57 && b59) fun b61 =>
bif b61 then (
(aa (l, (IntKind.i64.wrap (at_ + 1)), names, deep, bad, place)).bind fun r65 =>
ab (r65.2.2.2.1 == 0) fun b73 =>
ax b73 default (au l r65.2.1 names r65.2.2.1 r65.2.2.2.1 r65.2.2.2.2) fun r75 =>
ab (r75.1 != 3) fun b81 =>
ax (b73 && !b81) default (au l r65.2.1 names r65.2.2.1 r65.2.2.2.1 r65.2.2.2.2) fun r83 =>
ab (r83.2.1 != [41]) fun b89 =>
ab (b81 || b89) fun b91 =>
ab (b73 && b91) fun b93 =>
bif b93 then (
(aD 2 l r65.2.1 names r65.2.2.1 r65.2.2.2.1 r65.2.2.2.2).bind fun r96 =>
some (r96.1, r65.2.1, r65.2.2.1, r96.2.1, r96.2.2))
else (
bif (r65.2.2.2.1 == 0) then (
some (r65.1, (IntKind.i64.wrap (r65.2.1 + 1)), r65.2.2.1, r65.2.2.2.1, r65.2.2.2.2))
else (
some (r65.1, r65.2.1, r65.2.2.1, r65.2.2.2.1, r65.2.2.2.2))))
else (
(aD 2 l at_ names deep bad place).bind fun r106 =>
some (r106.1, at_, deep, r106.2.1, r106.2.2))))))
def ln (aa : Q4 → Option Q3) (bn : Q4 → Option Q3) (ops : Q11) (l : Q1) (at_ : Int) (names : Q6) (deep : Int) (bad : Int) (place : Int) : Option Q3 :=
(ay ops l at_ names deep bad place).bind fun r11 =>
bif (!r11.2) then (
(eS aa l at_ names deep bad place).bind fun r15 =>
some (r15.1, r15.2.1, r15.2.2.1, r15.2.2.2.1, r15.2.2.2.2))
else (
(au l at_ names deep bad place).bind fun r21 =>
(bn (l, (IntKind.i64.wrap (at_ + 1)), names, deep, bad, place)).bind fun r30 =>
some ((Ex.mk r11.1 0 r21.2.2.2 ([r30.1] : List Ex)), r30.2.1, r30.2.2.1, r30.2.2.2.1, r30.2.2.2.2))
def eW (aa : Q4 → Option Q3) (bn : Q4 → Option Q3) (l : Q1) (at_ : Int) (names : Q6) (deep : Int) (bad : Int) (place : Int) : Option Q3 :=
(ln aa bn ([6] : List Int) l at_ names deep bad place).bind fun r13 =>
some (r13.1, r13.2.1, r13.2.2.1, r13.2.2.2.1, r13.2.2.2.2)
def kb (aa : Q4 → Option Q3) (bn : Q4 → Option Q3) (l : Q1) (at_ : Int) (names : Q6) (deep : Int) (bad : Int) (place : Int) : Option Q3 :=
bif (decide (320 ≤ deep)) then (
(aD 9 l at_ names deep bad place).bind fun r12 =>
some (r12.1, at_, deep, r12.2.1, r12.2.2))
else (
(eW aa bn l at_ names (IntKind.i64.wrap (deep + 1)) bad place).bind fun r19 =>
some (r19.1, r19.2.1, (IntKind.i64.wrap (r19.2.2.1 - 1)), r19.2.2.2.1, r19.2.2.2.2))
def lu (aa : Q4 → Option Q3) (l : Q1) (at_ : Int) (names : Q6) (deep : Int) (bad : Int) (place : Int) : Option Q3 :=
 aj (fun k (s : Q4) => kb aa k s.1 s.2.1 s.2.2.1 s.2.2.2.1 s.2.2.2.2.1 s.2.2.2.2.2) al (l, at_, names, deep, bad, place)
def bT (aa : Q4 → Option Q3) (l : Q1) (at_ : Int) (names : Q6) (deep : Int) (bad : Int) (place : Int) : Option Q3 :=
(lu aa l at_ names deep bad place).bind fun r11 =>
some (r11.1, r11.2.1, r11.2.2.1, r11.2.2.2.1, r11.2.2.2.2)
def u4 (aa : Q4 → Option Q3) (ops : Q11) (l : Q1) (names : Q6) (again30 : Q16 → Option Q3) : Int × Int × Int × Int × Int × Int × Int × (List Ex) → Option Q3 := fun ⟨c20, c21, c22, c23, c24, c25, c26, c27⟩ =>
bif (c22 == 0) then (
(ay ops l c20 names c21 c22 c23).bind fun r32 =>
bif (!r32.2) then (
some ((Ex.mk c24 c25 c26 c27), c20, c21, c22, c23))
else (
(au l c20 names c21 c22 c23).bind fun r37 =>
(bT aa l (IntKind.i64.wrap (c20 + 1)) names c21 c22 c23).bind fun r44 =>
again30 (r44.2.1, r44.2.2.1, r44.2.2.2.1, r44.2.2.2.2, r32.1, 0, r37.2.2.2, ([(Ex.mk c24 c25 c26 c27), r44.1] : List Ex))))
else (
some ((Ex.mk c24 c25 c26 c27), c20, c21, c22, c23))
def lM (aa : Q4 → Option Q3) (ops : Q11) (l : Q1) (at_ : Int) (names : Q6) (deep : Int) (bad : Int) (place : Int) : Option Q3 :=
(bT aa l at_ names deep bad place).bind fun r11 =>
aj (u4 aa ops l names) al (r11.2.1, r11.2.2.1, r11.2.2.2.1, r11.2.2.2.2, r11.1.op, r11.1.n, r11.1.at_, r11.1.l)
def cg (aa : Q4 → Option Q3) (l : Q1) (at_ : Int) (names : Q6) (deep : Int) (bad : Int) (place : Int) : Option Q3 :=
(lM aa ([5] : List Int) l at_ names deep bad place).bind fun r13 =>
some (r13.1, r13.2.1, r13.2.2.1, r13.2.2.2.1, r13.2.2.2.2)
def vk (aa : Q4 → Option Q3) (ops : Q11) (l : Q1) (names : Q6) (again30 : Q16 → Option Q3) : Int × Int × Int × Int × Int × Int × Int × (List Ex) → Option Q3 := fun ⟨c20, c21, c22, c23, c24, c25, c26, c27⟩ =>
bif (c22 == 0) then (
(ay ops l c20 names c21 c22 c23).bind fun r32 =>
bif (!r32.2) then (
some ((Ex.mk c24 c25 c26 c27), c20, c21, c22, c23))
else (
(au l c20 names c21 c22 c23).bind fun r37 =>
(cg aa l (IntKind.i64.wrap (c20 + 1)) names c21 c22 c23).bind fun r44 =>
again30 (r44.2.1, r44.2.2.1, r44.2.2.2.1, r44.2.2.2.2, r32.1, 0, r37.2.2.2, ([(Ex.mk c24 c25 c26 c27), r44.1] : List Ex))))
else (
some ((Ex.mk c24 c25 c26 c27), c20, c21, c22, c23))
def lR (aa : Q4 → Option Q3) (ops : Q11) (l : Q1) (at_ : Int) (names : Q6) (deep : Int) (bad : Int) (place : Int) : Option Q3 :=
(cg aa l at_ names deep bad place).bind fun r11 =>
aj (vk aa ops l names) al (r11.2.1, r11.2.2.1, r11.2.2.2.1, r11.2.2.2.2, r11.1.op, r11.1.n, r11.1.at_, r11.1.l)
def b0 (aa : Q4 → Option Q3) (l : Q1) (at_ : Int) (names : Q6) (deep : Int) (bad : Int) (place : Int) : Option Q3 :=
(lR aa ([3, 4] : List Int) l at_ names deep bad place).bind fun r13 =>
some (r13.1, r13.2.1, r13.2.2.1, r13.2.2.2.1, r13.2.2.2.2)
def eZ (aa : Q4 → Option Q3) (l : Q1) (at_ : Int) (names : Q6) (deep : Int) (bad : Int) (place : Int) : Option Q3 :=
(b0 aa l at_ names deep bad place).bind fun r11 =>
(ay ([7, 8, 9, 10, 11, 12] : List Int) l r11.2.1 names r11.2.2.1 r11.2.2.2.1 r11.2.2.2.2).bind fun r21 =>
ab (r11.2.2.2.1 != 0) fun b24 =>
ab (!r21.2) fun b26 =>
ab (b24 || b26) fun b28 =>
bif b28 then (
some (r11.1, r11.2.1, r11.2.2.1, r11.2.2.2.1, r11.2.2.2.2))
else (
(au l r11.2.1 names r11.2.2.1 r11.2.2.2.1 r11.2.2.2.2).bind fun r32 =>
(b0 aa l (IntKind.i64.wrap (r11.2.1 + 1)) names r11.2.2.1 r11.2.2.2.1 r11.2.2.2.2).bind fun r39 =>
some ((Ex.mk r21.1 0 r32.2.2.2 ([r11.1, r39.1] : List Ex)), r39.2.1, r39.2.2.1, r39.2.2.2.1, r39.2.2.2.2))
def ll (aa : Q4 → Option Q3) (br : Q4 → Option Q3) (ops : Q11) (l : Q1) (at_ : Int) (names : Q6) (deep : Int) (bad : Int) (place : Int) : Option Q3 :=
(ay ops l at_ names deep bad place).bind fun r11 =>
bif (!r11.2) then (
(eZ aa l at_ names deep bad place).bind fun r15 =>
some (r15.1, r15.2.1, r15.2.2.1, r15.2.2.2.1, r15.2.2.2.2))
else (
(au l at_ names deep bad place).bind fun r21 =>
(br (l, (IntKind.i64.wrap (at_ + 1)), names, deep, bad, place)).bind fun r30 =>
some ((Ex.mk r11.1 0 r21.2.2.2 ([r30.1] : List Ex)), r30.2.1, r30.2.2.1, r30.2.2.2.1, r30.2.2.2.2))
def eX (aa : Q4 → Option Q3) (br : Q4 → Option Q3) (l : Q1) (at_ : Int) (names : Q6) (deep : Int) (bad : Int) (place : Int) : Option Q3 :=
(ll aa br ([15, 20, 21, 22] : List Int) l at_ names deep bad place).bind fun r13 =>
some (r13.1, r13.2.1, r13.2.2.1, r13.2.2.2.1, r13.2.2.2.2)
def kg (aa : Q4 → Option Q3) (br : Q4 → Option Q3) (l : Q1) (at_ : Int) (names : Q6) (deep : Int) (bad : Int) (place : Int) : Option Q3 :=
bif (decide (320 ≤ deep)) then (
(aD 9 l at_ names deep bad place).bind fun r12 =>
some (r12.1, at_, deep, r12.2.1, r12.2.2))
else (
(eX aa br l at_ names (IntKind.i64.wrap (deep + 1)) bad place).bind fun r19 =>
some (r19.1, r19.2.1, (IntKind.i64.wrap (r19.2.2.1 - 1)), r19.2.2.2.1, r19.2.2.2.2))
def lj (aa : Q4 → Option Q3) (l : Q1) (at_ : Int) (names : Q6) (deep : Int) (bad : Int) (place : Int) : Option Q3 :=
 aj (fun k (s : Q4) => kg aa k s.1 s.2.1 s.2.2.1 s.2.2.2.1 s.2.2.2.2.1 s.2.2.2.2.2) al (l, at_, names, deep, bad, place)
def dz (aa : Q4 → Option Q3) (l : Q1) (at_ : Int) (names : Q6) (deep : Int) (bad : Int) (place : Int) : Option Q3 :=
(lj aa l at_ names deep bad place).bind fun r11 =>
some (r11.1, r11.2.1, r11.2.2.1, r11.2.2.2.1, r11.2.2.2.2)
def lT (aa : Q4 → Option Q3) (bp : Q4 → Option Q3) (ops : Q11) (l : Q1) (at_ : Int) (names : Q6) (deep : Int) (bad : Int) (place : Int) : Option Q3 :=
(dz aa l at_ names deep bad place).bind fun r11 =>
(ay ops l r11.2.1 names r11.2.2.1 r11.2.2.2.1 r11.2.2.2.2).bind fun r19 =>
ab (r11.2.2.2.1 != 0) fun b22 =>
ab (!r19.2) fun b24 =>
ab (b22 || b24) fun b26 =>
bif b26 then (
some (r11.1, r11.2.1, r11.2.2.1, r11.2.2.2.1, r11.2.2.2.2))
else (
(au l r11.2.1 names r11.2.2.1 r11.2.2.2.1 r11.2.2.2.2).bind fun r30 =>
(bp (l, (IntKind.i64.wrap (r11.2.1 + 1)), names, r11.2.2.1, r11.2.2.2.1, r11.2.2.2.2)).bind fun r37 =>
some ((Ex.mk r19.1 0 r30.2.2.2 ([r11.1, r37.1] : List Ex)), r37.2.1, r37.2.2.1, r37.2.2.2.1, r37.2.2.2.2))
def dV (aa : Q4 → Option Q3) (bp : Q4 → Option Q3) (l : Q1) (at_ : Int) (names : Q6) (deep : Int) (bad : Int) (place : Int) : Option Q3 :=
(lT aa bp ([23, 24] : List Int) l at_ names deep bad place).bind fun r13 =>
some (r13.1, r13.2.1, r13.2.2.1, r13.2.2.2.1, r13.2.2.2.2)
def jX (aa : Q4 → Option Q3) (bp : Q4 → Option Q3) (l : Q1) (at_ : Int) (names : Q6) (deep : Int) (bad : Int) (place : Int) : Option Q3 :=
bif (decide (320 ≤ deep)) then (
(aD 9 l at_ names deep bad place).bind fun r12 =>
some (r12.1, at_, deep, r12.2.1, r12.2.2))
else (
(dV aa bp l at_ names (IntKind.i64.wrap (deep + 1)) bad place).bind fun r19 =>
some (r19.1, r19.2.1, (IntKind.i64.wrap (r19.2.2.1 - 1)), r19.2.2.2.1, r19.2.2.2.2))
def lq (aa : Q4 → Option Q3) (l : Q1) (at_ : Int) (names : Q6) (deep : Int) (bad : Int) (place : Int) : Option Q3 :=
 aj (fun k (s : Q4) => jX aa k s.1 s.2.1 s.2.2.1 s.2.2.2.1 s.2.2.2.2.1 s.2.2.2.2.2) al (l, at_, names, deep, bad, place)
def bw (aa : Q4 → Option Q3) (l : Q1) (at_ : Int) (names : Q6) (deep : Int) (bad : Int) (place : Int) : Option Q3 :=
(lq aa l at_ names deep bad place).bind fun r11 =>
some (r11.1, r11.2.1, r11.2.2.1, r11.2.2.2.1, r11.2.2.2.2)
def uZ (aa : Q4 → Option Q3) (ops : Q11) (l : Q1) (names : Q6) (again30 : Q16 → Option Q3) : Int × Int × Int × Int × Int × Int × Int × (List Ex) → Option Q3 := fun ⟨c20, c21, c22, c23, c24, c25, c26, c27⟩ =>
bif (c22 == 0) then (
(ay ops l c20 names c21 c22 c23).bind fun r32 =>
bif (!r32.2) then (
some ((Ex.mk c24 c25 c26 c27), c20, c21, c22, c23))
else (
(au l c20 names c21 c22 c23).bind fun r37 =>
(bw aa l (IntKind.i64.wrap (c20 + 1)) names c21 c22 c23).bind fun r44 =>
again30 (r44.2.1, r44.2.2.1, r44.2.2.2.1, r44.2.2.2.2, r32.1, 0, r37.2.2.2, ([(Ex.mk c24 c25 c26 c27), r44.1] : List Ex))))
else (
some ((Ex.mk c24 c25 c26 c27), c20, c21, c22, c23))
def lZ (aa : Q4 → Option Q3) (ops : Q11) (l : Q1) (at_ : Int) (names : Q6) (deep : Int) (bad : Int) (place : Int) : Option Q3 :=
(bw aa l at_ names deep bad place).bind fun r11 =>
aj (uZ aa ops l names) al (r11.2.1, r11.2.2.1, r11.2.2.2.1, r11.2.2.2.2, r11.1.op, r11.1.n, r11.1.at_, r11.1.l)
def cH (aa : Q4 → Option Q3) (l : Q1) (at_ : Int) (names : Q6) (deep : Int) (bad : Int) (place : Int) : Option Q3 :=
(lZ aa ([16] : List Int) l at_ names deep bad place).bind fun r13 =>
some (r13.1, r13.2.1, r13.2.2.1, r13.2.2.2.1, r13.2.2.2.2)
def vo (aa : Q4 → Option Q3) (ops : Q11) (l : Q1) (names : Q6) (again30 : Q16 → Option Q3) : Int × Int × Int × Int × Int × Int × Int × (List Ex) → Option Q3 := fun ⟨c20, c21, c22, c23, c24, c25, c26, c27⟩ =>
bif (c22 == 0) then (
(ay ops l c20 names c21 c22 c23).bind fun r32 =>
bif (!r32.2) then (
some ((Ex.mk c24 c25 c26 c27), c20, c21, c22, c23))
else (
(au l c20 names c21 c22 c23).bind fun r37 =>
(cH aa l (IntKind.i64.wrap (c20 + 1)) names c21 c22 c23).bind fun r44 =>
again30 (r44.2.1, r44.2.2.1, r44.2.2.2.1, r44.2.2.2.2, r32.1, 0, r37.2.2.2, ([(Ex.mk c24 c25 c26 c27), r44.1] : List Ex))))
else (
some ((Ex.mk c24 c25 c26 c27), c20, c21, c22, c23))
def mF (aa : Q4 → Option Q3) (ops : Q11) (l : Q1) (at_ : Int) (names : Q6) (deep : Int) (bad : Int) (place : Int) : Option Q3 :=
(cH aa l at_ names deep bad place).bind fun r11 =>
aj (vo aa ops l names) al (r11.2.1, r11.2.2.1, r11.2.2.2.1, r11.2.2.2.2, r11.1.op, r11.1.n, r11.1.at_, r11.1.l)
def eD (aa : Q4 → Option Q3) (l : Q1) (at_ : Int) (names : Q6) (deep : Int) (bad : Int) (place : Int) : Option Q3 :=
(mF aa ([17] : List Int) l at_ names deep bad place).bind fun r13 =>
some (r13.1, r13.2.1, r13.2.2.1, r13.2.2.2.1, r13.2.2.2.2)
def lO (aa : Q4 → Option Q3) (bq : Q4 → Option Q3) (ops : Q11) (l : Q1) (at_ : Int) (names : Q6) (deep : Int) (bad : Int) (place : Int) : Option Q3 :=
(eD aa l at_ names deep bad place).bind fun r11 =>
(ay ops l r11.2.1 names r11.2.2.1 r11.2.2.2.1 r11.2.2.2.2).bind fun r19 =>
ab (r11.2.2.2.1 != 0) fun b22 =>
ab (!r19.2) fun b24 =>
ab (b22 || b24) fun b26 =>
bif b26 then (
some (r11.1, r11.2.1, r11.2.2.1, r11.2.2.2.1, r11.2.2.2.2))
else (
(au l r11.2.1 names r11.2.2.1 r11.2.2.2.1 r11.2.2.2.2).bind fun r30 =>
(bq (l, (IntKind.i64.wrap (r11.2.1 + 1)), names, r11.2.2.1, r11.2.2.2.1, r11.2.2.2.2)).bind fun r37 =>
some ((Ex.mk r19.1 0 r30.2.2.2 ([r11.1, r37.1] : List Ex)), r37.2.1, r37.2.2.1, r37.2.2.2.1, r37.2.2.2.2))
def eU (aa : Q4 → Option Q3) (bq : Q4 → Option Q3) (l : Q1) (at_ : Int) (names : Q6) (deep : Int) (bad : Int) (place : Int) : Option Q3 :=
(lO aa bq ([18] : List Int) l at_ names deep bad place).bind fun r13 =>
some (r13.1, r13.2.1, r13.2.2.1, r13.2.2.2.1, r13.2.2.2.2)
def j2 (aa : Q4 → Option Q3) (bq : Q4 → Option Q3) (l : Q1) (at_ : Int) (names : Q6) (deep : Int) (bad : Int) (place : Int) : Option Q3 :=
bif (decide (320 ≤ deep)) then (
(aD 9 l at_ names deep bad place).bind fun r12 =>
some (r12.1, at_, deep, r12.2.1, r12.2.2))
else (
(eU aa bq l at_ names (IntKind.i64.wrap (deep + 1)) bad place).bind fun r19 =>
some (r19.1, r19.2.1, (IntKind.i64.wrap (r19.2.2.1 - 1)), r19.2.2.2.1, r19.2.2.2.2))
def lg (aa : Q4 → Option Q3) (l : Q1) (at_ : Int) (names : Q6) (deep : Int) (bad : Int) (place : Int) : Option Q3 :=
 aj (fun k (s : Q4) => j2 aa k s.1 s.2.1 s.2.2.1 s.2.2.2.1 s.2.2.2.2.1 s.2.2.2.2.2) al (l, at_, names, deep, bad, place)
def dv (aa : Q4 → Option Q3) (l : Q1) (at_ : Int) (names : Q6) (deep : Int) (bad : Int) (place : Int) : Option Q3 :=
(lg aa l at_ names deep bad place).bind fun r11 =>
some (r11.1, r11.2.1, r11.2.2.1, r11.2.2.2.1, r11.2.2.2.2)
def lJ (aa : Q4 → Option Q3) (ops : Q11) (l : Q1) (at_ : Int) (names : Q6) (deep : Int) (bad : Int) (place : Int) : Option Q3 :=
(dv aa l at_ names deep bad place).bind fun r11 =>
(ay ops l r11.2.1 names r11.2.2.1 r11.2.2.2.1 r11.2.2.2.2).bind fun r19 =>
ab (r11.2.2.2.1 != 0) fun b22 =>
ab (!r19.2) fun b24 =>
ab (b22 || b24) fun b26 =>
bif b26 then (
some (r11.1, r11.2.1, r11.2.2.1, r11.2.2.2.1, r11.2.2.2.2))
else (
(au l r11.2.1 names r11.2.2.1 r11.2.2.2.1 r11.2.2.2.2).bind fun r30 =>
(aa (l, (IntKind.i64.wrap (r11.2.1 + 1)), names, r11.2.2.1, r11.2.2.2.1, r11.2.2.2.2)).bind fun r37 =>
some ((Ex.mk r19.1 0 r30.2.2.2 ([r11.1, r37.1] : List Ex)), r37.2.1, r37.2.2.1, r37.2.2.2.1, r37.2.2.2.2))
def eY (aa : Q4 → Option Q3) (l : Q1) (at_ : Int) (names : Q6) (deep : Int) (bad : Int) (place : Int) : Option Q3 :=
(lJ aa ([19] : List Int) l at_ names deep bad place).bind fun r13 =>
some (r13.1, r13.2.1, r13.2.2.1, r13.2.2.2.1, r13.2.2.2.2)
def gW (aa : Q4 → Option Q3) (l : Q1) (at_ : Int) (names : Q6) (deep : Int) (bad : Int) (place : Int) : Option Q3 :=
bif (decide (320 ≤ deep)) then (
(aD 9 l at_ names deep bad place).bind fun r12 =>
some (r12.1, at_, deep, r12.2.1, r12.2.2))
else (
(eY aa l at_ names (IntKind.i64.wrap (deep + 1)) bad place).bind fun r19 =>
some (r19.1, r19.2.1, (IntKind.i64.wrap (r19.2.2.1 - 1)), r19.2.2.2.1, r19.2.2.2.2))
def iP (l : Q1) (at_ : Int) (names : Q6) (deep : Int) (bad : Int) (place : Int) : Option Q3 :=
 aj (fun k (s : Q4) => gW k s.1 s.2.1 s.2.2.1 s.2.2.2.1 s.2.2.2.2.1 s.2.2.2.2.2) al (l, at_, names, deep, bad, place)
def kZ (l : Q1) (at_ : Int) (names : Q6) : Option Q8 :=
(iP l at_ names 0 0 0).bind fun r13 =>
bif (r13.2.2.2.1 != 0) then (
some ((Ex.mk 0 0 0 []), 0, r13.2.2.2.1, r13.2.2.2.2))
else (
some (r13.1, r13.2.1, 0, 0))
def sr (e : Ex) (times10 : Bool) (t45 : Bool) : Option Q9 :=
bif t45 then (
some (2, 0, 0))
else (
ab (decide (15 ≤ e.op)) fun b47 =>
ab (b47 && times10) fun b49 =>
bif b49 then (
some (3, 0, 0))
else (
some (0, 4, e.at_)))
def kc (jG : Ex → Option Q9) (e : Ex) (again12 : Q28 → Option Q9) : Bool × Bool × Bool × Int → Option Q9 := fun ⟨ints8, bools9, times10, t11⟩ =>
bif (decide (t11 < (List.length e.l : Int))) then (
(idx e.l t11).bind fun e14 =>
(jG e14).bind fun r23 =>
bif (r23.2.1 != 0) then (
some (0, r23.2.1, r23.2.2))
else (
ab (r23.1 == 1) fun b27 =>
ab (ints8 && b27) fun b29 =>
ab (r23.1 == 2) fun b31 =>
ab (bools9 && b31) fun b33 =>
ab (r23.1 != 1) fun b35 =>
ab (times10 && b35) fun b37 =>
again12 (b29, b33, b37, (IntKind.i64.wrap (t11 + 1)))))
else (
ab (decide (e.op ≤ 6)) fun b39 =>
ab (b39 && ints8) fun b41 =>
bif b41 then (
some (1, 0, 0))
else (
ab (fun (s55 : Bool) => sr e times10 s55) fun kk54 =>
ab (decide (6 < e.op)) fun b56 =>
ab (decide (e.op ≤ 12)) fun b58 =>
ab (b56 && b58) fun b60 =>
ab (b60 && ints8) fun b62 =>
bif b62 then (
kk54 b62)
else (
bif (e.op == 13) then (
kk54 (e.op == 13))
else (
bif (e.op == 14) then (
kk54 (e.op == 14))
else (
ab (decide (15 ≤ e.op)) fun b67 =>
ab (decide (e.op ≤ 19)) fun b69 =>
ab (b67 && b69) fun b71 =>
ab (b71 && bools9) fun b73 =>
kk54 b73)))))
def mU (jG : Ex → Option Q9) (e : Ex) : Option Q9 :=
aj (kc jG e) al (true, true, true, 0)
def nV (e : Ex) : Option Q9 :=
 aj (fun k (s : Ex) => mU k s) al e
def tS (e : Ex) (times10 : Bool) (t45 : Bool) : Option Q9 :=
bif t45 then (
some (2, 0, 0))
else (
ab (decide (15 ≤ e.op)) fun b47 =>
ab (b47 && times10) fun b49 =>
bif b49 then (
some (3, 0, 0))
else (
some (0, 4, e.at_)))
def zY (e : Ex) (again12 : Q28 → Option Q9) : Bool × Bool × Bool × Int → Option Q9 := fun ⟨ints8, bools9, times10, t11⟩ =>
bif (decide (t11 < (List.length e.l : Int))) then (
(idx e.l t11).bind fun e14 =>
(nV e14).bind fun r23 =>
bif (r23.2.1 != 0) then (
some (0, r23.2.1, r23.2.2))
else (
ab (r23.1 == 1) fun b27 =>
ab (ints8 && b27) fun b29 =>
ab (r23.1 == 2) fun b31 =>
ab (bools9 && b31) fun b33 =>
ab (r23.1 != 1) fun b35 =>
ab (times10 && b35) fun b37 =>
again12 (b29, b33, b37, (IntKind.i64.wrap (t11 + 1)))))
else (
ab (decide (e.op ≤ 6)) fun b39 =>
ab (b39 && ints8) fun b41 =>
bif b41 then (
some (1, 0, 0))
else (
ab (fun (s55 : Bool) => tS e times10 s55) fun kk54 =>
ab (decide (6 < e.op)) fun b56 =>
ab (decide (e.op ≤ 12)) fun b58 =>
ab (b56 && b58) fun b60 =>
ab (b60 && ints8) fun b62 =>
bif b62 then (
kk54 b62)
else (
bif (e.op == 13) then (
kk54 (e.op == 13))
else (
bif (e.op == 14) then (
kk54 (e.op == 14))
else (
ab (decide (15 ≤ e.op)) fun b67 =>
ab (decide (e.op ≤ 19)) fun b69 =>
ab (b67 && b69) fun b71 =>
ab (b71 && bools9) fun b73 =>
kk54 b73)))))
def lK (e : Ex) : Option Q9 :=
aj (zY e) al (true, true, true, 0)
def me (r10 : Q8) : Option Q25 :=
some (.ok (r10.1, r10.2.1))
def mh (want : Int) (_at_ : Int) (r10 : Q8) (r19 : Q9) : Option Q25 :=
ab (fun (_s27 : Unit) => me r10) fun kk26 =>
bif (r19.1 != want) then (
some (.error (4, r10.1.at_)))
else (
kk26 ())
def ma (want : Int) (at_ : Int) (r10 : Q8) : Option Q25 :=
(lK r10.1).bind fun r19 =>
ab (fun (_s30 : Unit) => mh want at_ r10 r19) fun kk29 =>
bif (r19.2.1 != 0) then (
some (.error r19.2))
else (
kk29 ())
def bY (want : Int) (l : Q1) (at_ : Int) (Names : Q6) (_Schema : Q7) (_Init : Q11) (_Procs : Q6) (_Cmd : Q2) : Option Q25 :=
(
(kZ l at_ Names).bind fun r10 =>
ab (fun (_s33 : Unit) => ma want at_ r10) fun kk32 =>
bif (r10.2.2.1 != 0) then (
some (.error r10.2.2))
else (
kk32 ()))
def fF (s : Q21) (x : Int) : Option Bool :=
some (s.1 == x)
def bL (s : Q12) (c : Int) (again5 : Int → Option Int) (t4 : Int) : Option Int :=
bif (decide (t4 < (List.length s : Int))) then (
(idx s t4).bind fun e7 =>
(fF (e7.1, e7.2) c).bind fun r13 =>
bif r13 then (
some t4)
else (
again5 (IntKind.i64.wrap (t4 + 1))))
else (
some (-1))
def ed (s : Q12) (c : Int) : Option Int :=
aj (bL s c) al 0
def bM (s : Q12) (c : Int) : Option Bool :=
(ed s c).bind fun r3 =>
some (decide (0 ≤ r3))
def eC (l : Q1) (at_ : Int) (Names : Q6) (Schema : Q7) (Init : Q11) (Procs : Q6) (Cmd : Q2) (r17 : Int) : Option Q26 :=
cr (bm [61] l (IntKind.i64.wrap (at_ + 1)) Names Schema Init Procs Cmd) fun r25 =>
cr (bY 1 l r25 Names Schema Init Procs Cmd) fun r33 =>
some (.ok ((r17, r33.1), r33.2))
def ku (ahead : Q12) (l : Q1) (at_ : Int) (Names : Q6) (Schema : Q7) (Init : Q11) (Procs : Q6) (Cmd : Q2) (r8 : Q10) : Option Q26 :=
(
(aS Names r8.2.1).bind fun r17 =>
ab (fun (_s43 : Unit) => eC l at_ Names Schema Init Procs Cmd r17) fun kk42 =>
ab (decide (r17 < 0)) fun b44 =>
ax (!b44) default (bM ahead r17) fun r46 =>
ab (b44 || r46) fun b52 =>
bif b52 then (
cr (aY 3 l at_ Names Schema Init Procs Cmd) fun r55 =>
r55.elim)
else (
kk42 ()))
def dc (ahead : Q12) (l : Q1) (at_ : Int) (Names : Q6) (Schema : Q7) (Init : Q11) (Procs : Q6) (Cmd : Q2) : Option Q26 :=
(cD l at_ Names Schema Init Procs Cmd).bind fun r8 =>
ab (fun (_s106 : Unit) => ku ahead l at_ Names Schema Init Procs Cmd r8) fun kk105 =>
bif (r8.1 != 1) then (
cr (aY 2 l at_ Names Schema Init Procs Cmd) fun r108 =>
r108.elim)
else (
kk105 ())
def jW (l : Q1) (Names : Q6) (Schema : Q7) (Init : Q11) (Procs : Q6) (Cmd : Q2) (r10 : (Ex × Int)) (again32 : (Int × Q12) → Option Q24) : Int × Q12 → Option Q24 := fun ⟨c28, l29⟩ =>
cr (dc l29 l c28 Names Schema Init Procs Cmd) fun r35 =>
chk (bu (List.length l29 + List.length ([(r35.1.1, r35.1.2)] : List Q21)) 56) <|
(dY 3 [59] l r35.2 Names Schema Init Procs Cmd).bind fun r50 =>
bif r50 then (
chk (bu (List.length Cmd + List.length ([((IntKind.i64.wrap ((List.length Procs : Int) - 1)), r10.1, (l29 ++ ([(r35.1.1, r35.1.2)] : List Q21)))] : List Q23)) 80) <|
some (.ok ((IntKind.i64.wrap (r35.2 + 1)), (Cmd ++ ([((IntKind.i64.wrap ((List.length Procs : Int) - 1)), r10.1, (l29 ++ ([(r35.1.1, r35.1.2)] : List Q21)))] : List Q23)))))
else (
cr (bm [44] l r35.2 Names Schema Init Procs Cmd) fun r64 =>
again32 (r64, (l29 ++ ([(r35.1.1, r35.1.2)] : List Q21))))
def nW (l : Q1) (at_ : Int) (Names : Q6) (Schema : Q7) (Init : Q11) (Procs : Q6) (Cmd : Q2) : Option Q24 :=
(
cr (bY 2 l at_ Names Schema Init Procs Cmd) fun r10 =>
cr (bm [58] l r10.2 Names Schema Init Procs Cmd) fun r21 =>
aj (jW l Names Schema Init Procs Cmd r10) al (r21, []))
def gH (l : Q1) (at_ : Int) (Names : Q6) (Schema : Q7) (Init : Q11) (Procs : Q6) (Cmd : Q2) : Option Q24 :=
ab (fun (_s131 : Unit) => nW l at_ Names Schema Init Procs Cmd) fun kk130 =>
bif (decide (256 ≤ (List.length Cmd : Int))) then (
cr (aY 9 l at_ Names Schema Init Procs Cmd) fun r133 =>
r133.elim)
else (
kk130 ())
def j3 (l : Q1) (Names : Q6) (Schema : Q7) (Init : Q11) (Procs : Q6) (r12 : (Str × Int)) (again36 : (Int × Q2) → Option (Except Q14 (Int × Q6 × Q2))) : Int × Q2 → Option (Except Q14 (Int × Q6 × Q2)) := fun ⟨c32, c33⟩ =>
(dY 3 [125] l c32 Names Schema Init (Procs ++ ([r12.1] : List Str)) c33).bind fun r37 =>
bif (!r37) then (
cr (gH l c32 Names Schema Init (Procs ++ ([r12.1] : List Str)) c33) fun r41 =>
again36 (r41.1, r41.2))
else (
some (.ok ((IntKind.i64.wrap (c32 + 1)), (Procs ++ ([r12.1] : List Str)), c33)))
def gG (l : Q1) (at_ : Int) (Names : Q6) (Schema : Q7) (Init : Q11) (Procs : Q6) (Cmd : Q2) : Option (Except Q14 (Int × Q6 × Q2)) :=
cr (fy false l at_ Names Schema Init Procs Cmd) fun r12 =>
chk (bu (List.length Procs + List.length ([r12.1] : List Str)) 16) <|
cr (bm [123] l r12.2 Names Schema Init (Procs ++ ([r12.1] : List Str)) Cmd) fun r25 =>
aj (j3 l Names Schema Init Procs r12) al (r25, Cmd)
def jT (l : Q1) (again39 : Q27 → Option (Except Q14 Q27)) : Int × Q6 × Q7 × Q11 × Q6 × Q2 → Option (Except Q14 Q27) := fun ⟨c23, c24, c27, c30, c33, c36⟩ =>
(cD l c23 c24 c27 c30 c33 c36).bind fun r40 =>
bif (r40.1 != 4) then (
(dY 1 [118, 97, 114] l c23 c24 c27 c30 c33 c36).bind fun r44 =>
bif r44 then (
cr (fW l (IntKind.i64.wrap (c23 + 1)) c24 c27 c30 c33 c36) fun r49 =>
again39 (r49.1, r49.2.1, r49.2.2.1, r49.2.2.2, c33, c36))
else (
(dY 1 [112, 114, 111, 99] l c23 c24 c27 c30 c33 c36).bind fun r61 =>
bif (!r61) then (
cr (aY 2 l c23 c24 c27 c30 c33 c36) fun r65 =>
r65.elim)
else (
cr (gG l (IntKind.i64.wrap (c23 + 1)) c24 c27 c30 c33 c36) fun r72 =>
again39 (r72.1, c24, c27, c30, r72.2.1, r72.2.2))))
else (
bif ((List.length c24 : Int) == 0) then (
cr (aY 2 l c23 c24 c27 c30 c33 c36) fun r83 =>
r83.elim)
else (
some (.ok (c23, c24, c27, c30, c33, c36))))
def pN (l : Q1) (at_ : Int) (Names : Q6) (Schema : Q7) (Init : Q11) (Procs : Q6) (Cmd : Q2) : Option (Except Q14 Q27) :=
aj (jT l) al (at_, Names, Schema, Init, Procs, Cmd)
def fp (text : Str) : Option Q20 :=
(qZ text).bind fun r21 =>
bif (r21.2.1 != 0) then (
some (([], [], [], [], []), r21.2.1, r21.2.2))
else (
Hc (pN r21.1 0 [] [] [] [] []) (fun p34 =>
some (([], [], [], [], []), p34.1, p34.2)) fun r32 =>
some (r32.2, 0, 0))
def fK (s1 : Q6) (s2 : Q6) (again6 : Int → Option Bool) (t5 : Int) : Option Bool :=
bif (decide (t5 < (List.length s1 : Int))) then (
(idx s1 t5).bind fun e10 =>
(idx s2 t5).bind fun e12 =>
bif (e10 != e12) then (
some false)
else (
again6 (IntKind.i64.wrap (t5 + 1))))
else (
some true)
def dB (s1 : Q6) (s2 : Q6) : Option Bool :=
bif ((List.length s1 : Int) != (List.length s2 : Int)) then (
some false)
else (
aj (fK s1 s2) al 0)
def ei (s1 : Q7) (s2 : Q7) (again6 : Int → Option Bool) (t5 : Int) : Option Bool :=
bif (decide (t5 < (List.length s1 : Int))) then (
(idx s1 t5).bind fun e10 =>
(idx s2 t5).bind fun e12 =>
bif (!(yA e10.1 e10.2 e12.1 e12.2)) then (
some false)
else (
again6 (IntKind.i64.wrap (t5 + 1))))
else (
some true)
def dy (s1 : Q7) (s2 : Q7) : Option Bool :=
bif ((List.length s1 : Int) != (List.length s2 : Int)) then (
some false)
else (
aj (ei s1 s2) al 0)
def iX (s1 : Q11) (s2 : Q11) (again6 : Int → Option Bool) (t5 : Int) : Option Bool :=
bif (decide (t5 < (List.length s1 : Int))) then (
(idx s1 t5).bind fun e10 =>
(idx s2 t5).bind fun e12 =>
bif (e10 != e12) then (
some false)
else (
again6 (IntKind.i64.wrap (t5 + 1))))
else (
some true)
def ix (s1 : Q11) (s2 : Q11) : Option Bool :=
bif ((List.length s1 : Int) != (List.length s2 : Int)) then (
some false)
else (
aj (iX s1 s2) al 0)
def bU (gm : (Ex × Ex) → Option Bool) (s1 : (List Ex)) (s2 : (List Ex)) (again6 : Int → Option Bool) (t5 : Int) : Option Bool :=
bif (decide (t5 < (List.length s1 : Int))) then (
(idx s1 t5).bind fun e8 =>
(idx s2 t5).bind fun e17 =>
(gm (e8, e17)).bind fun r26 =>
bif (!r26) then (
some false)
else (
again6 (IntKind.i64.wrap (t5 + 1))))
else (
some true)
def bl (gm : (Ex × Ex) → Option Bool) (s1 : (List Ex)) (s2 : (List Ex)) : Option Bool :=
bif ((List.length s1 : Int) != (List.length s2 : Int)) then (
some false)
else (
aj (bU gm s1 s2) al 0)
def lb (gm : (Ex × Ex) → Option Bool) (a : Ex) (b : Ex) : Option Bool :=
ab (a.op == b.op) fun b7 =>
ab (a.n == b.n) fun b9 =>
ab (b7 && b9) fun b11 =>
ax b11 default (bl gm a.l b.l) fun r13 =>
ab (b11 && r13) fun b19 =>
some b19
def nM (a : Ex) (b : Ex) : Option Bool :=
 aj (fun k (s : (Ex × Ex)) => lb k s.1 s.2) al (a, b)
def kV (x : Q21) (y : Q21) : Option Bool :=
ab (x.1 == y.1) fun b7 =>
ax b7 default (nM x.2 y.2) fun r9 =>
ab (b7 && r9) fun b15 =>
some b15
def cc (s1 : Q12) (s2 : Q12) (again6 : Int → Option Bool) (t5 : Int) : Option Bool :=
bif (decide (t5 < (List.length s1 : Int))) then (
(idx s1 t5).bind fun e8 =>
(idx s2 t5).bind fun e17 =>
(kV (e8.1, e8.2) (e17.1, e17.2)).bind fun r26 =>
bif (!r26) then (
some false)
else (
again6 (IntKind.i64.wrap (t5 + 1))))
else (
some true)
def aT (s1 : Q12) (s2 : Q12) : Option Bool :=
bif ((List.length s1 : Int) != (List.length s2 : Int)) then (
some false)
else (
aj (cc s1 s2) al 0)
def kW (x : Q23) (y : Q23) : Option Bool :=
ab (x.1 == y.1) fun b7 =>
ax b7 default (nM x.2.1 y.2.1) fun r9 =>
ab (b7 && r9) fun b15 =>
ax b15 default (aT x.2.2 y.2.2) fun r17 =>
ab (b15 && r17) fun b23 =>
some b23
def cb (s1 : Q2) (s2 : Q2) (again6 : Int → Option Bool) (t5 : Int) : Option Bool :=
bif (decide (t5 < (List.length s1 : Int))) then (
(idx s1 t5).bind fun e8 =>
(idx s2 t5).bind fun e19 =>
(kW (e8.1, e8.2.1, e8.2.2) (e19.1, e19.2.1, e19.2.2)).bind fun r30 =>
bif (!r30) then (
some false)
else (
again6 (IntKind.i64.wrap (t5 + 1))))
else (
some true)
def bz (s1 : Q2) (s2 : Q2) : Option Bool :=
bif ((List.length s1 : Int) != (List.length s2 : Int)) then (
some false)
else (
aj (cb s1 s2) al 0)
def mD (a : Q5) (b : Q5) : Option Bool :=
(dB a.1 b.1).bind fun r10 =>
ax r10 default (dy a.2.1 b.2.1) fun r13 =>
ab (r10 && r13) fun b19 =>
ax b19 default (ix a.2.2.1 b.2.2.1) fun r21 =>
ab (b19 && r21) fun b27 =>
ax b27 default (dB a.2.2.2.1 b.2.2.2.1) fun r29 =>
ab (b27 && r29) fun b35 =>
ax b35 default (bz a.2.2.2.2 b.2.2.2.2) fun r37 =>
ab (b35 && r37) fun b43 =>
some b43
def ly : Option Bool :=
(fp [118, 97, 114, 32, 120, 32, 48, 32, 51, 32, 48, 59, 32, 112, 114, 111, 99, 32, 80, 32, 123, 32, 120, 32, 60, 32, 51, 32, 58, 32, 120, 32, 61, 32, 120, 32, 43, 32, 49, 59, 32, 125]).bind fun r3 =>
(fp [118, 97, 114, 32, 120, 32, 48, 32, 51, 32, 52, 59]).bind fun r19 =>
(fp [118, 97, 114, 32, 120, 32, 48, 32, 51, 32, 48, 59, 32, 112, 114, 111, 99, 32, 80, 32, 123, 32, 120, 32, 58, 32, 120, 32, 61, 32, 49, 59, 32, 125]).bind fun r35 =>
(fp [112, 114, 111, 99, 32, 80, 32, 123, 125]).bind fun r51 =>
(fp [118, 97, 114, 32, 120, 32, 48, 32, 51, 32, 48, 59, 32, 112, 114, 111, 99, 32, 120, 32, 123, 125]).bind fun r67 =>
ab ((List.length r3.1.2.2.2.2 : Int) != 1) fun b83 =>
ax (!b83) (0, (Ex.mk 0 0 0 []), []) (idx r3.1.2.2.2.2 0) fun e85 =>
ab ((List.length e85.2.2 : Int) != 1) fun b93 =>
ab (b83 || b93) fun b95 =>
bif b95 then (
some false)
else (
ab (r3.2.1 == 0) fun b98 =>
ab ((List.length r3.1.1 : Int) == 1) fun b100 =>
ab (b98 && b100) fun b102 =>
ax b102 (0, 0) (idx r3.1.2.1 0) fun e104 =>
ab (yA e104.1 e104.2 0 3) fun b106 =>
ab (b102 && b106) fun b108 =>
ax b108 0 (idx r3.1.2.2.1 0) fun e110 =>
ab (e110 == 0) fun b112 =>
ab (b108 && b112) fun b114 =>
ab ((List.length r3.1.2.2.2.1 : Int) == 1) fun b116 =>
ab (b114 && b116) fun b118 =>
ax b118 (0, (Ex.mk 0 0 0 []), []) (idx r3.1.2.2.2.2 0) fun e120 =>
ab (e120.2.1.op == 9) fun b128 =>
ab (b118 && b128) fun b130 =>
ax b130 (0, (Ex.mk 0 0 0 []), []) (idx r3.1.2.2.2.2 0) fun e132 =>
ax b130 (0, (Ex.mk 0 0 0 [])) (idx e132.2.2 0) fun e140 =>
ab (e140.2.op == 3) fun b146 =>
ab (b130 && b146) fun b148 =>
ab (r19.2.1 == 5) fun b150 =>
ab (b148 && b150) fun b152 =>
ab (r19.2.2 == 6) fun b154 =>
ab (b152 && b154) fun b156 =>
ab (r35.2.1 == 4) fun b158 =>
ab (b156 && b158) fun b160 =>
ab (r35.2.2 == 22) fun b162 =>
ab (b160 && b162) fun b164 =>
ab (r51.2.1 == 2) fun b166 =>
ab (b164 && b166) fun b168 =>
ab (r51.2.2 == 9) fun b170 =>
ab (b168 && b170) fun b172 =>
ab (r67.2.1 == 3) fun b174 =>
ab (b172 && b174) fun b176 =>
ab (r67.2.2 == 18) fun b178 =>
ab (b176 && b178) fun b180 =>
ax b180 default (mD r3.1 r3.1) fun r182 =>
ab (b180 && r182) fun b188 =>
ax b188 default (mD r3.1 ([], [], [], [], [])) fun r190 =>
ab (!r190) fun b196 =>
ab (b188 && b196) fun b198 =>
some b198)
def dU (c : Int) : Option Int :=
ab (c == 9) fun b3 =>
ab (c == 10) fun b5 =>
ab (b3 || b5) fun b7 =>
ab (c == 13) fun b9 =>
ab (b7 || b9) fun b11 =>
ab (c == 32) fun b13 =>
ab (b11 || b13) fun b15 =>
bif b15 then (
some 0)
else (
ab (decide (97 ≤ c)) fun b18 =>
ab (decide (c ≤ 122)) fun b20 =>
ab (b18 && b20) fun b22 =>
ab (decide (65 ≤ c)) fun b24 =>
ab (decide (c ≤ 90)) fun b26 =>
ab (b24 && b26) fun b28 =>
ab (b22 || b28) fun b30 =>
ab (c == 95) fun b32 =>
ab (b30 || b32) fun b34 =>
bif b34 then (
some 1)
else (
ab (decide (48 ≤ c)) fun b37 =>
ab (decide (c ≤ 57)) fun b39 =>
ab (b37 && b39) fun b41 =>
bif b41 then (
some 2)
else (
some 3)))
def lv : Option Q6 :=
some ([[60, 45, 62], [45, 62], [61, 61], [33, 61], [60, 61], [62, 61], [60], [62], [61], [43], [45], [42], [40], [41], [123], [125], [59], [44], [58], [38], [124], [33]] : List Str)
def ey (text : Str) (out9 : Q1) (again13 : (Q1 × Int) → Option Q17) (again24 : Int → Option Q17) (i23 : Int) : Option Q17 :=
ab (decide (i23 < (List.length text : Int))) fun b25 =>
ox b25 (inB i23 (List.length text)) <|
ab ((dJ text i23) != 10) fun b28 =>
ab (b25 && b28) fun b30 =>
bif b30 then (
again24 (IntKind.i64.wrap (i23 + 1)))
else (
again13 (out9, i23))
def dk (text : Str) (out9 : Q1) (i12 : Int) (again13 : (Q1 × Int) → Option Q17) (again36 : Int → Option Q17) (i35 : Int) : Option Q17 :=
ab (decide (i35 < (List.length text : Int))) fun b37 =>
ox b37 (inB i35 (List.length text)) <|
ax b37 default (dU (dJ text i35)) fun r40 =>
ab (r40 == 1) fun b46 =>
ox (b37 && !b46) (inB i35 (List.length text)) <|
ax (b37 && !b46) default (dU (dJ text i35)) fun r49 =>
ab (r49 == 2) fun b55 =>
ab (b46 || b55) fun b57 =>
ab (b37 && b57) fun b59 =>
bif b59 then (
again36 (IntKind.i64.wrap (i35 + 1)))
else (
bif (decide (32 < (IntKind.i64.wrap (i35 - i12)))) then (
some ([], 9, i12))
else (
chk (j8 i12 i35 (List.length text)) <|
chk (bu (List.length out9 + List.length ([(1, (cut text i12 i35), 0, i12)] : List Q10)) 40) <|
again13 ((out9 ++ ([(1, (cut text i12 i35), 0, i12)] : List Q10)), i35)))
def dj (text : Str) (out9 : Q1) (i12 : Int) (again13 : (Q1 × Int) → Option Q17) (again74 : Q14 → Option Q17) : Int × Int → Option Q17 := fun ⟨i72, n73⟩ =>
ab (decide (i72 < (List.length text : Int))) fun b75 =>
ox b75 (inB i72 (List.length text)) <|
ax b75 default (dU (dJ text i72)) fun r78 =>
ab (r78 == 2) fun b84 =>
ab (b75 && b84) fun b86 =>
bif b86 then (
bif (decide (n73 ≤ 1073741824)) then (
chk (inB i72 (List.length text)) <|
again74 ((IntKind.i64.wrap (i72 + 1)), (IntKind.i64.wrap ((IntKind.i64.wrap ((IntKind.i64.wrap (10 * n73)) + (IntKind.i64.wrap (dJ text i72)))) - 48))))
else (
again74 ((IntKind.i64.wrap (i72 + 1)), n73)))
else (
bif (decide (1073741824 < n73)) then (
some ([], 9, i12))
else (
chk (j8 i12 i72 (List.length text)) <|
chk (bu (List.length out9 + List.length ([(2, (cut text i12 i72), n73, i12)] : List Q10)) 40) <|
again13 ((out9 ++ ([(2, (cut text i12 i72), n73, i12)] : List Q10)), i72)))
def aQ (text : Str) (out9 : Q1) (i12 : Int) (again13 : (Q1 × Int) → Option Q17) (r99 : Q6) (again107 : (Str × Int) → Option Q17) : Str × Int → Option Q17 := fun ⟨s105, j106⟩ =>
ab (decide (j106 < (List.length r99 : Int))) fun b108 =>
ab (s105 == []) fun b110 =>
ab (b108 && b110) fun b112 =>
bif b112 then (
(idx r99 j106).bind fun e117 =>
ab (decide ((List.length e117 : Int) ≤ (IntKind.i64.wrap ((List.length text : Int) - i12)))) fun b119 =>
ax b119 [] (idx r99 j106) fun e121 =>
ox b119 (j8 i12 (IntKind.i64.wrap (i12 + (List.length e121 : Int))) (List.length text)) <|
ax b119 [] (idx r99 j106) fun e124 =>
ab ((cut text i12 (IntKind.i64.wrap (i12 + (List.length e121 : Int)))) == e124) fun b126 =>
ab (b119 && b126) fun b128 =>
bif b128 then (
(idx r99 j106).bind fun e131 =>
again107 (e131, (IntKind.i64.wrap (j106 + 1))))
else (
again107 (s105, (IntKind.i64.wrap (j106 + 1)))))
else (
bif (s105 == []) then (
some ([], 2, i12))
else (
chk (bu (List.length out9 + List.length ([(3, s105, 0, i12)] : List Q10)) 40) <|
again13 ((out9 ++ ([(3, s105, 0, i12)] : List Q10)), (IntKind.i64.wrap (i12 + (List.length s105 : Int))))))
def fU (text : Str) (again13 : (Q1 × Int) → Option Q17) : Q1 × Int → Option Q17 := fun ⟨out9, i12⟩ =>
bif (decide (i12 < (List.length text : Int))) then (
chk (inB i12 (List.length text)) <|
(dU (dJ text i12)).bind fun r16 =>
bif (r16 == 0) then (
again13 (out9, (IntKind.i64.wrap (i12 + 1))))
else (
chk (inB i12 (List.length text)) <|
bif ((dJ text i12) == 35) then (
aj (ey text out9 again13) al i12)
else (
bif (r16 == 1) then (
aj (dk text out9 i12 again13) al i12)
else (
bif (r16 == 2) then (
aj (dj text out9 i12 again13) al (i12, 0))
else (
(lv).bind fun r99 =>
aj (aQ text out9 i12 again13 r99) al ([], 0))))))
else (
chk (bu (List.length out9 + List.length ([(4, [], 0, (List.length text : Int))] : List Q10)) 40) <|
some ((out9 ++ ([(4, [], 0, (List.length text : Int))] : List Q10)), 0, 0))
def dZ (text : Str) : Option Q17 :=
bif (decide (65536 < (List.length text : Int))) then (
some ([], 9, 0))
else (
aj (fU text) al ([], 0))
def bd (kind : Int) (text : Str) (l : Q1) (at_ : Int) (_Names : Q6) (_Schema : Q7) (_Init : Q11) (_Procs : Q6) (_Cmd : Q2) (bad : Int) (_place : Int) : Option Bool :=
ab (bad == 0) fun b5 =>
ax b5 (0, [], 0, 0) (idx l at_) fun e7 =>
ab (e7.1 == kind) fun b9 =>
ab (b5 && b9) fun b11 =>
ax b11 (0, [], 0, 0) (idx l at_) fun e13 =>
ab (e13.2.1 == text) fun b15 =>
ab (b11 && b15) fun b17 =>
some b17
def oR (t4 : Bool) : Option Bool :=
bif t4 then (
some true)
else (
some false)
def fH (name : Str) : Option Bool :=
ab (fun (s7 : Bool) => oR s7) fun kk6 =>
bif (name == [116, 114, 117, 101]) then (
kk6 (name == [116, 114, 117, 101]))
else (
bif (name == [102, 97, 108, 115, 101]) then (
kk6 (name == [102, 97, 108, 115, 101]))
else (
bif (name == [88]) then (
kk6 (name == [88]))
else (
bif (name == [70]) then (
kk6 (name == [70]))
else (
bif (name == [71]) then (
kk6 (name == [71]))
else (
bif (name == [85]) then (
kk6 (name == [85]))
else (
bif (name == [82]) then (
kk6 (name == [82]))
else (
bif (name == [118, 97, 114]) then (
kk6 (name == [118, 97, 114]))
else (
kk6 (name == [112, 114, 111, 99])))))))))
def ao (bad : Int) (place : Int) (_l : Q1) (_at_ : Int) (_Names : Q6) (_Schema : Q7) (_Init : Q11) (_Procs : Q6) (_Cmd : Q2) (bad19 : Int) (place20 : Int) : Option Q14 :=
bif (bad19 == 0) then (
some (bad, place))
else (
some (bad19, place20))
def dI (l : Q6) (name : Str) (again5 : Int → Option Int) (i4 : Int) : Option Int :=
bif (decide (i4 < (List.length l : Int))) then (
(idx l i4).bind fun e7 =>
bif (e7 == name) then (
some i4)
else (
again5 (IntKind.i64.wrap (i4 + 1))))
else (
some (-1))
def bR (l : Q6) (name : Str) : Option Int :=
aj (dI l name) al 0
def ez (full : Bool) (l : Q1) (at_ : Int) (Names : Q6) (Schema : Q7) (Init : Q11) (Procs : Q6) (Cmd : Q2) (bad : Int) (place : Int) : Option (Str × Int × Int × Int) :=
(idx l at_).bind fun e8 =>
(fH e8.2.1).bind fun r13 =>
bif (e8.1 != 1) then (
(ao 2 e8.2.2.2 l at_ Names Schema Init Procs Cmd bad place).bind fun r17 =>
some (e8.2.1, at_, r17.1, r17.2))
else (
ax (!r13) default (bR Names e8.2.1) fun r22 =>
ab (decide (0 ≤ r22)) fun b28 =>
ab (r13 || b28) fun b30 =>
ax (!b30) default (bR Procs e8.2.1) fun r32 =>
ab (decide (0 ≤ r32)) fun b38 =>
ab (b30 || b38) fun b40 =>
bif b40 then (
(ao 3 e8.2.2.2 l at_ Names Schema Init Procs Cmd bad place).bind fun r43 =>
some (e8.2.1, at_, r43.1, r43.2))
else (
bif full then (
(ao 9 e8.2.2.2 l at_ Names Schema Init Procs Cmd bad place).bind fun r47 =>
some (e8.2.1, at_, r47.1, r47.2))
else (
bif (bad == 0) then (
some (e8.2.1, (IntKind.i64.wrap (at_ + 1)), bad, place))
else (
some (e8.2.1, at_, bad, place)))))
def aF (l : Q1) (at_ : Int) (_Names : Q6) (_Schema : Q7) (_Init : Q11) (_Procs : Q6) (_Cmd : Q2) (_bad : Int) (_place : Int) : Option Int :=
(idx l at_).bind fun e5 =>
some e5.2.2.2
def aR (text : Str) (l : Q1) (at_ : Int) (Names : Q6) (Schema : Q7) (Init : Q11) (Procs : Q6) (Cmd : Q2) (bad : Int) (place : Int) : Option Q9 :=
(bd 3 text l at_ Names Schema Init Procs Cmd bad place).bind fun r5 =>
bif (!r5) then (
(aF l at_ Names Schema Init Procs Cmd bad place).bind fun r9 =>
(ao 2 r9 l at_ Names Schema Init Procs Cmd bad place).bind fun r12 =>
some (at_, r12.1, r12.2))
else (
some ((IntKind.i64.wrap (at_ + 1)), bad, place))
def ij (strength : Int) : Option Bool :=
ab (strength == 1) fun b3 =>
ab (strength == 2) fun b5 =>
ab (b3 || b5) fun b7 =>
ab (strength == 5) fun b9 =>
ab (b7 || b9) fun b11 =>
ab (strength == 6) fun b13 =>
ab (b11 || b13) fun b15 =>
ab (strength == 10) fun b17 =>
ab (b15 || b17) fun b19 =>
some b19
def aO (bad : Int) (l : Q1) (at_ : Int) (_names : Q6) (bad7 : Int) (place : Int) : Option (Ex × Int × Int) :=
bif (bad7 == 0) then (
(idx l at_).bind fun e13 =>
some ((Ex.mk 0 0 0 []), bad, e13.2.2.2))
else (
some ((Ex.mk 0 0 0 []), bad7, place))
def da (l : Q1) (at_ : Int) (names : Q6) (bad : Int) (place : Int) (e12 : Q10) (again50 : Int → Option Q8) (i49 : Int) : Option Q8 :=
bif (decide (i49 < (List.length names : Int))) then (
(idx names i49).bind fun e54 =>
bif (e54 == e12.2.1) then (
some ((Ex.mk 2 i49 e12.2.2.2 []), (IntKind.i64.wrap (at_ + 1)), bad, place))
else (
again50 (IntKind.i64.wrap (i49 + 1))))
else (
(aO 3 l at_ names bad place).bind fun r59 =>
some (r59.1, at_, r59.2.1, r59.2.2))
def cO (ae : Q13 → Option Q8) (deep : Int) (l : Q1) (at_ : Int) (names : Q6) (bad : Int) (place : Int) : Option Q8 :=
(idx l at_).bind fun e12 =>
bif (e12.1 == 2) then (
some ((Ex.mk 1 e12.2.2.1 e12.2.2.2 []), (IntKind.i64.wrap (at_ + 1)), bad, place))
else (
ab (e12.1 == 1) fun b20 =>
ab (e12.2.1 == [116, 114, 117, 101]) fun b22 =>
ab (b20 && b22) fun b24 =>
bif b24 then (
some ((Ex.mk 13 0 e12.2.2.2 []), (IntKind.i64.wrap (at_ + 1)), bad, place))
else (
ab (e12.1 == 1) fun b29 =>
ab (e12.2.1 == [102, 97, 108, 115, 101]) fun b31 =>
ab (b29 && b31) fun b33 =>
bif b33 then (
some ((Ex.mk 14 0 e12.2.2.2 []), (IntKind.i64.wrap (at_ + 1)), bad, place))
else (
(fH e12.2.1).bind fun r38 =>
ab (e12.1 == 1) fun b41 =>
ab (!r38) fun b43 =>
ab (b41 && b43) fun b45 =>
bif b45 then (
aj (da l at_ names bad place e12) al 0)
else (
ab (e12.1 != 3) fun b65 =>
ab (e12.2.1 != [40]) fun b67 =>
ab (b65 || b67) fun b69 =>
bif b69 then (
(aO 2 l at_ names bad place).bind fun r72 =>
some (r72.1, at_, r72.2.1, r72.2.2))
else (
(ae (1, deep, l, (IntKind.i64.wrap (at_ + 1)), names, bad, place)).bind fun r79 =>
bif (r79.2.2.1 != 0) then (
some ((Ex.mk 0 0 0 []), r79.2.1, r79.2.2.1, r79.2.2.2))
else (
(idx l r79.2.1).bind fun e91 =>
ab (e91.1 != 3) fun b93 =>
ax (!b93) (0, [], 0, 0) (idx l r79.2.1) fun e95 =>
ab (e95.2.1 != [41]) fun b97 =>
ab (b93 || b97) fun b99 =>
bif b99 then (
(aO 2 l r79.2.1 names r79.2.2.1 r79.2.2.2).bind fun r102 =>
some (r102.1, r79.2.1, r102.2.1, r102.2.2))
else (
some (r79.1, (IntKind.i64.wrap (r79.2.1 + 1)), r79.2.2.1, r79.2.2.2))))))))
def aG (t : Q10) (again28 : Int → Option Int) (i27 : Int) : Option Int :=
bif (decide (i27 < 6)) then (
(idx ([[61, 61], [33, 61], [60], [60, 61], [62], [62, 61]] : List Str) i27).bind fun e30 =>
bif (t.2.1 == e30) then (
some (IntKind.i64.wrap (7 + i27)))
else (
again28 (IntKind.i64.wrap (i27 + 1))))
else (
some 0)
def bO (t : Q10) (strength : Int) : Option Int :=
ab (t.1 != 2) fun b5 =>
ab (t.1 != 4) fun b7 =>
ab (b5 && b7) fun b9 =>
bif b9 then (
bif (strength == 1) then (
bif (t.2.1 == [60, 45, 62]) then (
some 19)
else (
some 0))
else (
bif (strength == 2) then (
bif (t.2.1 == [45, 62]) then (
some 18)
else (
some 0))
else (
bif (strength == 3) then (
bif (t.2.1 == [124]) then (
some 17)
else (
some 0))
else (
bif (strength == 4) then (
bif (t.2.1 == [38]) then (
some 16)
else (
some 0))
else (
bif (strength == 5) then (
bif (t.2.1 == [85]) then (
some 23)
else (
bif (t.2.1 == [82]) then (
some 24)
else (
some 0)))
else (
bif (strength == 7) then (
aj (aG t) al 0)
else (
bif (strength == 8) then (
bif (t.2.1 == [43]) then (
some 3)
else (
bif (t.2.1 == [45]) then (
some 4)
else (
some 0)))
else (
bif (strength == 9) then (
bif (t.2.1 == [42]) then (
some 5)
else (
some 0))
else (
some 0)))))))))
else (
some 0)
def fN (ae : Q13 → Option Q8) (l : Q1) (at_ : Int) (names : Q6) (bad : Int) (place : Int) (deep16 : Int) (e30 : Q10) (k43 : Int) : Option Q8 :=
bif (k43 == 0) then (
(ae (7, deep16, l, at_, names, bad, place)).bind fun r45 =>
some (r45.1, r45.2.1, r45.2.2.1, r45.2.2.2))
else (
(ae (6, deep16, l, (IntKind.i64.wrap (at_ + 1)), names, bad, place)).bind fun r52 =>
some ((Ex.mk k43 0 e30.2.2.2 ([r52.1] : List Ex)), r52.2.1, r52.2.2.1, r52.2.2.2))
def jQ (ae : Q13 → Option Q8) (l : Q1) (at_ : Int) (names : Q6) (bad : Int) (place : Int) (deep16 : Int) (e30 : Q10) (k41 : Int) : Option Q8 :=
ab (fun (s64 : Int) => fN ae l at_ names bad place deep16 e30 s64) fun kk63 =>
ab (e30.1 == 1) fun b65 =>
ab (e30.2.1 == [71]) fun b67 =>
ab (b65 && b67) fun b69 =>
bif b69 then (
kk63 22)
else (
kk63 k41)
def jP (ae : Q13 → Option Q8) (l : Q1) (at_ : Int) (names : Q6) (bad : Int) (place : Int) (deep16 : Int) (e30 : Q10) (k39 : Int) : Option Q8 :=
ab (fun (s73 : Int) => jQ ae l at_ names bad place deep16 e30 s73) fun kk72 =>
ab (e30.1 == 1) fun b74 =>
ab (e30.2.1 == [70]) fun b76 =>
ab (b74 && b76) fun b78 =>
bif b78 then (
kk72 21)
else (
kk72 k39)
def ck (ae : Q13 → Option Q8) (l : Q1) (at_ : Int) (names : Q6) (bad : Int) (place : Int) (deep16 : Int) (e30 : Q10) (k37 : Int) : Option Q8 :=
ab (fun (s82 : Int) => jP ae l at_ names bad place deep16 e30 s82) fun kk81 =>
ab (e30.1 == 1) fun b83 =>
ab (e30.2.1 == [88]) fun b85 =>
ab (b83 && b85) fun b87 =>
bif b87 then (
kk81 20)
else (
kk81 k37)
def cn (ae : Q13 → Option Q8) (strength : Int) (l : Q1) (names : Q6) (deep16 : Int) (again143 : (Int × Int × Int × Int × Int × Int × (List Ex)) → Option Q8) : Int × Int × Int × Int × Int × Int × (List Ex) → Option Q8 := fun ⟨c134, c135, c136, c137, c138, c139, c140⟩ =>
bif (c135 == 0) then (
(idx l c134).bind fun e147 =>
(bO e147 strength).bind fun r152 =>
bif (r152 == 0) then (
some ((Ex.mk c137 c138 c139 c140), c134, c135, c136))
else (
ab (strength == 1) fun b158 =>
ab (strength == 2) fun b160 =>
ab (b158 || b160) fun b162 =>
ab (strength == 5) fun b164 =>
ab (b162 || b164) fun b166 =>
bif b166 then (
(ae (strength, deep16, l, (IntKind.i64.wrap (c134 + 1)), names, c135, c136)).bind fun r169 =>
some ((Ex.mk r152 0 e147.2.2.2 ([(Ex.mk c137 c138 c139 c140), r169.1] : List Ex)), r169.2.1, r169.2.2.1, r169.2.2.2))
else (
(ae ((IntKind.i64.wrap (strength + 1)), deep16, l, (IntKind.i64.wrap (c134 + 1)), names, c135, c136)).bind fun r180 =>
bif (strength == 7) then (
some ((Ex.mk r152 0 e147.2.2.2 ([(Ex.mk c137 c138 c139 c140), r180.1] : List Ex)), r180.2.1, r180.2.2.1, r180.2.2.2))
else (
again143 (r180.2.1, r180.2.2.1, r180.2.2.2, r152, 0, e147.2.2.2, ([(Ex.mk c137 c138 c139 c140), r180.1] : List Ex))))))
else (
some ((Ex.mk c137 c138 c139 c140), c134, c135, c136))
def fM (ae : Q13 → Option Q8) (strength : Int) (l : Q1) (at_ : Int) (names : Q6) (bad : Int) (place : Int) (r12 : Bool) (deep16 : Int) : Option Q8 :=
ab (decide (320 < deep16)) fun b17 =>
ab (r12 && b17) fun b19 =>
bif b19 then (
(aO 9 l at_ names bad place).bind fun r22 =>
some (r22.1, at_, r22.2.1, r22.2.2))
else (
(idx l at_).bind fun e30 =>
bif (strength == 6) then (
ab (fun (s91 : Int) => ck ae l at_ names bad place deep16 e30 s91) fun kk90 =>
ab (e30.1 == 3) fun b92 =>
ab (e30.2.1 == [33]) fun b94 =>
ab (b92 && b94) fun b96 =>
bif b96 then (
kk90 15)
else (
kk90 0))
else (
bif (strength == 10) then (
ab (e30.1 != 3) fun b100 =>
ab (e30.2.1 != [45]) fun b102 =>
ab (b100 || b102) fun b104 =>
bif b104 then (
(cO ae deep16 l at_ names bad place).bind fun r107 =>
some (r107.1, r107.2.1, r107.2.2.1, r107.2.2.2))
else (
(ae (10, deep16, l, (IntKind.i64.wrap (at_ + 1)), names, bad, place)).bind fun r114 =>
some ((Ex.mk 6 0 e30.2.2.2 ([r114.1] : List Ex)), r114.2.1, r114.2.2.1, r114.2.2.2)))
else (
(ae ((IntKind.i64.wrap (strength + 1)), deep16, l, at_, names, bad, place)).bind fun r125 =>
aj (cn ae strength l names deep16) al (r125.2.1, r125.2.2.1, r125.2.2.2, r125.1.op, r125.1.n, r125.1.at_, r125.1.l))))
def cz (ae : Q13 → Option Q8) (strength : Int) (deep : Int) (l : Q1) (at_ : Int) (names : Q6) (bad : Int) (place : Int) : Option Q8 :=
bif (bad != 0) then (
some ((Ex.mk 0 0 0 []), at_, bad, place))
else (
(ij strength).bind fun r12 =>
ab (fun (s195 : Int) => fM ae strength l at_ names bad place r12 s195) fun kk194 =>
bif r12 then (
kk194 (IntKind.i64.wrap (deep + 1)))
else (
kk194 deep))
def eN (strength : Int) (deep : Int) (l : Q1) (at_ : Int) (names : Q6) (bad : Int) (place : Int) : Option Q8 :=
 aj (fun k (s : Q13) => cz k s.1 s.2.1 s.2.2.1 s.2.2.2.1 s.2.2.2.2.1 s.2.2.2.2.2.1 s.2.2.2.2.2.2) al (strength, deep, l, at_, names, bad, place)
def dE (l : Q1) (at_ : Int) (names : Q6) : Option Q8 :=
(eN 1 0 l at_ names 0 0).bind fun r14 =>
bif (r14.2.2.1 != 0) then (
some ((Ex.mk 0 0 0 []), 0, r14.2.2.1, r14.2.2.2))
else (
some (r14.1, r14.2.1, 0, 0))
def nP (times10 : Int) (i11 : Int) (again12 : Q18 → Option Q9) (r20 : Q9) (ints25 : Int) (bools27 : Int) : Option Q9 :=
bif (r20.1 == 3) then (
again12 (ints25, bools27, (IntKind.i64.wrap (times10 + 1)), (IntKind.i64.wrap (i11 + 1))))
else (
again12 (ints25, bools27, times10, (IntKind.i64.wrap (i11 + 1))))
def j7 (bools9 : Int) (times10 : Int) (i11 : Int) (again12 : Q18 → Option Q9) (r20 : Q9) (ints25 : Int) : Option Q9 :=
ab (fun (s30 : Int) => nP times10 i11 again12 r20 ints25 s30) fun kk29 =>
bif (r20.1 == 2) then (
kk29 (IntKind.i64.wrap (bools9 + 1)))
else (
kk29 bools9)
def dO (dq : Ex → Option Q9) (e : Ex) (again12 : Q18 → Option Q9) : Int × Int × Int × Int → Option Q9 := fun ⟨ints8, bools9, times10, i11⟩ =>
bif (decide (i11 < (List.length e.l : Int))) then (
(idx e.l i11).bind fun e14 =>
(dq e14).bind fun r20 =>
bif (r20.2.1 != 0) then (
some (0, r20.2.1, r20.2.2))
else (
ab (fun (s33 : Int) => j7 bools9 times10 i11 again12 r20 s33) fun kk32 =>
bif (r20.1 == 1) then (
kk32 (IntKind.i64.wrap (ints8 + 1)))
else (
kk32 ints8)))
else (
ab (decide (e.op ≤ 6)) fun b35 =>
ab (ints8 == (List.length e.l : Int)) fun b37 =>
ab (b35 && b37) fun b39 =>
bif b39 then (
some (1, 0, 0))
else (
ab (decide (7 ≤ e.op)) fun b42 =>
ab (decide (e.op ≤ 12)) fun b44 =>
ab (b42 && b44) fun b46 =>
ab (ints8 == (List.length e.l : Int)) fun b48 =>
ab (b46 && b48) fun b50 =>
ab (e.op == 13) fun b52 =>
ab (b50 || b52) fun b54 =>
ab (e.op == 14) fun b56 =>
ab (b54 || b56) fun b58 =>
bif b58 then (
some (2, 0, 0))
else (
ab (decide (15 ≤ e.op)) fun b61 =>
ab (decide (e.op ≤ 19)) fun b63 =>
ab (b61 && b63) fun b65 =>
ab (bools9 == (List.length e.l : Int)) fun b67 =>
ab (b65 && b67) fun b69 =>
bif b69 then (
some (2, 0, 0))
else (
ab (decide (15 ≤ e.op)) fun b72 =>
ab ((IntKind.i64.wrap (bools9 + times10)) == (List.length e.l : Int)) fun b74 =>
ab (b72 && b74) fun b76 =>
bif b76 then (
some (3, 0, 0))
else (
some (0, 4, e.at_))))))
def fu (dq : Ex → Option Q9) (e : Ex) : Option Q9 :=
aj (dO dq e) al (0, 0, 0, 0)
def fe (e : Ex) : Option Q9 :=
 aj (fun k (s : Ex) => fu k s) al e
def sJ (times10 : Int) (i11 : Int) (again12 : Q18 → Option Q9) (r20 : Q9) (ints25 : Int) (bools27 : Int) : Option Q9 :=
bif (r20.1 == 3) then (
again12 (ints25, bools27, (IntKind.i64.wrap (times10 + 1)), (IntKind.i64.wrap (i11 + 1))))
else (
again12 (ints25, bools27, times10, (IntKind.i64.wrap (i11 + 1))))
def mo (bools9 : Int) (times10 : Int) (i11 : Int) (again12 : Q18 → Option Q9) (r20 : Q9) (ints25 : Int) : Option Q9 :=
ab (fun (s30 : Int) => sJ times10 i11 again12 r20 ints25 s30) fun kk29 =>
bif (r20.1 == 2) then (
kk29 (IntKind.i64.wrap (bools9 + 1)))
else (
kk29 bools9)
def rT (e : Ex) (again12 : Q18 → Option Q9) : Int × Int × Int × Int → Option Q9 := fun ⟨ints8, bools9, times10, i11⟩ =>
bif (decide (i11 < (List.length e.l : Int))) then (
(idx e.l i11).bind fun e14 =>
(fe e14).bind fun r20 =>
bif (r20.2.1 != 0) then (
some (0, r20.2.1, r20.2.2))
else (
ab (fun (s33 : Int) => mo bools9 times10 i11 again12 r20 s33) fun kk32 =>
bif (r20.1 == 1) then (
kk32 (IntKind.i64.wrap (ints8 + 1)))
else (
kk32 ints8)))
else (
ab (decide (e.op ≤ 6)) fun b35 =>
ab (ints8 == (List.length e.l : Int)) fun b37 =>
ab (b35 && b37) fun b39 =>
bif b39 then (
some (1, 0, 0))
else (
ab (decide (7 ≤ e.op)) fun b42 =>
ab (decide (e.op ≤ 12)) fun b44 =>
ab (b42 && b44) fun b46 =>
ab (ints8 == (List.length e.l : Int)) fun b48 =>
ab (b46 && b48) fun b50 =>
ab (e.op == 13) fun b52 =>
ab (b50 || b52) fun b54 =>
ab (e.op == 14) fun b56 =>
ab (b54 || b56) fun b58 =>
bif b58 then (
some (2, 0, 0))
else (
ab (decide (15 ≤ e.op)) fun b61 =>
ab (decide (e.op ≤ 19)) fun b63 =>
ab (b61 && b63) fun b65 =>
ab (bools9 == (List.length e.l : Int)) fun b67 =>
ab (b65 && b67) fun b69 =>
bif b69 then (
some (2, 0, 0))
else (
ab (decide (15 ≤ e.op)) fun b72 =>
ab ((IntKind.i64.wrap (bools9 + times10)) == (List.length e.l : Int)) fun b74 =>
ab (b72 && b74) fun b76 =>
bif b76 then (
some (3, 0, 0))
else (
some (0, 4, e.at_))))))
def fc (e : Ex) : Option Q9 :=
aj (rT e) al (0, 0, 0, 0)
def iG (r14 : Q8) (c32 : Int) (c33 : Int) : Option Q8 :=
some (r14.1, r14.2.1, c32, c33)
def bG (want : Int) (l : Q1) (at_ : Int) (Names : Q6) (Schema : Q7) (Init : Q11) (Procs : Q6) (Cmd : Q2) (bad : Int) (place : Int) : Option Q8 :=
bif (bad != 0) then (
some ((Ex.mk 0 0 0 []), at_, bad, place))
else (
(
(dE l at_ Names).bind fun r14 =>
bif (r14.2.2.1 != 0) then (
(ao r14.2.2.1 r14.2.2.2 l at_ Names Schema Init Procs Cmd bad place).bind fun r24 =>
some ((Ex.mk 0 0 0 []), at_, r24.1, r24.2))
else (
(fc r14.1).bind fun r28 =>
ab (fun (s37 : Int × Int) => iG r14 s37.1 s37.2) fun kk36 =>
bif (r28.2.1 != 0) then (
(ao r28.2.1 r28.2.2 l at_ Names Schema Init Procs Cmd bad place).bind fun r39 =>
kk36 (r39.1, r39.2))
else (
bif (r28.1 != want) then (
(ao 4 r14.1.at_ l at_ Names Schema Init Procs Cmd bad place).bind fun r43 =>
kk36 (r43.1, r43.2))
else (
kk36 (bad, place))))))
def dP (l : Q1) (Names : Q6) (Schema : Q7) (Init : Q11) (Procs : Q6) (Cmd : Q2) (l28 : Q12) (again32 : Q19 → Option Q15) (r47 : Int) (c66 : Int) (c67 : Int) (c69 : Int) : Option Q15 :=
(aR [61] l c69 Names Schema Init Procs Cmd c66 c67).bind fun r70 =>
(bG 1 l r70.1 Names Schema Init Procs Cmd r70.2.1 r70.2.2).bind fun r73 =>
chk (bu (List.length l28 + List.length ([(r47, r73.1)] : List Q21)) 56) <|
(bd 3 [44] l r73.2.1 Names Schema Init Procs Cmd r73.2.2.1 r73.2.2.2).bind fun r88 =>
bif r88 then (
again32 ((IntKind.i64.wrap (r73.2.1 + 1)), r73.2.2.1, r73.2.2.2, (l28 ++ ([(r47, r73.1)] : List Q21)), r88))
else (
again32 (r73.2.1, r73.2.2.1, r73.2.2.2, (l28 ++ ([(r47, r73.1)] : List Q21)), r88))
def dQ (l : Q1) (Names : Q6) (Schema : Q7) (Init : Q11) (Procs : Q6) (Cmd : Q2) (c25 : Int) (l28 : Q12) (again32 : Q19 → Option Q15) (r47 : Int) (c66 : Int) (c67 : Int) : Option Q15 :=
ab (fun (s94 : Int) => dP l Names Schema Init Procs Cmd l28 again32 r47 c66 c67 s94) fun kk93 =>
bif (c66 == 0) then (
kk93 (IntKind.i64.wrap (c25 + 1)))
else (
kk93 c25)
def bF (l : Q1) (Names : Q6) (Schema : Q7) (Init : Q11) (Procs : Q6) (Cmd : Q2) (c25 : Int) (c26 : Int) (c27 : Int) (l28 : Q12) (again32 : Q19 → Option Q15) (e40 : Q10) (r47 : Int) (again53 : (Bool × Int) → Option Q15) : Bool × Int → Option Q15 := fun ⟨twice51, k52⟩ =>
bif (decide (k52 < (List.length l28 : Int))) then (
ax (!twice51) (0, (Ex.mk 0 0 0 [])) (idx l28 k52) fun e55 =>
ab (e55.1 == r47) fun b61 =>
ab (twice51 || b61) fun b63 =>
again53 (b63, (IntKind.i64.wrap (k52 + 1))))
else (
ab (fun (s98 : Int × Int) => dQ l Names Schema Init Procs Cmd c25 l28 again32 r47 s98.1 s98.2) fun kk97 =>
bif (e40.1 != 1) then (
(ao 2 e40.2.2.2 l c25 Names Schema Init Procs Cmd c26 c27).bind fun r100 =>
kk97 (r100.1, r100.2))
else (
ab (decide (r47 < 0)) fun b103 =>
ab (b103 || twice51) fun b105 =>
bif b105 then (
(ao 3 e40.2.2.2 l c25 Names Schema Init Procs Cmd c26 c27).bind fun r108 =>
kk97 (r108.1, r108.2))
else (
kk97 (c26, c27))))
def cq (l : Q1) (Names : Q6) (Schema : Q7) (Init : Q11) (Procs : Q6) (Cmd : Q2) (r15 : Q8) (again32 : Q19 → Option Q15) : Int × Int × Int × Q12 × Bool → Option Q15 := fun ⟨c25, c26, c27, l28, more31⟩ =>
ab (c26 == 0) fun b33 =>
ab (more31 && b33) fun b35 =>
bif b35 then (
(idx l c25).bind fun e40 =>
(bR Names e40.2.1).bind fun r47 =>
aj (bF l Names Schema Init Procs Cmd c25 c26 c27 l28 again32 e40 r47) al (false, 0))
else (
(aR [59] l c25 Names Schema Init Procs Cmd c26 c27).bind fun r111 =>
chk (bu (List.length Cmd + List.length ([((IntKind.i64.wrap ((List.length Procs : Int) - 1)), r15.1, l28)] : List Q23)) 80) <|
some (r111.1, (Cmd ++ ([((IntKind.i64.wrap ((List.length Procs : Int) - 1)), r15.1, l28)] : List Q23)), r111.2.1, r111.2.2))
def dS (l : Q1) (at_ : Int) (Names : Q6) (Schema : Q7) (Init : Q11) (Procs : Q6) (Cmd : Q2) (c10 : Int) (c11 : Int) : Option Q15 :=
(bG 2 l at_ Names Schema Init Procs Cmd c10 c11).bind fun r15 =>
(aR [58] l r15.2.1 Names Schema Init Procs Cmd r15.2.2.1 r15.2.2.2).bind fun r21 =>
aj (cq l Names Schema Init Procs Cmd r15) al (r21.1, r21.2.1, r21.2.2, [], true)
def eM (l : Q1) (at_ : Int) (Names : Q6) (Schema : Q7) (Init : Q11) (Procs : Q6) (Cmd : Q2) (bad : Int) (place : Int) : Option Q15 :=
ab (fun (s124 : Int × Int) => dS l at_ Names Schema Init Procs Cmd s124.1 s124.2) fun kk123 =>
bif (decide (256 ≤ (List.length Cmd : Int))) then (
(aF l at_ Names Schema Init Procs Cmd bad place).bind fun r126 =>
(ao 9 r126 l at_ Names Schema Init Procs Cmd bad place).bind fun r129 =>
kk123 (r129.1, r129.2))
else (
kk123 (bad, place))
def ej (r6 : Bool) (c10 : Int) (e13 : Q10) (c19 : Int) (c20 : Int) : Option Q18 :=
bif (c19 != 0) then (
some (0, c10, c19, c20))
else (
bif r6 then (
some ((IntKind.i64.wrap (0 - e13.2.2.1)), (IntKind.i64.wrap (c10 + 1)), c19, c20))
else (
some (e13.2.2.1, (IntKind.i64.wrap (c10 + 1)), c19, c20)))
def ga (l : Q1) (Names : Q6) (Schema : Q7) (Init : Q11) (Procs : Q6) (Cmd : Q2) (bad : Int) (place : Int) (r6 : Bool) (c10 : Int) : Option Q18 :=
(idx l c10).bind fun e13 =>
ab (fun (s25 : Int × Int) => ej r6 c10 e13 s25.1 s25.2) fun kk24 =>
bif (e13.1 != 2) then (
(ao 2 e13.2.2.2 l c10 Names Schema Init Procs Cmd bad place).bind fun r27 =>
kk24 (r27.1, r27.2))
else (
kk24 (bad, place))
def cP (l : Q1) (at_ : Int) (Names : Q6) (Schema : Q7) (Init : Q11) (Procs : Q6) (Cmd : Q2) (bad : Int) (place : Int) : Option Q18 :=
(bd 3 [45] l at_ Names Schema Init Procs Cmd bad place).bind fun r6 =>
ab (fun (s31 : Int) => ga l Names Schema Init Procs Cmd bad place r6 s31) fun kk30 =>
bif r6 then (
kk30 (IntKind.i64.wrap (at_ + 1)))
else (
kk30 at_)
def jC (s : Q7) (again12 : Int → Option Bool) (i11 : Int) : Option Bool :=
bif (decide (i11 < (List.length s : Int))) then (
(idx s i11).bind fun e16 =>
(idx s i11).bind fun e18 =>
ab (decide (e18.2 < e16.1)) fun b20 =>
ax (!b20) (0, 0) (idx s i11) fun e22 =>
ab (decide (e22.1 < (-1073741824))) fun b24 =>
ab (b20 || b24) fun b26 =>
ax (!b26) (0, 0) (idx s i11) fun e28 =>
ab (decide (1073741824 < e28.2)) fun b30 =>
ab (b26 || b30) fun b32 =>
ax (!b32) (0, 0) (idx s i11) fun e34 =>
ax (!b32) (0, 0) (idx s i11) fun e36 =>
ab (decide (65535 < (IntKind.i64.wrap (e34.2 - e36.1)))) fun b38 =>
ab (b32 || b38) fun b40 =>
bif b40 then (
some false)
else (
again12 (IntKind.i64.wrap (i11 + 1))))
else (
some true)
def iO (s : Q7) : Option Bool :=
ab (decide ((List.length s : Int) < 1)) fun b3 =>
ab (decide (17 < (List.length s : Int))) fun b5 =>
ab (b3 || b5) fun b7 =>
bif b7 then (
some false)
else (
aj (jC s) al 0)
def fA (Names : Q6) (Schema : Q7) (Init : Q11) (r15 : (Str × Int × Int × Int)) (r21 : Q18) (r24 : Q18) (r27 : Q18) (r30 : Q9) (c42 : Int) (c43 : Int) : Option (Int × Q6 × Q7 × Q11 × Int × Int) :=
chk (bu (List.length Names + List.length ([r15.1] : List Str)) 16) <|
chk (bu (List.length Schema + List.length ([(r21.1, r24.1)] : List Q14)) 16) <|
chk (bu (List.length Init + List.length ([r27.1] : List Int)) 8) <|
some (r30.1, (Names ++ ([r15.1] : List Str)), (Schema ++ ([(r21.1, r24.1)] : List Q14)), (Init ++ ([r27.1] : List Int)), c42, c43)
def eE (l : Q1) (at_ : Int) (Names : Q6) (Schema : Q7) (Init : Q11) (Procs : Q6) (Cmd : Q2) (bad : Int) (place : Int) : Option (Int × Q6 × Q7 × Q11 × Int × Int) :=
(ez (decide (16 ≤ (List.length Names : Int))) l at_ Names Schema Init Procs Cmd bad place).bind fun r15 =>
(aF l r15.2.1 Names Schema Init Procs Cmd r15.2.2.1 r15.2.2.2).bind fun r18 =>
(cP l r15.2.1 Names Schema Init Procs Cmd r15.2.2.1 r15.2.2.2).bind fun r21 =>
(cP l r21.2.1 Names Schema Init Procs Cmd r21.2.2.1 r21.2.2.2).bind fun r24 =>
(cP l r24.2.1 Names Schema Init Procs Cmd r24.2.2.1 r24.2.2.2).bind fun r27 =>
(aR [59] l r27.2.1 Names Schema Init Procs Cmd r27.2.2.1 r27.2.2.2).bind fun r30 =>
(iO ([(r21.1, r24.1)] : List Q14)).bind fun r38 =>
ab (fun (s68 : Int × Int) => fA Names Schema Init r15 r21 r24 r27 r30 s68.1 s68.2) fun kk67 =>
ab (!r38) fun b69 =>
ab (decide (r27.1 < r21.1)) fun b71 =>
ab (b69 || b71) fun b73 =>
ab (decide (r24.1 < r27.1)) fun b75 =>
ab (b73 || b75) fun b77 =>
bif b77 then (
(ao 5 r18 l r30.1 Names Schema Init Procs Cmd r30.2.1 r30.2.2).bind fun r80 =>
kk67 (r80.1, r80.2))
else (
kk67 (r30.2.1, r30.2.2))
def eI (r17 : Q17) (l38 : Q6) (again46 : Q22 → Option Q20) (c69 : Q6) (c72 : Q7) (c75 : Q11) (r81 : (Str × Int × Int × Int)) (again105 : (Int × Q2 × Int × Int × Bool) → Option Q20) : Int × Q2 × Int × Int × Bool → Option Q20 := fun ⟨c98, c99, c102, c103, end104⟩ =>
ab (c102 == 0) fun b106 =>
ab (!end104) fun b108 =>
ab (b106 && b108) fun b110 =>
bif b110 then (
(eM r17.1 c98 c69 c72 c75 (l38 ++ ([r81.1] : List Str)) c99 c102 c103).bind fun r113 =>
(bd 3 [125] r17.1 r113.1 c69 c72 c75 (l38 ++ ([r81.1] : List Str)) r113.2.1 r113.2.2.1 r113.2.2.2).bind fun r118 =>
again105 (r113.1, r113.2.1, r113.2.2.1, r113.2.2.2, r118))
else (
(aR [125] r17.1 c98 c69 c72 c75 (l38 ++ ([r81.1] : List Str)) c99 c102 c103).bind fun r121 =>
again46 (r121.1, c69, c72, c75, (l38 ++ ([r81.1] : List Str)), c99, r121.2.1, r121.2.2))
def gB (r17 : Q17) (l38 : Q6) (l41 : Q2) (again46 : Q22 → Option Q20) (r59 : Bool) (c68 : Int) (c69 : Q6) (c72 : Q7) (c75 : Q11) (c78 : Int) (c79 : Int) : Option Q20 :=
bif r59 then (
(ez false r17.1 c68 c69 c72 c75 l38 l41 c78 c79).bind fun r81 =>
chk (bu (List.length l38 + List.length ([r81.1] : List Str)) 16) <|
(aR [123] r17.1 r81.2.1 c69 c72 c75 (l38 ++ ([r81.1] : List Str)) l41 r81.2.2.1 r81.2.2.2).bind fun r91 =>
(bd 3 [125] r17.1 r91.1 c69 c72 c75 (l38 ++ ([r81.1] : List Str)) l41 r91.2.1 r91.2.2).bind fun r94 =>
aj (eI r17 l38 again46 c69 c72 c75 r81) al (r91.1, l41, r91.2.1, r91.2.2, r94))
else (
again46 (c68, c69, c72, c75, l38, l41, c78, c79))
def gu (r17 : Q17) (l29 : Q6) (l32 : Q7) (l35 : Q11) (l38 : Q6) (l41 : Q2) (again46 : Q22 → Option Q20) (r56 : Bool) (r59 : Bool) (c63 : Int) (c64 : Int) (c66 : Int) : Option Q20 :=
ab (fun (s125 : Int × Q6 × Q7 × Q11 × Int × Int) => gB r17 l38 l41 again46 r59 s125.1 s125.2.1 s125.2.2.1 s125.2.2.2.1 s125.2.2.2.2.1 s125.2.2.2.2.2) fun kk124 =>
bif r56 then (
(eE r17.1 c66 l29 l32 l35 l38 l41 c63 c64).bind fun r127 =>
kk124 (r127.1, r127.2.1, r127.2.2.1, r127.2.2.2.1, r127.2.2.2.2.1, r127.2.2.2.2.2))
else (
kk124 (c66, l29, l32, l35, c63, c64))
def gA (r17 : Q17) (c28 : Int) (l29 : Q6) (l32 : Q7) (l35 : Q11) (l38 : Q6) (l41 : Q2) (again46 : Q22 → Option Q20) (r56 : Bool) (r59 : Bool) (c63 : Int) (c64 : Int) : Option Q20 :=
ab (fun (s137 : Int) => gu r17 l29 l32 l35 l38 l41 again46 r56 r59 c63 c64 s137) fun kk136 =>
bif (c63 == 0) then (
kk136 (IntKind.i64.wrap (c28 + 1)))
else (
kk136 c28)
def gq (l29 : Q6) (l32 : Q7) (l35 : Q11) (l38 : Q6) (l41 : Q2) (c156 : Int) (c157 : Int) : Option Q20 :=
bif (c156 != 0) then (
some (([], [], [], [], []), c156, c157))
else (
some ((l29, l32, l35, l38, l41), 0, 0))
def dF (r17 : Q17) (again46 : Q22 → Option Q20) : Int × Q6 × Q7 × Q11 × Q6 × Q2 × Int × Int → Option Q20 := fun ⟨c28, l29, l32, l35, l38, l41, c44, c45⟩ =>
ab (c44 == 0) fun b47 =>
ax b47 (0, [], 0, 0) (idx r17.1 c28) fun e49 =>
ab (e49.1 != 4) fun b51 =>
ab (b47 && b51) fun b53 =>
bif b53 then (
(bd 1 [118, 97, 114] r17.1 c28 l29 l32 l35 l38 l41 c44 c45).bind fun r56 =>
(bd 1 [112, 114, 111, 99] r17.1 c28 l29 l32 l35 l38 l41 c44 c45).bind fun r59 =>
ab (fun (s141 : Int × Int) => gA r17 c28 l29 l32 l35 l38 l41 again46 r56 r59 s141.1 s141.2) fun kk140 =>
ab (!r56) fun b142 =>
ab (!r59) fun b144 =>
ab (b142 && b144) fun b146 =>
bif b146 then (
(aF r17.1 c28 l29 l32 l35 l38 l41 c44 c45).bind fun r149 =>
(ao 2 r149 r17.1 c28 l29 l32 l35 l38 l41 c44 c45).bind fun r152 =>
kk140 (r152.1, r152.2))
else (
kk140 (c44, c45)))
else (
ab (fun (s164 : Int × Int) => gq l29 l32 l35 l38 l41 s164.1 s164.2) fun kk163 =>
bif ((List.length l29 : Int) == 0) then (
(aF r17.1 c28 l29 l32 l35 l38 l41 c44 c45).bind fun r166 =>
(ao 2 r166 r17.1 c28 l29 l32 l35 l38 l41 c44 c45).bind fun r169 =>
kk163 (r169.1, r169.2))
else (
kk163 (c44, c45)))
def cT (text : Str) : Option Q20 :=
(dZ text).bind fun r17 =>
bif (r17.2.1 != 0) then (
some (([], [], [], [], []), r17.2.1, r17.2.2))
else (
aj (dF r17) al (0, [], [], [], [], [], 0, 0))
def jN (a : Q6) (b : Q6) (again6 : Int → Option Bool) (i5 : Int) : Option Bool :=
bif (decide (i5 < (List.length a : Int))) then (
(idx a i5).bind fun e10 =>
(idx b i5).bind fun e12 =>
bif (e10 != e12) then (
some false)
else (
again6 (IntKind.i64.wrap (i5 + 1))))
else (
some true)
def dH (a : Q6) (b : Q6) : Option Bool :=
bif ((List.length a : Int) != (List.length b : Int)) then (
some false)
else (
aj (jN a b) al 0)
def kB (a : Q11) (b : Q11) (again6 : Int → Option Bool) (i5 : Int) : Option Bool :=
bif (decide (i5 < (List.length a : Int))) then (
(idx a i5).bind fun e10 =>
(idx b i5).bind fun e12 =>
bif (e10 != e12) then (
some false)
else (
again6 (IntKind.i64.wrap (i5 + 1))))
else (
some true)
def ib (a : Q11) (b : Q11) : Option Bool :=
bif ((List.length a : Int) != (List.length b : Int)) then (
some false)
else (
aj (kB a b) al 0)
def g7 (dp : (Ex × Ex) → Option Bool) (a : Ex) (b : Ex) (again20 : Int → Option Bool) (i19 : Int) : Option Bool :=
bif (decide (i19 < (List.length a.l : Int))) then (
(idx a.l i19).bind fun e24 =>
(idx b.l i19).bind fun e30 =>
(dp (e24, e30)).bind fun r36 =>
bif (!r36) then (
some false)
else (
again20 (IntKind.i64.wrap (i19 + 1))))
else (
some true)
def ec (dp : (Ex × Ex) → Option Bool) (a : Ex) (b : Ex) : Option Bool :=
ab (a.op != b.op) fun b7 =>
ab (a.n != b.n) fun b9 =>
ab (b7 || b9) fun b11 =>
ab ((List.length a.l : Int) != (List.length b.l : Int)) fun b13 =>
ab (b11 || b13) fun b15 =>
bif b15 then (
some false)
else (
aj (g7 dp a b) al 0)
def fa (a : Ex) (b : Ex) : Option Bool :=
 aj (fun k (s : (Ex × Ex)) => ec k s.1 s.2) al (a, b)
def gX (a : Q5) (b : Q5) (i47 : Int) (again48 : Int → Option Bool) (again118 : Int → Option Bool) (k117 : Int) : Option Bool :=
(idx a.2.2.2.2 i47).bind fun e119 =>
bif (decide (k117 < (List.length e119.2.2 : Int))) then (
(idx a.2.2.2.2 i47).bind fun e130 =>
(idx e130.2.2 k117).bind fun e138 =>
(idx b.2.2.2.2 i47).bind fun e144 =>
(idx e144.2.2 k117).bind fun e152 =>
(fa e138.2 e152.2).bind fun r158 =>
ab (!r158) fun b163 =>
ax (!b163) (0, (Ex.mk 0 0 0 []), []) (idx a.2.2.2.2 i47) fun e165 =>
ax (!b163) (0, (Ex.mk 0 0 0 [])) (idx e165.2.2 k117) fun e173 =>
ax (!b163) (0, (Ex.mk 0 0 0 []), []) (idx b.2.2.2.2 i47) fun e179 =>
ax (!b163) (0, (Ex.mk 0 0 0 [])) (idx e179.2.2 k117) fun e187 =>
ab (e173.1 != e187.1) fun b193 =>
ab (b163 || b193) fun b195 =>
bif b195 then (
some false)
else (
again118 (IntKind.i64.wrap (k117 + 1))))
else (
again48 (IntKind.i64.wrap (i47 + 1)))
def g6 (a : Q5) (b : Q5) (again48 : Int → Option Bool) (i47 : Int) : Option Bool :=
bif (decide (i47 < (List.length a.2.2.2.2 : Int))) then (
(idx a.2.2.2.2 i47).bind fun e52 =>
(idx b.2.2.2.2 i47).bind fun e60 =>
(fa e52.2.1 e60.2.1).bind fun r68 =>
ab (!r68) fun b73 =>
ax (!b73) (0, (Ex.mk 0 0 0 []), []) (idx a.2.2.2.2 i47) fun e75 =>
ax (!b73) (0, (Ex.mk 0 0 0 []), []) (idx b.2.2.2.2 i47) fun e83 =>
ab (e75.1 != e83.1) fun b91 =>
ab (b73 || b91) fun b93 =>
ax (!b93) (0, (Ex.mk 0 0 0 []), []) (idx a.2.2.2.2 i47) fun e95 =>
ax (!b93) (0, (Ex.mk 0 0 0 []), []) (idx b.2.2.2.2 i47) fun e103 =>
ab ((List.length e95.2.2 : Int) != (List.length e103.2.2 : Int)) fun b111 =>
ab (b93 || b111) fun b113 =>
bif b113 then (
some false)
else (
aj (gX a b i47 again48) al 0))
else (
some true)
def gZ (a : Q5) (b : Q5) (again37 : Int → Option Bool) (i36 : Int) : Option Bool :=
bif (decide (i36 < (List.length a.2.1 : Int))) then (
(idx a.2.1 i36).bind fun e41 =>
(idx b.2.1 i36).bind fun e43 =>
bif (!(yA e41.1 e41.2 e43.1 e43.2)) then (
some false)
else (
again37 (IntKind.i64.wrap (i36 + 1))))
else (
aj (g6 a b) al 0)
def gJ (a : Q5) (b : Q5) : Option Bool :=
(dH a.1 b.1).bind fun r7 =>
(dH a.2.2.2.1 b.2.2.2.1).bind fun r10 =>
(ib a.2.2.1 b.2.2.1).bind fun r13 =>
ab (!r7) fun b16 =>
ab (!r10) fun b18 =>
ab (b16 || b18) fun b20 =>
ab (!r13) fun b22 =>
ab (b20 || b22) fun b24 =>
ab ((List.length a.2.1 : Int) != (List.length b.2.1 : Int)) fun b26 =>
ab (b24 || b26) fun b28 =>
ab ((List.length a.2.2.2.2 : Int) != (List.length b.2.2.2.2 : Int)) fun b30 =>
ab (b28 || b30) fun b32 =>
bif b32 then (
some false)
else (
aj (gZ a b) al 0)
def iY (cM : (Ex × Ex) → Option Bool) (a : Ex) (b : Ex) (again24 : Int → Option Bool) (i23 : Int) : Option Bool :=
bif (decide (i23 < (List.length a.l : Int))) then (
(idx a.l i23).bind fun e28 =>
(idx b.l i23).bind fun e34 =>
(cM (e28, e34)).bind fun r40 =>
bif (!r40) then (
some false)
else (
again24 (IntKind.i64.wrap (i23 + 1))))
else (
some true)
def dG (cM : (Ex × Ex) → Option Bool) (a : Ex) (b : Ex) : Option Bool :=
ab (a.at_ != b.at_) fun b7 =>
ab (a.op != b.op) fun b9 =>
ab (b7 || b9) fun b11 =>
ab (a.n != b.n) fun b13 =>
ab (b11 || b13) fun b15 =>
ab ((List.length a.l : Int) != (List.length b.l : Int)) fun b17 =>
ab (b15 || b17) fun b19 =>
bif b19 then (
some false)
else (
aj (iY cM a b) al 0)
def ea (a : Ex) (b : Ex) : Option Bool :=
 aj (fun k (s : (Ex × Ex)) => dG k s.1 s.2) al (a, b)
def fP (a : Q5) (b : Q5) (i9 : Int) (again10 : Int → Option Bool) (again59 : Int → Option Bool) (k58 : Int) : Option Bool :=
(idx a.2.2.2.2 i9).bind fun e60 =>
bif (decide (k58 < (List.length e60.2.2 : Int))) then (
(idx a.2.2.2.2 i9).bind fun e71 =>
(idx e71.2.2 k58).bind fun e79 =>
(idx b.2.2.2.2 i9).bind fun e85 =>
(idx e85.2.2 k58).bind fun e93 =>
(ea e79.2 e93.2).bind fun r99 =>
bif (!r99) then (
some false)
else (
again59 (IntKind.i64.wrap (k58 + 1))))
else (
again10 (IntKind.i64.wrap (i9 + 1)))
def jb (a : Q5) (b : Q5) (again10 : Int → Option Bool) (i9 : Int) : Option Bool :=
bif (decide (i9 < (List.length a.2.2.2.2 : Int))) then (
(idx a.2.2.2.2 i9).bind fun e14 =>
(idx b.2.2.2.2 i9).bind fun e23 =>
(ea e14.2.1 e23.2.1).bind fun r31 =>
ab (!r31) fun b34 =>
ax (!b34) (0, (Ex.mk 0 0 0 []), []) (idx a.2.2.2.2 i9) fun e36 =>
ax (!b34) (0, (Ex.mk 0 0 0 []), []) (idx b.2.2.2.2 i9) fun e44 =>
ab ((List.length e36.2.2 : Int) != (List.length e44.2.2 : Int)) fun b52 =>
ab (b34 || b52) fun b54 =>
bif b54 then (
some false)
else (
aj (fP a b i9 again10) al 0))
else (
some true)
def ig (a : Q5) (b : Q5) : Option Bool :=
bif ((List.length a.2.2.2.2 : Int) != (List.length b.2.2.2.2 : Int)) then (
some false)
else (
aj (jb a b) al 0)
def fw (a : Str) (b : Str) : Option Bool :=
(ly).bind fun r3 =>
ab (decide (800 < (List.length a : Int))) fun b6 =>
ab (decide (800 < (List.length b : Int))) fun b8 =>
ab (b6 || b8) fun b10 =>
bif b10 then (
some r3)
else (
(fp a).bind fun r13 =>
(cT a).bind fun r29 =>
(fp b).bind fun r45 =>
(cT b).bind fun r61 =>
ax r3 default (gJ r13.1 r29.1) fun r79 =>
ab (r3 && r79) fun b85 =>
ab (r13.2.1 == r29.2.1) fun b87 =>
ab (b85 && b87) fun b89 =>
ab (r13.2.2 == r29.2.2) fun b91 =>
ab (b89 && b91) fun b93 =>
ax b93 default (ig r13.1 r29.1) fun r95 =>
ab (b93 && r95) fun b101 =>
ab (r45.2.1 == r61.2.1) fun b103 =>
ab (b101 && b103) fun b105 =>
ax b105 default (mD r13.1 r45.1) fun r107 =>
ax b105 default (gJ r29.1 r61.1) fun r113 =>
ab (r107 == r113) fun b119 =>
ab (b105 && b119) fun b121 =>
some b121)
end
end Go.Proofs.YtdhgpnejphlfpaaGreatDoor
