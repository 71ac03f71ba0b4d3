/-
  Own texts for the statement LassoWalks, cut down to what it needs: B11, B12, B13, B14, B15, B16, B24, B25, B30, B17, B23. (cut and joined by a program)
-/
import Derived.Test.YtpnogcmollnjeaaGreatDoorLassoWalksA
import Derived.Test.YtpnogcmollnjeaaGreatDoorLassoWalksB
namespace Go.Proofs.YtpnogcmollnjeaaGreatDoor
open Go.Lib
noncomputable def both {R : Type} (a b : Option R) : Option R := open Classical in if a = b then a else none
theorem zX {R : Type} {a b : Option R} {r : R} (h : both a b = some r) : a = some r ∧ b = some r := by
 unfold both at h
 split at h
 ·rename_i e; exact ⟨h, e ▸ h⟩
 ·cases h
inductive Sh where
 | l
 | b (x y : Sh)
noncomputable def duE : Sh → (R : Type) → Option R → Option R
 | .l, _, a => a
 | .b x y, R, a => both (duE x R a) (duE y R a)
theorem Cv {R : Type} {a : Option R} : (s : Sh) → duE s R a = a
 | .l => rfl
 | .b x y => by
  show both (duE x R a) (duE y R a) = a
  rw [Cv x, Cv y]
  unfold both
  simp
theorem eB : duE = fun _ _ a => a := funext fun s => funext fun _ => funext fun _ => Cv s
noncomputable def zA {α R : Type} (l : List α) (k1 k0 : Option R) : Option R := match l with
 | [] => both k1 k0
 | _ :: _ => k0
theorem Ab {α R : Type} {l : List α} {k1 k0 : Option R} {r : R} (h : zA l k1 k0 = some r) : k0 = some r ∧ (l = [] → k1 = some r) := by
 unfold zA at h
 split at h
 ·obtain ⟨h1, h2⟩ := zX h; exact ⟨h2, fun _ => h1⟩
 ·exact ⟨h, fun e => by cases e⟩
section
variable {X : Cx} {R : Type} {r : R} {K : Go_ R} {T : Tbl} {fr : Fr} {st : StB} {g : GK} {d : Tmp} {ρ : Nms} {Φ : Ctx} {w : World} {ty : TypeId} {pos : String} {af : Array Edge} {gd : Option (Nat × Bool)}
def Gj (X : Cx) (st : StB) (d : Tmp) (t : TypeId) (K : Go_ R) : Option R := match yX X.P t with
 | some p => (match ux X.tys p.1 with
  | some k => (match ux X.tys p.2 with
   | some v => K { st with c := st.c + 1, E := bH (some d) none (.mp st.c) st.E, G := .mp st.c k v (some []) :: st.G }
   | none => none)
  | none => none)
 | none => none
theorem J5 {t : TypeId} (hl : st.low fr = true) (hs : Sat (items ρ T st.G ++ (items ρ T fr.H ++ Φ)) w) (h : Gj X st d t K = some r) :
  Ok2 X.P T none (ai ρ T st.E fr.F) ⟨some d, .makeMap t none, ty, pos, af, gd⟩ w (aB r K T fr st none (some d) ρ Φ) := by
 unfold Gj at h
 split at h
 ·rename_i p hp
  split at h
  ·rename_i k hk
   split at h
   ·rename_i v hv
    have hrun : jZ X.P (ai ρ T st.E fr.F) ⟨some d, .makeMap t none, ty, pos, af, none⟩ w (.map (some w.heap.size)) (w.alloc (.map #[] 0)) := fun n a hf => by simp [execOp, Instr.makeMap]
    refine .none_ (aO.gd (aO.jG hrun (aB.push (x := { nm0 with m := some w.heap.size }) hl h (by simp only [AV.val, Nms.bc]) ?_)))
    simp only [Row.item, Nms.bc]
    exact hs.push (dF _ _) (fun b hb => by
     have : b = w.heap.size := by simpa [omap, rQ] using hb
     subst this
     exact ⟨by show _ < (w.heap.push _).size; simp, Nat.le_refl _⟩) (fun M' m => .inr ⟨_, #[], 0, [], rfl, rfl, by show (w.heap.push _)[w.heap.size]? = _; simp, rfl⟩)
   ·cases h
  ·cases h
 ·cases h
def Gh (X : Cx) (T : Tbl) (fr : Fr) (st : StB) (t : TypeId) (x y z : Operand) (K : Go_ R) : Option R := match yX X.P t with
 | some p => (match opA T st.E fr.F none x with
  | some (.mp id) => (match jO (FX id) st.G with
   | some (j, .mp _ k v md) => (match opA T st.E fr.F none y with
    | some kv => (match opA T st.E fr.F none z with
     | some vv => (match B9 k kv with
      | some key => (match B9 v vv with
       | some val => ifS ( FI X.P p.1 k ) ( md.bind fun l => K { st with G := st.G.set j (.mp id k v (some (lZ l key val))) } ) none
       | none => none)
      | none => none)
     | none => none)
    | none => none)
   | _ => none)
  | _ => none)
 | none => none
theorem KC {t : TypeId} {x y z : Operand} (hs : Sat (items ρ T st.G ++ (items ρ T fr.H ++ Φ)) w) (h : Gh X T fr st t x y z K = some r) :
  Ok2 X.P T none (ai ρ T st.E fr.F) ⟨none, .mapUpdate t x y z, ty, pos, af, gd⟩ w (aB r K T fr st none none ρ Φ) := by
 unfold Gh at h
 split at h
 ·rename_i p hp
  split at h
  ·rename_i id hx
   split at h
   ·rename_i j id' k v md hf
    split at h
    ·rename_i kv hy
     split at h
     ·rename_i vv hz
      split at h
      ·rename_i key hkey
       split at h
       ·rename_i val hval
        obtain ⟨h1, h2⟩ := ar h
        obtain ⟨l, hmd, h3⟩ := nL h2
        subst hmd
        obtain ⟨f1, f2⟩ := iT hf
        have : id' = id := Nat.eq_of_beq_eq_true f2
        subst this
        have hx' := bd (ρ := ρ) hx
        have hy' := bd (ρ := ρ) hy
        have hz' := bd (ρ := ρ) hz
        simp only [AV.val] at hx'
        rw [yZ hkey] at hy'
        rw [yZ hval] at hz'
        have hi := eI (ρ := ρ) (T := T) (Φ := items ρ T fr.H ++ Φ) f1
        obtain ⟨w', hr, hC, hsz, hm⟩ := yv (P := X.P) (E := ai ρ T st.E fr.F) (w := w) (ty := ty) (pos := pos) (af := af) (zF h1) (mA hp) hx' hy' hz' (hs.omap hi)
        refine .none_ (aO.gd (aO.FU hr (aB.old (av := .raw undef) h3 (Nat.le_refl _) rfl (by simp only [AV.val]) ?_)))
        have hj : j < st.G.length := (List.getElem?_eq_some_iff.1 f1).1
        show Sat (items ρ T (st.G.set j _) ++ _) _
        rw [dS hj]
        exact hs.upd hi hC (fun b hb => ⟨hm.lt b hb, .inl hb⟩) (fun M' m _ => hm)
       ·cases h
      ·cases h
     ·cases h
    ·cases h
   ·cases h
  ·cases h
 ·cases h
def Ji (X : Cx) (T : Tbl) (fr : Fr) (st : StB) (d : Tmp) (t : TypeId) (x : Operand) (K : Go_ R) : Option R := match opA T st.E fr.F none x with
 | some (.str s) => ifS ( isStr X.P t ) ( K { st with c := st.c + 1, E := bH (some d) none (.ptr st.c 0) st.E, G := .it st.c s 0 :: st.G } ) none
 | _ => none
theorem Ng {t : TypeId} {x : Operand} (hl : st.low fr = true) (hs : Sat (items ρ T st.G ++ (items ρ T fr.H ++ Φ)) w) (h : Ji X T fr st d t x K = some r) :
  Ok2 X.P T none (ai ρ T st.E fr.F) ⟨some d, .range t x, ty, pos, af, gd⟩ w (aB r K T fr st none (some d) ρ Φ) := by
 unfold Ji at h
 split at h
 ·rename_i s hx
  obtain ⟨h1, h2⟩ := ar h
  have hx' := bd (ρ := ρ) hx
  simp only [AV.val] at hx'
  have hrun : jZ X.P (ai ρ T st.E fr.F) ⟨some d, .range t x, ty, pos, af, none⟩ w (.pointer (some ⟨w.heap.size, 0, none⟩)) (w.alloc (.stringIter ⟨s.toArray⟩ 0)) := fun n' a hf => by
   simp [execOp, hx' n' a hf rfl, Instr.range, run_underlying (jC h1), S]
  refine .none_ (aO.gd (aO.jG hrun (aB.push (x := { nm0 with b := w.heap.size }) hl h2 (by simp only [AV.val, Nms.bc]) ?_)))
  simp only [Row.item, Nms.bc]
  exact hs.push (dF _ _) (fun b hb => by
   have : b = w.heap.size := by simpa [iter] using hb
   subst this; simp) (fun _ _ => heap_alloc_new w _)
 ·cases h
def Kz (T : Tbl) (fr : Fr) (st : StB) (d : Tmp) (x : Operand) (K : Go_ R) : Option R := match opA T st.E fr.F none x with
 | some (.ptr id 0) => (match jO (Ny id) st.G with
  | some (j, .it _ s p) => cond (decide (p < s.length)) (K { st with E := bH (some d) none (.tuple [.bool true, .int .i64 (p : Int), .int .i32 (tI s p)]) st.E, G := st.G.set j (.it id s (jc s p)) })
   (K { st with E := bH (some d) none (.tuple [.bool false]) st.E })
  | _ => none)
 | _ => none
theorem LI {x : Operand} (hs : Sat (items ρ T st.G ++ (items ρ T fr.H ++ Φ)) w) (h : Kz T fr st d x K = some r) :
  Ok2 X.P T none (ai ρ T st.E fr.F) ⟨some d, .next x true, ty, pos, af, gd⟩ w (aB r K T fr st none (some d) ρ Φ) := by
 unfold Kz at h
 split at h
 ·rename_i id hx
  split at h
  ·rename_i j id' s p hf
   obtain ⟨f1, f2⟩ := iT hf
   have : id' = id := Nat.eq_of_beq_eq_true f2
   subst this
   have hx' := bd (ρ := ρ) hx
   simp only [AV.val] at hx'
   have hi := eI (ρ := ρ) (T := T) (Φ := items ρ T fr.H ++ Φ) f1
   have hI : xu w (ρ id').b s p := hs.iter hi
   have hg : (getObj (ρ id').b).run X.P w = .ok (.stringIter ⟨s.toArray⟩ p) w := by
    simp only [getObj, Sem.run]; rw [hI]
   rcases oF h with ⟨hq, h2⟩ | ⟨hq, h2⟩
   ·have hq' : p < s.length := by simpa using hq
    have hlt := (Array.getElem?_eq_some_iff.1 hI).1
    have hIt : xu { w with heap := w.heap.setIfInBounds (ρ id').b (.stringIter ⟨s.toArray⟩ (jc s p)) } (ρ id').b s (jc s p) := by
     show (w.heap.setIfInBounds (ρ id').b _)[(ρ id').b]? = _
     rw [Array.getElem?_setIfInBounds_self_of_lt hlt]
    have hC : Chg [(ρ id').b] w { w with heap := w.heap.setIfInBounds (ρ id').b (.stringIter ⟨s.toArray⟩ (jc s p)) } := ⟨rfl, rfl, rfl, by show w.heap.size ≤ (w.heap.setIfInBounds (ρ id').b _).size; simp, fun c _ hcb => by
     show (w.heap.setIfInBounds (ρ id').b _)[c]? = _
     have hne : c ≠ (ρ id').b := by simpa using hcb
     rw [Array.getElem?_setIfInBounds_ne (Ne.symm hne)]⟩
    have hst : (setObj (ρ id').b (.stringIter ⟨s.toArray⟩ (jc s p))).run X.P w = .ok () { w with heap := w.heap.setIfInBounds (ρ id').b (.stringIter ⟨s.toArray⟩ (jc s p)) } := by
     simp only [setObj, Sem.run]; rw [hI]
    have hsz : p < (⟨s.toArray⟩ : ByteArray).size := by rw [gP]; exact hq'
    have e1 : jc s p = p + (Utf8.decode ⟨s.toArray⟩ p).2 := rfl
    have hrun : jZ X.P (ai ρ T st.E fr.F) ⟨some d, .next x true, ty, pos, af, none⟩ w (.tuple #[.bool true, .int .i64 (p : Int), .int .i32 (tI s p)]) { w with heap := w.heap.setIfInBounds (ρ id').b (.stringIter ⟨s.toArray⟩ (jc s p)) } := fun n' a hf => by
     rw [e1] at hst ⊢
     simp only [execOp, hx' n' a hf rfl, Instr.next, Sem.run_bind, hg, Result.andThen_ok, if_pos hsz, Sem.run_pure, hst, goInt]
     rfl
    refine .none_ (aO.gd (aO.jG hrun (aB.old (av := .tuple [.bool true, .int .i64 (p : Int), .int .i32 (tI s p)]) h2 (Nat.le_refl _) rfl (by simp only [AV.val, AV.ae]) ?_)))
    have hj : j < st.G.length := (List.getElem?_eq_some_iff.1 f1).1
    show Sat (items ρ T (st.G.set j _) ++ _) _
    rw [dS hj]
    exact hs.upd hi hC (fun c hc => by
     have : c = (ρ id').b := by simpa [Row.item, Go.Proofs.YtpnogcmollnjeaaGreatDoor.iter] using hc
     subst this; exact ⟨(Array.getElem?_eq_some_iff.1 hIt).1, .inl (by simp [Row.item, Go.Proofs.YtpnogcmollnjeaaGreatDoor.iter])⟩) (fun _ _ _ => hIt)
   ·have hq' : ¬ p < s.length := by simpa using hq
    have hrun : jZ X.P (ai ρ T st.E fr.F) ⟨some d, .next x true, ty, pos, af, none⟩ w (.tuple #[.bool false]) w := fun n' a hf => by
     have hsz : ¬ p < (⟨s.toArray⟩ : ByteArray).size := by rw [gP]; exact hq'
     simp only [execOp, hx' n' a hf rfl, Instr.next, Sem.run_bind, hg, Result.andThen_ok, if_neg hsz, Sem.run_pure]
    exact .none_ (aO.gd (aO.jG hrun (aB.old (av := .tuple [.bool false]) h2 (Nat.le_refl _) rfl (by simp only [AV.val, AV.ae]) hs)))
  ·cases h
 ·cases h
def Le (X : Cx) (T : Tbl) (fr : Fr) (st : StB) (g : GK) (d : Tmp) (s dt : TypeId) (x : Operand) (K : Go_ R) : Option R := match opA T st.E fr.F g x with
 | some (.str l) => ifS ( isStr X.P s ) ( match fB X.P dt with
  | some e => (match tyK X.P e with
   | some .u8 => K { st with c := st.c + 1, E := bH (some d) g (.sl st.c) st.E, G := .sli g st.c (.i .u8) (bytesOf l) false :: st.G }
   | _ => none)
  | none => none ) none
 | _ => none
theorem MB {s dt : TypeId} {x : Operand} (hl : st.low fr = true) (hs : Sat (items ρ T st.G ++ (items ρ T fr.H ++ Φ)) w) (h : Le X T fr st g d s dt x K = some r) :
  Ok2 X.P T g (ai ρ T st.E fr.F) ⟨some d, .convert s dt x, ty, pos, af, gd⟩ w (aB r K T fr st g (some d) ρ Φ) := by
 unfold Le at h
 split at h
 ·rename_i l hx
  obtain ⟨h1, h2⟩ := ar h
  split at h2
  ·rename_i e he
   split at h2
   ·rename_i hk
    have hx' := ax (ρ := ρ) hx
    simp only [AV.val] at hx'
    refine ⟨fun hg => ?_, fun hg => ?_⟩
    ·rw [hg] at hx'
     obtain ⟨v', w', hr, hE, hlt, hO⟩ := La (P := X.P) (E := ai ρ T st.E fr.F) (w := w) (dst := some d) (ty := ty) (pos := pos) (af := af) (jC h1) (bw he) (yp hk) hx'
     have hf := hO (Ctx.M (items ρ T st.G ++ (items ρ T fr.H ++ Φ))) (fun hm => by have := hs.lt hm; omega)
     obtain ⟨p, rfl⟩ := hf.jh
     refine aO.gd (aO.jG hr (aB.push (x := { nm0 with v := p }) hl h2 (by simp only [AV.val, Nms.bc]) ((hs.ext hE).add rfl ?_)))
     simp only [Row.item, Nms.bc]
     exact fun _ => ⟨hf, fun hb => by cases hb⟩
    ·exact ⟨_, aB.push (x := nm0) hl h2 rfl (hs.add rfl fun h => by rw [hg] at h; cases h)⟩
   ·cases h2
  ·cases h2
 ·cases h
noncomputable def IW (X : Cx) (T : Tbl) (fr : Fr) (st : StB) (d : Tmp) (op : BinOp) (t : TypeId) (x y : Operand) (K : Go_ R) : Option R := match fB X.P t with
 | some _ => (match opA T st.E fr.F none x with
  | some (.sl id) => (match opA T st.E fr.F none y with
   | some (.raw (.slice none 0 0)) => (match slA st.G fr.H id with
    | some ⟨none, _, l⟩ => (match op with
     | .eql => zA l (K { st with E := bH (some d) none (.bool true) st.E }) (K { st with E := bH (some d) none (.bool false) st.E })
     | .neq => zA l (K { st with E := bH (some d) none (.bool false) st.E }) (K { st with E := bH (some d) none (.bool true) st.E })
     | _ => none)
    | _ => none)
   | _ => none)
  | _ => none)
 | none => none
theorem MQ {op : BinOp} {t t' : TypeId} {x y : Operand} (hs : Sat (items ρ T st.G ++ (items ρ T fr.H ++ Φ)) w) (h : IW X T fr st d op t x y K = some r) :
  Ok2 X.P T none (ai ρ T st.E fr.F) ⟨some d, .binOp op t x y t', ty, pos, af, gd⟩ w (aB r K T fr st none (some d) ρ Φ) := by
 unfold IW at h
 split at h
 ·rename_i e he
  split at h
  ·rename_i id hx
   split at h
   ·rename_i hy
    split at h
    ·rename_i u l hsl
     have hx' := bd (ρ := ρ) hx
     have hy' := bd (ρ := ρ) hy
     simp only [AV.val] at hx' hy'
     have hlen := yJ hs hsl Tbl.get_none
     have hcase : (kh (sl (ρ id).v) = true ∧ l = []) ∨ kh (sl (ρ id).v) = false := by
      rcases C5 hs hsl Tbl.get_none with hS | ⟨e', hO⟩
      ·rcases DV hS with ⟨h1, h2⟩ | h1
       ·exact .inl ⟨by rw [h1]; rfl, h2⟩
       ·exact .inr h1
      ·exact Ed hO
     have mk : ∀ b : Bool, K { st with E := bH (some d) none (.bool b) st.E } = some r → aB r K T fr st none (some d) ρ Φ (.bool b) w := fun b hb => aB.old (av := .bool b) hb (Nat.le_refl _) rfl (by simp only [AV.val]) hs
     split at h
     ·obtain ⟨k0, k1⟩ := Ab h
      refine .none_ (aO.gd (aO.run (DL (bw he) hx' hlen hy') ?_))
      rcases hcase with ⟨c1, c2⟩ | c1
      ·rw [c1]; exact mk _ (k1 c2)
      ·rw [c1]; exact mk _ k0
     ·obtain ⟨k0, k1⟩ := Ab h
      refine .none_ (aO.gd (aO.run (D6 (bw he) hx' hlen hy') ?_))
      rcases hcase with ⟨c1, c2⟩ | c1
      ·rw [c1]; exact mk _ (k1 c2)
      ·rw [c1]; exact mk _ k0
     ·cases h
    ·cases h
   ·cases h
  ·cases h
 ·cases h
def FY (i : Int) (m : Nat) (k : Nat → Option R) : Nat → Nat → Option R
 | 0, _ => none
 | n + 1, j => cond (i == (j : Int)) (k (j * m)) (FY i m k n (j + 1))
theorem zW {i : Int} {m : Nat} {k : Nat → Option R} : ∀ {n j : Nat}, FY i m k n j = some r → ∃ q, j ≤ q ∧ q < j + n ∧ i = (q : Int) ∧ k (q * m) = some r
 | 0, j, h => by cases h
 | n + 1, j, h => by
  unfold FY at h
  rcases oF h with ⟨h1, h2⟩ | ⟨_, h2⟩
  ·exact ⟨j, Nat.le_refl _, by omega, by simpa using h1, h2⟩
  ·obtain ⟨q, q1, q2, q3, q4⟩ := zW h2
   exact ⟨q, by omega, by omega, q3, q4⟩
def II (X : Cx) (T : Tbl) (fr : Fr) (st : StB) (d : Tmp) (t : TypeId) (x y : Operand) (K : Go_ R) : Option R := match X.P.underlying t with
 | some (.array n e) => (match tiA X.P e with
  | some z => (match opA T st.E fr.F none x with
   | some (.ptr id off) => (match opA T st.E fr.F none y with
    | some (.int _ i) => FY i z.1 (fun k => K { st with E := bH (some d) none (.ptr id (off + k)) st.E }) n 0
    | _ => none)
   | _ => none)
  | none => none)
 | _ => none
theorem LZ {t : TypeId} {x y : Operand} (hs : Sat (items ρ T st.G ++ (items ρ T fr.H ++ Φ)) w) (h : II X T fr st d t x y K = some r) :
  Ok2 X.P T none (ai ρ T st.E fr.F) ⟨some d, .indexAddr t x y, ty, pos, af, gd⟩ w (aB r K T fr st none (some d) ρ Φ) := by
 unfold II at h
 split at h
 ·rename_i n e ht
  split at h
  ·rename_i z hz
   obtain ⟨m, bytes, z⟩ := z
   split at h
   ·rename_i id off hx
    split at h
    ·rename_i k i hy
     obtain ⟨q, _, q2, q3, q4⟩ := zW h
     have hx' := bd (ρ := ρ) hx
     have hy' := bd (ρ := ρ) hy
     simp only [AV.val] at hx' hy'
     have hout : aB r K T fr st none (some d) ρ Φ (.pointer (some ⟨(ρ id).b, off + q * m, none⟩)) w := aB.old (av := .ptr id (off + q * m)) q4 (Nat.le_refl _) rfl (by simp only [AV.val]) hs
     have hrun := oc (P := X.P) (w := w) (dst := some d) (ty := ty) (pos := pos) (af := af) (gd := none) ht (cn hz) hx' hy' (by
      intro _; subst q3; exact gC.2 ⟨by omega, by omega⟩)
     have e1 : ((⟨(ρ id).b, off, none⟩ : Addr).add (i.toNat * m)) = ⟨(ρ id).b, off + q * m, none⟩ := by rw [add_plain, q3]; rfl
     rw [e1] at hrun
     exact .none_ (aO.gd (aO.run hrun hout))
    ·cases h
   ·cases h
  ·cases h
 ·cases h
end
end Go.Proofs.YtpnogcmollnjeaaGreatDoor
namespace Go.Proofs.YtpnogcmollnjeaaGreatDoor
open Go.Lib
/-! tuples of holes -/
def Tup : List Ty → Type
 | [] => Unit
 | [t] => t.T
 | t :: u :: ts => t.T × Tup (u :: ts)
def unt : (ts : List Ty) → Tup ts → List Dyn
 | [], _ => []
 | [t], x => [⟨t, x⟩]
 | t :: u :: ts, x => ⟨t, x.1⟩ :: unt (u :: ts) x.2
def tup : (ts : List Ty) → List Dyn → Option (Tup ts)
 | [], D => (match D with
  | [] => some ()
  | _ => none)
 | [t], D => (match D with
  | [d] => d.as t
  | _ => none)
 | t :: u :: ts, D => (match D with
  | d :: D => (match d.as t with
   | some x => (match tup (u :: ts) D with
    | some y => some (x, y)
    | none => none)
   | none => none)
  | _ => none)
theorem qV : (ts : List Ty) → {D : List Dyn} → {s : Tup ts} → tup ts D = some s → unt ts s = D
 | [], D, s, h => by
  unfold tup at h
  split at h
  ·rfl
  ·cases h
 | [t], D, s, h => by
  match D, h with
  | [d], h => rw [Dyn.uK (t := t) (d := d) (x := s) h]; rfl
  | [], h => cases h
  | _ :: _ :: _, h => cases h
 | t :: u :: ts, D, s, h => by
  unfold tup at h
  split at h
  ·rename_i d D'
   split at h
   ·rename_i x hx
    split at h
    ·rename_i y hy
     cases h
     show ⟨t, x⟩ :: unt (u :: ts) y = _
     rw [qV (u :: ts) hy, Dyn.uK hx]
    ·cases h
   ·cases h
  ·cases h
def Gx : (ts : List Ty) → Tup ts
 | [] => ()
 | [t] => t.jH
 | t :: u :: ts => (t.jH, Gx (u :: ts))
mutual
def hol : Pt → List Ty
 | .int k => [.i k]
 | .bool => [.bo]
 | .str => [.s]
 | .sli t => [.l t]
 | .own t _ _ => [.l t]
 | .bx _ _ _ vs => jU vs
 | .mp k v _ => [.mp k v]
 | .it => [.s, .n]
 | .agg l => jU l
 | .tup l => jU l
 | .fn _ a b => jU a ++ jU b
 | .ifc _ p => hol p
 | .dat t _ => [t]
 | .sfp => [.bo]
 | _ => []
def jU : List Pt → List Ty
 | [] => []
 | p :: l => hol p ++ jU l
end
def ek : List (Bool × Nat × Pt) → List Ty
 | [] => []
 | x :: l => hol x.2.2 ++ ek l
/-! what forms say -/
abbrev Fx := Option (Value × List Value)
def sQ (fx : Fx) (v : Value) : Prop := ∀ p, fx = some p → v = p.1
def fxC (fx : Fx) : List Value := match fx with
 | some p => p.2
 | none => []
abbrev Its := List (Bool × Item)
abbrev Bxs := List (Nat × List Value)
def oe (e : Nat) : Nat := e / 2
def ow (e : Nat) : Bool := Nat.beq (e % 2) 1
def vO : (t : Ty) → t.T → List Value → List (Option TypeId) → List Nm → Its → List Nm → List (Option TypeId) → Prop
 | .i k, x, cs, o, N, I, N', o' => cs = [.int k x] ∧ I = [] ∧ N' = N ∧ o' = o
 | .bo, x, cs, o, N, I, N', o' => cs = [.bool x] ∧ I = [] ∧ N' = N ∧ o' = o
 | .s, x, cs, o, N, I, N', o' => cs = [S x] ∧ I = [] ∧ N' = N ∧ o' = o
 | .un, _, cs, o, N, I, N', o' => cs = [] ∧ I = [] ∧ N' = N ∧ o' = o
 | .p a b, x, cs, o, N, I, N', o' => ∃ c1 c2 N1 I1 I2 o1, vO a x.1 c1 o N I1 N1 o1 ∧ vO b x.2 c2 o1 N1 I2 N' o' ∧ cs = c1 ++ c2 ∧ I = I1 ++ I2
 | .l t, x, cs, o, N, I, N', o' => ∃ a : Nm, cs = [sl a.v] ∧ N' = N ++ [a] ∧ ((o = none :: o' ∧ I = [(false, tW true t.rep a.v x false)]) ∨ ∃ e, o = some e :: o' ∧ I = [(ow e, mH t.rep (oe e) a.v x True)] ∧ a.y = ⟨.l t, x⟩)
 | .ex, x, cs, o, N, I, N', o' => ∃ a : Nm, cs = [.int .i64 x.op, .int .i64 x.n, .int .i64 x.at_, sl a.v] ∧ N' = N ++ [a] ∧ ((o = none :: o' ∧ I = [(false, tW true rZ a.v x.l false)]) ∨ ∃ e, o = some e :: o' ∧ I = [(ow e, mH rZ (oe e) a.v x.l True)] ∧ a.y = ⟨.l .ex, x.l⟩)
 | _, _, _, _, _, _, _, _ => False
mutual
def Sem : Pt → Value → Fx → Option Value → List Nm → List Dyn → Its → Bxs → List Nm → Prop
 | .int k, v, _, _, N, D, I, X, N' => ∃ x, v = .int k x ∧ D = [⟨.i k, x⟩] ∧ I = [] ∧ X = [] ∧ N' = N
 | .bool, v, _, _, N, D, I, X, N' => ∃ x, v = .bool x ∧ D = [⟨.bo, x⟩] ∧ I = [] ∧ X = [] ∧ N' = N
 | .str, v, _, _, N, D, I, X, N' => ∃ x, v = S x ∧ D = [⟨.s, x⟩] ∧ I = [] ∧ X = [] ∧ N' = N
 | .sli t, v, _, _, N, D, I, X, N' => ∃ (a : Nm) (l : List t.T), v = sl a.v ∧ D = [⟨.l t, l⟩] ∧ I = [(false, tW true t.rep a.v l false)] ∧ X = [] ∧ N' = N ++ [a]
 | .own t e m, v, fx, _, N, D, I, X, N' => ∃ (a : Nm) (l : List t.T), v = sl a.v ∧ sQ fx v ∧ D = [⟨.l t, l⟩] ∧ I = [(m, mH t.rep e a.v l True)] ∧ X = [] ∧ N' = N ++ [a] ∧ a.y = ⟨.l t, l⟩
 | .slr n, v, _, _, N, D, I, X, N' => ∃ a : Nm, N[n]? = some a ∧ v = sl a.v ∧ D = [] ∧ I = [] ∧ X = [] ∧ N' = N
 | .bx t off m vs, v, fx, _, N, D, I, X, N' => ∃ (a : Nm) (cs : List Value) (I' : Its) (X' : Bxs), v = .pointer (some ⟨a.b, off, none⟩) ∧ sQ fx v ∧ lP vs cs (fxC fx) (N ++ [a]) D I' X' N' ∧ I = (m, box a.b t cs) :: I' ∧ X = (ifS m [(N.length, cs)] []) ++ X'
 | .ptr n off, v, _, _, N, D, I, X, N' => ∃ a : Nm, N[n]? = some a ∧ v = .pointer (some ⟨a.b, off, none⟩) ∧ D = [] ∧ I = [] ∧ X = [] ∧ N' = N
 | .mp k u m, v, fx, _, N, D, I, X, N' => ∃ (a : Nm) (d : Option (List (k.T × u.T))), v = .map a.m ∧ sQ fx v ∧ D = [⟨.mp k u, d⟩] ∧ I = [(m, omap (qy k) (qy u) (.map a.m) d)] ∧ X = [] ∧ N' = N ++ [a]
 | .it, v, fx, _, N, D, I, X, N' => ∃ (a : Nm) (s : Str) (p : Nat), v = .pointer (some ⟨a.b, 0, none⟩) ∧ sQ fx v ∧ D = [⟨.s, s⟩, ⟨.n, p⟩] ∧ I = [(true, iter a.b s p)] ∧ X = [] ∧ N' = N ++ [a]
 | .agg l, v, _, _, N, D, I, X, N' => ∃ cs : List Value, v = .agg cs.toArray ∧ lP l cs [] N D I X N'
 | .tup l, v, _, _, N, D, I, X, N' => ∃ cs : List Value, v = .tuple cs.toArray ∧ lP l cs [] N D I X N'
 | .fn f a b, v, _, _, N, D, I, X, N' => ∃ (us vs : List Value) (D1 D2 : List Dyn) (I1 I2 : Its) (X1 X2 : Bxs) (N1 : List Nm), v = .func (.func f) us.toArray vs.toArray ∧ lP a us [] N D1 I1 X1 N1 ∧ lP b vs [] N1 D2 I2 X2 N' ∧ D = D1 ++ D2 ∧ I = I1 ++ I2 ∧ X = X1 ++ X2
 | .ifc t p, v, _, _, N, D, I, X, N' => ∃ u, v = .iface t u ∧ Sem p u none none N D I X N'
 | .cst c, v, _, _, N, D, I, X, N' => (v = c.val (fun _ => nm0) ∧ ∀ ρ, c.val ρ = c.val (fun _ => nm0)) ∧ D = [] ∧ I = [] ∧ X = [] ∧ N' = N
 | .dat t o, v, _, _, N, D, I, X, N' => ∃ (cs : List Value) (x : t.T) (o' : List (Option TypeId)), v = .agg cs.toArray ∧ D = [⟨t, x⟩] ∧ vO t x cs o N I N' o' ∧ X = []
 | .sfp, v, _, _, N, D, I, X, N' => ∃ (a : Nm) (f : Bool), N[N.length - 1]? = some a ∧ v = n8 f a.b ∧ D = [⟨.bo, f⟩] ∧ I = [] ∧ X = [] ∧ N' = N
 | .same, v, fx, sm, N, D, I, X, N' => ((∃ p, fx = some p ∧ v = p.1) ∨ (fx = none ∧ sm = some v)) ∧ D = [] ∧ I = [] ∧ X = [] ∧ N' = N
def lP : List Pt → List Value → List Value → List Nm → List Dyn → Its → Bxs → List Nm → Prop
 | [], vs, _, N, D, I, X, N' => vs = [] ∧ D = [] ∧ I = [] ∧ X = [] ∧ N' = N
 | p :: l, vs, sms, N, D, I, X, N' => ∃ (v : Value) (vs' : List Value) (D1 D2 : List Dyn) (I1 I2 : Its) (X1 X2 : Bxs) (N1 : List Nm), vs = v :: vs' ∧ Sem p v none sms.head? N D1 I1 X1 N1 ∧ lP l vs' sms.tail N1 D2 I2 X2 N' ∧ D = D1 ++ D2 ∧ I = I1 ++ I2 ∧ X = X1 ++ X2
end
def qj (fix : Nat → Fx) (val : Nat → Option Value) : List (Bool × Nat × Pt) → List Nm → List Dyn → Its → Bxs → List Nm → Prop
 | [], N, D, I, X, N' => D = [] ∧ I = [] ∧ X = [] ∧ N' = N
 | x :: l, N, D, I, X, N' => ∃ (v : Value) (D1 D2 : List Dyn) (I1 I2 : Its) (X1 X2 : Bxs) (N1 : List Nm), (ifS x.1 ((fix x.2.1).map (·.1)) (val x.2.1)) = some v ∧ Sem x.2.2 v (ifS x.1 (fix x.2.1) none) none N D1 I1 X1 N1 ∧ qj fix val l N1 D2 I2 X2 N' ∧ D = D1 ++ D2 ∧ I = I1 ++ I2 ∧ X = X1 ++ X2
/-! matching -/
mutual
def AV.same : AV → AV → Bool
 | .fn f a b, v => (match v with
  | .fn f' a' b' => Nat.beq f f' && AV.uz a a' && AV.uz b b'
  | _ => false)
 | .tuple l, v => (match l with
  | [] => (match v with
   | .tuple l => l.isEmpty
   | _ => false)
  | _ => false)
 | .raw u, v => (match v with
  | .raw u' => (match u, u' with
   | .slice none m n, .slice none m' n' => Nat.beq m m' && Nat.beq n n'
   | .pointer none, .pointer none => true
   | .nilFunc, .nilFunc => true
   | .nilIface, .nilIface => true
   | .map none, .map none => true
   | _, _ => false)
  | _ => false)
 | _, _ => false
def AV.uz : List AV → List AV → Bool
 | [], l' => l'.isEmpty
 | v :: l, l' => (match l' with
  | v' :: l' => AV.same v v' && AV.uz l l'
  | [] => false)
end
mutual
theorem AV.sk {ρ ρ' : Nms} : (v : AV) → (v' : AV) → AV.same v v' = true → v'.val ρ' = v.val ρ
 | .fn f a b, v', h => by
  unfold AV.same at h
  split at h
  ·rename_i f' a' b'
   simp only [Bool.and_eq_true] at h
   simp only [AV.val]
   rw [Nat.eq_of_beq_eq_true h.1.1, AV.tT a a' h.1.2, AV.tT b b' h.2]
  ·cases h
 | .tuple l, v', h => by
  unfold AV.same at h
  split at h
  ·split at h
   ·rename_i l'
    have : l' = [] := by simpa using h
    subst this; simp only [AV.val, AV.ae]
   ·cases h
  ·cases h
 | .raw u, v', h => by
  unfold AV.same at h
  split at h
  ·rename_i u'
   split at h
   ·simp only [Bool.and_eq_true] at h
    simp only [AV.val]; rw [Nat.eq_of_beq_eq_true h.1, Nat.eq_of_beq_eq_true h.2]
   ·simp only [AV.val]
   ·simp only [AV.val]
   ·simp only [AV.val]
   ·simp only [AV.val]
   ·cases h
  ·cases h
 | .int _ _, v', h | .bool _, v', h | .str _, v', h | .agg _, v', h | .ptr _ _, v', h | .sl _, v', h | .adr _ _, v', h | .ifc _ _, v', h | .mp _, v', h | .gp _, v', h | .nv _, v', h | .sfp _ _, v', h => by unfold AV.same at h; cases h
theorem AV.tT {ρ ρ' : Nms} : (l : List AV) → (l' : List AV) → AV.uz l l' = true → AV.ae ρ' l' = AV.ae ρ l
 | [], l', h => by
  unfold AV.uz at h
  have : l' = [] := by simpa using h
  subst this; rfl
 | v :: l, l', h => by
  unfold AV.uz at h
  split at h
  ·rename_i v' l'
   simp only [Bool.and_eq_true] at h
   simp only [AV.ae]
   rw [AV.sk v v' h.1, AV.tT l l' h.2]
  ·cases h
end
structure MR where
 B : List (Option Nat)
 S : List (Bool × Src)
 D : List Dyn
 X : List (Nat × List AV)
def CF (G H : List Row) (t : Ty) (v : AV) : Option (Option Nat × Src × List t.T) := match v with
 | .sl j => (match cw G H (jh j) with
  | some (s, .sli none _ t' l _) => (match lX.Dyn.asL t ⟨.l t', l⟩ with
   | some l => some (some j, s, l)
   | none => none)
  | _ => none)
 | .raw (.slice none 0 0) => some (none, .nilI t, [])
 | _ => none
def BS (G H : List Row) (t : Ty) (e : TypeId) (v : AV) : Option (Option Nat × Src × List t.T) := match v with
 | .sl j => (match cw G H (jh j) with
  | some (s, .own _ t' e' l _) => ifS ( Nat.beq e e' ) ( match lX.Dyn.asL t ⟨.l t', l⟩ with
   | some l => some (some j, s, l)
   | none => none
   ) none
  | _ => none)
 | .raw (.slice none 0 0) => some (none, .nilO t e, [])
 | _ => none
structure DR (t : Ty) where
 x : t.T
 vs : List AV
 o : List (Option TypeId)
 B : List (Option Nat)
 S : List (Bool × Src)
def me (G H : List Row) : (t : Ty) → List AV → List (Option TypeId) → List (Option Nat) → Option (DR t)
 | .i k, vs, o, B => (match vs with
  | .int k' x :: vs => ifS ( eO k k' ) ( some ⟨x, vs, o, B, []⟩ ) none
  | _ => none)
 | .bo, vs, o, B => (match vs with
  | .bool x :: vs => some ⟨x, vs, o, B, []⟩
  | _ => none)
 | .s, vs, o, B => (match vs with
  | .str x :: vs => some ⟨x, vs, o, B, []⟩
  | _ => none)
 | .un, vs, o, B => some ⟨(), vs, o, B, []⟩
 | .p a b, vs, o, B => (match me G H a vs o B with
  | some d => (match me G H b d.vs d.o d.B with
   | some e => some ⟨(d.x, e.x), e.vs, e.o, e.B, d.S ++ e.S⟩
   | none => none)
  | none => none)
 | .l t, vs, o, B => (match vs with
  | v :: vs => (match o with
   | none :: o => (match CF G H t v with
    | some q => some ⟨q.2.2, vs, o, B ++ [q.1], [(false, q.2.1)]⟩
    | none => none)
   | some e :: o => (match BS G H t (oe e) v with
    | some q => some ⟨q.2.2, vs, o, B ++ [q.1], [(ow e, q.2.1)]⟩
    | none => none)
   | [] => none)
  | [] => none)
 | .ex, vs, o, B => (match vs with
  | .int .i64 a :: .int .i64 b :: .int .i64 c :: v :: vs => (match o with
   | none :: o => (match CF G H .ex v with
    | some q => some ⟨Ex.mk a b c q.2.2, vs, o, B ++ [q.1], [(false, q.2.1)]⟩
    | none => none)
   | some e :: o => (match BS G H .ex (oe e) v with
    | some q => some ⟨Ex.mk a b c q.2.2, vs, o, B ++ [q.1], [(ow e, q.2.1)]⟩
    | none => none)
   | [] => none)
  | _ => none)
 | _, _, _, _ => none
def wH : Option Nat → Option Nat → Bool
 | some a, some b => Nat.beq a b
 | none, none => true
 | _, _ => false
theorem MZ {a b : Option Nat} (h : wH a b = true) : a = b := by
 unfold wH at h
 split at h
 ·rw [Nat.eq_of_beq_eq_true h]
 ·rfl
 ·cases h
abbrev FxA := Option (AV × List AV)
def rh (fx : FxA) : List AV := match fx with
 | some p => p.2
 | none => []
def nvs (v : AV) (fx : FxA) (sm : Option AV) : Bool := match fx with
 | some _ => true
 | none => (match sm with
  | some (.nv u) => (match v with
   | .nv w => Nat.beq u w
   | _ => false)
  | _ => false)
def Dj : Pt → Bool
 | .same => true
 | _ => false
mutual
def mt (G H : List Row) : Pt → AV → FxA → Option AV → List (Option Nat) → Option MR
 | .int k, v, _, _, B => (match v with
  | .int k' x => ifS (eO k k') (some ⟨B, [], [⟨.i k, x⟩], []⟩) none
  | _ => none)
 | .bool, v, _, _, B => (match v with
  | .bool x => some ⟨B, [], [⟨.bo, x⟩], []⟩
  | _ => none)
 | .str, v, _, _, B => (match v with
  | .str x => some ⟨B, [], [⟨.s, x⟩], []⟩
  | _ => none)
 | .sli t, v, _, _, B => (match CF G H t v with
  | some q => some ⟨B ++ [q.1], [(false, q.2.1)], [⟨.l t, q.2.2⟩], []⟩
  | none => none)
 | .own t e m, v, _, _, B => (match BS G H t e v with
  | some q => some ⟨B ++ [q.1], [(m, q.2.1)], [⟨.l t, q.2.2⟩], []⟩
  | none => none)
 | .slr n, v, _, _, B => (match v with
  | .sl j => ifS (wH ((B[n]?).getD none) (some j)) (some ⟨B, [], [], []⟩) none
  | _ => none)
 | .bx t off m vs, v, fx, _, B => (match v with
  | .ptr j off' => ifS (Nat.beq off off') (match cw G H (p8 j) with
   | some (s, .box _ t' cs) => ifS (Nat.beq t t') (match mts G H vs cs (rh fx) (B ++ [some j]) with
     | some r => some ⟨r.B, (m, s) :: r.S, r.D, (ifS m [(B.length, cs)] []) ++ r.X⟩
     | none => none) none
   | _ => none) none
  | _ => none)
 | .ptr n off, v, _, _, B => (match v with
  | .ptr j off' => ifS (Nat.beq off off' && wH ((B[n]?).getD none) (some j)) (some ⟨B, [], [], []⟩) none
  | _ => none)
 | .mp k u m, v, _, _, B => (match v with
  | .mp j => (match cw G H (FX j) with
   | some (s, .mp _ k' u' d) => (match Dyn.as (.mp k u) ⟨.mp k' u', d⟩ with
    | some d => some ⟨B ++ [some j], [(m, s)], [⟨.mp k u, d⟩], []⟩
    | none => none)
   | _ => none)
  | .raw (.map none) => some ⟨B ++ [none], [(m, .nilM k u)], [⟨.mp k u, (none : Option (List (k.T × u.T)))⟩], []⟩
  | _ => none)
 | .it, v, _, _, B => (match v with
  | .ptr j 0 => (match cw G H (Ny j) with
   | some (s, .it _ x p) => some ⟨B ++ [some j], [(true, s)], [⟨.s, x⟩, ⟨.n, p⟩], []⟩
   | _ => none)
  | _ => none)
 | .agg l, v, _, _, B => (match v with
  | .agg vs => mts G H l vs [] B
  | _ => none)
 | .tup l, v, _, _, B => (match v with
  | .tuple vs => mts G H l vs [] B
  | _ => none)
 | .fn f a b, v, _, _, B => (match v with
  | .fn f' a' b' => ifS (Nat.beq f f') (match mts G H a a' [] B with
   | some r => (match mts G H b b' [] r.B with
    | some q => some ⟨q.B, r.S ++ q.S, r.D ++ q.D, r.X ++ q.X⟩
    | none => none)
   | none => none) none
  | _ => none)
 | .ifc t p, v, _, _, B => (match v with
  | .ifc t' u => ifS (Nat.beq t t') (mt G H p u none none B) none
  | _ => none)
 | .cst c, v, _, _, B => ifS (AV.same c v) (some ⟨B, [], [], []⟩) none
 | .dat t o, v, _, _, B => (match v with
  | .agg cs => (match me G H t cs o B with
   | some ⟨x, [], _, B', S⟩ => some ⟨B', S, [⟨t, x⟩], []⟩
   | _ => none)
  | _ => none)
 | .sfp, v, _, _, B => (match v with
  | .raw (.pointer none) => (match B[B.length - 1]? with
   | some _ => some ⟨B, [], [⟨.bo, false⟩], []⟩
   | none => none)
  | .sfp j f => ifS (wH ((B[B.length - 1]?).getD none) (some j)) (some ⟨B, [], [⟨.bo, f⟩], []⟩) none
  | .ptr j 0 => ifS (wH ((B[B.length - 1]?).getD none) (some j)) (some ⟨B, [], [⟨.bo, true⟩], []⟩) none
  | _ => none)
 | .same, v, fx, sm, B => ifS (nvs v fx sm) (some ⟨B, [], [], []⟩) none
def mts (G H : List Row) : List Pt → List AV → List AV → List (Option Nat) → Option MR
 | [], vs, _, B => (match vs with
  | [] => some ⟨B, [], [], []⟩
  | _ => none)
 | p :: l, vs, sms, B => (match vs with
  | v :: vs => (match mt G H p (ifS (Dj p) v (ld G H v)) none sms.head? B with
   | some r => (match mts G H l vs sms.tail r.B with
    | some q => some ⟨q.B, r.S ++ q.S, r.D ++ q.D, r.X ++ q.X⟩
    | none => none)
   | none => none)
  | [] => none)
end
def mtV (G H : List Row) (look : Nat → Option AV) (fix : Nat → FxA) : List (Bool × Nat × Pt) → List (Option Nat) → Option MR
 | [], B => some ⟨B, [], [], []⟩
 | x :: l, B => (match (ifS x.1 ((fix x.2.1).map (·.1)) (look x.2.1)) with
  | some v => (match mt G H x.2.2 v (ifS x.1 (fix x.2.1) none) none B with
   | some r => (match mtV G H look fix l r.B with
    | some q => some ⟨q.B, r.S ++ q.S, r.D ++ q.D, r.X ++ q.X⟩
    | none => none)
   | none => none)
  | none => none)
end Go.Proofs.YtpnogcmollnjeaaGreatDoor
namespace Go.Proofs.YtpnogcmollnjeaaGreatDoor
open Go.Lib
def aX (a b : Item) : Prop := (∀ x, x ∈ b.own → x ∈ a.own) ∧ ∀ M w, a.P M w → b.P M w
theorem aX.refl {a : Item} : aX a a := ⟨fun _ h => h, fun _ _ h => h⟩
def GH (ρ : Nms) (T : Tbl) (G H : List Row) (s : Src) (it : Item) : Prop :=
 (it.own = [] ∧ (∀ M w, it.P M w) ∧ ∀ r, ¬ s.at_ G H r) ∨ ∃ r, s.at_ G H r ∧ aX (r.item ρ T) it ∧ (r.bU = true → it.own = []) ∧ (r.bU = false → aX it (r.item ρ T))
def SI (ρ : Nms) (T : Tbl) (G H : List Row) (a : Bool × Src) (b : Bool × Item) : Prop := a.1 = b.1 ∧ GH ρ T G H a.2 b.2
inductive cT {α β : Type} (R : α → β → Prop) : List α → List β → Prop
 | nil : cT R [] []
 | cons {a b l m} : R a b → cT R l m → cT R (a :: l) (b :: m)
theorem cT.length {α β : Type} {R : α → β → Prop} {l : List α} {m : List β} (h : cT R l m) : l.length = m.length := by
 induction h with
 | nil => rfl
 | cons _ _ ih => simp [ih]
theorem cT.append {α β : Type} {R : α → β → Prop} {l l' : List α} {m m' : List β} (h : cT R l m) (k : cT R l' m') : cT R (l ++ l') (m ++ m') := by
 induction h with
 | nil => exact k
 | cons h1 _ ih => exact .cons h1 ih
theorem cT.get {α β : Type} {R : α → β → Prop} {l : List α} {m : List β} (h : cT R l m) : ∀ {i : Nat} {a : α}, l[i]? = some a → ∃ b, m[i]? = some b ∧ R a b := by
 induction h with
 | nil => intro i a h; simp at h
 | cons h1 _ ih =>
  intro i a h
  cases i with
  | zero => simp at h; subst h; exact ⟨_, rfl, h1⟩
  | succ i => exact ih (by simpa using h)
def NBr (ρ : Nms) (o : Option Nat) (a : Nm) : Prop := match o with
 | some j => a.b = (ρ j).b ∧ a.v = (ρ j).v ∧ a.m = (ρ j).m
 | none => a.v = (none, 0, 0) ∧ a.m = none
abbrev NB (ρ : Nms) (B : List (Option Nat)) (N : List Nm) : Prop := cT (NBr ρ) B N
theorem NB.at_ {ρ : Nms} {B : List (Option Nat)} {N : List Nm} (h : NB ρ B N) {n j : Nat} (hb : wH ((B[n]?).getD none) (some j) = true) : ∃ a, N[n]? = some a ∧ a.b = (ρ j).b ∧ a.v = (ρ j).v := by
 have e := MZ hb
 cases hn : B[n]? with
 | none => rw [hn] at e; cases e
 | some o =>
  rw [hn] at e
  simp only [Option.getD_some] at e
  subst e
  obtain ⟨a, h1, h2⟩ := h.get hn
  exact ⟨a, h1, h2.1, h2.2.1⟩
section
variable {ρ : Nms} {T : Tbl} {G H : List Row} {Φ : Ctx} {w : World}
theorem yS (_hs : Sat (items ρ T G ++ (items ρ T H ++ Φ)) w) {t : Ty} {v : AV} {q : Option Nat × Src × List t.T} (h : CF G H t v = some q) : ∃ a : Nm, NBr ρ q.1 a ∧ v.val ρ = sl a.v ∧ GH ρ T G H q.2.1 (tW true t.rep a.v q.2.2 false) := by
 unfold CF at h
 split at h
 ·rename_i j
  split at h
  ·rename_i s j' t' l b hf
   split at h
   ·rename_i l' hl
    cases h
    obtain ⟨rfl, rfl⟩ := kj hl
    obtain ⟨f1, f2⟩ := ba hf
    have : j' = j := Nat.eq_of_beq_eq_true f2
    subst this
    refine ⟨ρ j', ⟨rfl, rfl, rfl⟩, by simp only [AV.val], .inr ⟨_, f1, ⟨fun _ h => h, fun M w h _ => ⟨(h Tbl.get_none).1, fun hb => by cases hb⟩⟩, fun _ => rfl, fun h => by cases h⟩⟩
   ·cases h
  ·cases h
 ·cases h
  exact ⟨nm0, ⟨rfl, rfl⟩, by simp only [AV.val]; rfl, .inl ⟨rfl, fun M w _ => ⟨SRd.nil, fun hb => by cases hb⟩, fun r h => h⟩⟩
 ·cases h
theorem yY (hs : Sat (items ρ T G ++ (items ρ T H ++ Φ)) w) {t : Ty} {e : TypeId} {v : AV} {q : Option Nat × Src × List t.T} (h : BS G H t e v = some q) : ∃ a : Nm, NBr ρ q.1 a ∧ v.val ρ = sl a.v ∧ a.y = ⟨.l t, q.2.2⟩ ∧ GH ρ T G H q.2.1 (mH t.rep e a.v q.2.2 True) := by
 unfold BS at h
 split at h
 ·rename_i j
  split at h
  ·rename_i s j' t' e' l ver hf
   obtain ⟨h1, h2⟩ := ar h
   have e1 := Nat.eq_of_beq_eq_true h1
   subst e1
   split at h2
   ·rename_i l' hl
    cases h2
    obtain ⟨rfl, rfl⟩ := kj hl
    obtain ⟨f1, f2⟩ := ba hf
    have : j' = j := Nat.eq_of_beq_eq_true f2
    subst this
    have hfact := (Src.holds hs f1).2
    refine ⟨{ ρ j' with y := ⟨.l t', l⟩ }, ⟨rfl, rfl, rfl⟩, by simp only [AV.val], rfl, .inr ⟨_, f1, ⟨fun _ h => h, fun M w h => ⟨h.1, trivial⟩⟩, fun h => (by cases h), fun _ => ⟨fun _ h => h, fun M w h => ⟨h.1, hfact⟩⟩⟩⟩
   ·cases h2
  ·cases h
 ·cases h
  exact ⟨{ nm0 with y := ⟨.l t, ([] : List t.T)⟩ }, ⟨rfl, rfl⟩, by simp only [AV.val]; rfl, rfl, .inl ⟨rfl, fun M w => ⟨Own.nil, trivial⟩, fun r h => h⟩⟩
 ·cases h
theorem zr (hs : Sat (items ρ T G ++ (items ρ T H ++ Φ)) w) : (t : Ty) → (vs : List AV) → (o : List (Option TypeId)) → (B : List (Option Nat)) → (d : DR t) → (N : List Nm) → me G H t vs o B = some d → NB ρ B N →
  ∃ us N' I, vs = us ++ d.vs ∧ vO t d.x (AV.ae ρ us) o N I N' d.o ∧ NB ρ d.B N' ∧ cT (SI ρ T G H) d.S I
 | .i k, vs, o, B, d, N, h, hN => by
  unfold me at h
  split at h
  ·rename_i k' x us
   obtain ⟨h1, h2⟩ := ar h
   have := iq h1; subst this
   cases h2
   exact ⟨[.int k x], N, [], rfl, ⟨by simp only [AV.ae, AV.val], rfl, rfl, rfl⟩, hN, .nil⟩
  ·cases h
 | .bo, vs, o, B, d, N, h, hN => by
  unfold me at h
  split at h
  ·rename_i x us
   cases h
   exact ⟨[.bool x], N, [], rfl, ⟨by simp only [AV.ae, AV.val], rfl, rfl, rfl⟩, hN, .nil⟩
  ·cases h
 | .s, vs, o, B, d, N, h, hN => by
  unfold me at h
  split at h
  ·rename_i x us
   cases h
   exact ⟨[.str x], N, [], rfl, ⟨by simp only [AV.ae, AV.val], rfl, rfl, rfl⟩, hN, .nil⟩
  ·cases h
 | .un, vs, o, B, d, N, h, hN => by
  unfold me at h
  cases h
  exact ⟨[], N, [], rfl, ⟨by simp only [AV.ae], rfl, rfl, rfl⟩, hN, .nil⟩
 | .n, vs, o, B, d, N, h, hN => by unfold me at h; cases h
 | .mp _ _, vs, o, B, d, N, h, hN => by unfold me at h; cases h
 | .p a b, vs, o, B, d, N, h, hN => by
  unfold me at h
  split at h
  ·rename_i d1 h1
   split at h
   ·rename_i d2 h2
    cases h
    obtain ⟨us1, N1, I1, e1, s1, n1, a1⟩ := zr hs a vs o B d1 N h1 hN
    obtain ⟨us2, N2, I2, e2, s2, n2, a2⟩ := zr hs b d1.vs d1.o d1.B d2 N1 h2 n1
    refine ⟨us1 ++ us2, N2, I1 ++ I2, by rw [e1, e2, List.append_assoc], ?_, n2, a1.append a2⟩
    rw [bS]
    exact ⟨_, _, N1, I1, I2, d1.o, s1, s2, rfl, rfl⟩
   ·cases h
  ·cases h
 | .l t, vs, o, B, d, N, h, hN => by
  unfold me at h
  split at h
  ·rename_i v us
   split at h
   ·rename_i o'
    split at h
    ·rename_i q hq
     cases h
     obtain ⟨a, n1, e1, s1⟩ := yS hs hq
     refine ⟨[v], N ++ [a], _, rfl, ⟨a, by simp only [AV.ae]; rw [e1], rfl, .inl ⟨rfl, rfl⟩⟩, hN.append (.cons n1 .nil), .cons ⟨rfl, s1⟩ .nil⟩
    ·cases h
   ·rename_i e o'
    split at h
    ·rename_i q hq
     cases h
     obtain ⟨a, n1, e1, y1, s1⟩ := yY hs hq
     refine ⟨[v], N ++ [a], _, rfl, ⟨a, by simp only [AV.ae]; rw [e1], rfl, .inr ⟨e, rfl, rfl, y1⟩⟩, hN.append (.cons n1 .nil), .cons ⟨rfl, s1⟩ .nil⟩
    ·cases h
   ·cases h
  ·cases h
 | .ex, vs, o, B, d, N, h, hN => by
  unfold me at h
  split at h
  ·rename_i xa xb xc v us
   split at h
   ·rename_i o'
    split at h
    ·rename_i q hq
     cases h
     obtain ⟨a, n1, e1, s1⟩ := yS hs hq
     refine ⟨[.int .i64 xa, .int .i64 xb, .int .i64 xc, v], N ++ [a], _, rfl, ⟨a, by simp only [AV.ae, AV.val]; rw [e1]; rfl, rfl, .inl ⟨rfl, rfl⟩⟩, hN.append (.cons n1 .nil), .cons ⟨rfl, s1⟩ .nil⟩
    ·cases h
   ·rename_i e o'
    split at h
    ·rename_i q hq
     cases h
     obtain ⟨a, n1, e1, y1, s1⟩ := yY hs hq
     refine ⟨[.int .i64 xa, .int .i64 xb, .int .i64 xc, v], N ++ [a], _, rfl, ⟨a, by simp only [AV.ae, AV.val]; rw [e1]; rfl, rfl, .inr ⟨e, rfl, rfl, y1⟩⟩, hN.append (.cons n1 .nil), .cons ⟨rfl, s1⟩ .nil⟩
    ·cases h
   ·cases h
  ·cases h
abbrev bZ (ρ : Nms) (X : List (Nat × List AV)) : Bxs := X.map fun x => (x.1, AV.ae ρ x.2)
abbrev ie (ρ : Nms) (fx : FxA) : Fx := fx.map fun q => (q.1.val ρ, AV.ae ρ q.2)
theorem EH {fx : FxA} : fxC (ie ρ fx) = AV.ae ρ (rh fx) := by
 cases fx with
 | none => simp [fxC, rh, AV.ae]
 | some q => rfl
theorem qY {fx : FxA} {v : AV} (h : ∀ q, fx = some q → q.1.val ρ = v.val ρ) : sQ (ie ρ fx) (v.val ρ) := by
 intro p hp
 cases fx with
 | none => cases hp
 | some q => cases hp; exact (h q rfl).symm
theorem H6 (hs : Sat (items ρ T G ++ (items ρ T H ++ Φ)) w) {p : Pt} {v : AV} : (ifS (Dj p) v (ld G H v)).val ρ = v.val ρ := by
 cases Dj p
 ·exact Dn hs
 ·rfl
theorem zV {l : List AV} : (AV.ae ρ l).head? = l.head?.map (AV.val ρ) := by cases l <;> simp [AV.ae]
theorem Ax {l : List AV} : (AV.ae ρ l).tail = AV.ae ρ l.tail := by cases l <;> simp [AV.ae]
mutual
theorem yf (hs : Sat (items ρ T G ++ (items ρ T H ++ Φ)) w) : (p : Pt) → (v : AV) → (fx : FxA) → (sm : Option AV) → (B : List (Option Nat)) → (r : MR) → (N : List Nm) → mt G H p v fx sm B = some r → NB ρ B N → (∀ q, fx = some q → q.1.val ρ = v.val ρ) →
  ∃ N' I, Sem p (v.val ρ) (ie ρ fx) (sm.map (AV.val ρ)) N r.D I (bZ ρ r.X) N' ∧ NB ρ r.B N' ∧ cT (SI ρ T G H) r.S I
 | .int k, v, fx, sm, B, r, N, h, hN, hf => by
  unfold mt at h
  split at h
  ·rename_i k' x
   obtain ⟨h1, h2⟩ := ar h
   have := iq h1; subst this
   cases h2
   exact ⟨N, [], ⟨x, by simp only [AV.val], rfl, rfl, rfl, rfl⟩, hN, .nil⟩
  ·cases h
 | .bool, v, fx, sm, B, r, N, h, hN, hf => by
  unfold mt at h
  split at h
  ·rename_i x
   cases h
   exact ⟨N, [], ⟨x, by simp only [AV.val], rfl, rfl, rfl, rfl⟩, hN, .nil⟩
  ·cases h
 | .str, v, fx, sm, B, r, N, h, hN, hf => by
  unfold mt at h
  split at h
  ·rename_i x
   cases h
   exact ⟨N, [], ⟨x, by simp only [AV.val], rfl, rfl, rfl, rfl⟩, hN, .nil⟩
  ·cases h
 | .sli t, v, fx, sm, B, r, N, h, hN, hf => by
  unfold mt at h
  split at h
  ·rename_i q hq
   cases h
   obtain ⟨a, n1, e1, s1⟩ := yS hs hq
   exact ⟨N ++ [a], _, ⟨a, q.2.2, e1, rfl, rfl, rfl, rfl⟩, hN.append (.cons n1 .nil), .cons ⟨rfl, s1⟩ .nil⟩
  ·cases h
 | .own t e m, v, fx, sm, B, r, N, h, hN, hf => by
  unfold mt at h
  split at h
  ·rename_i q hq
   cases h
   obtain ⟨a, n1, e1, y1, s1⟩ := yY hs hq
   exact ⟨N ++ [a], _, ⟨a, q.2.2, e1, qY hf, rfl, rfl, rfl, rfl, y1⟩, hN.append (.cons n1 .nil), .cons ⟨rfl, s1⟩ .nil⟩
  ·cases h
 | .slr n, v, fx, sm, B, r, N, h, hN, hf => by
  unfold mt at h
  split at h
  ·rename_i j
   obtain ⟨h1, h2⟩ := ar h
   cases h2
   obtain ⟨a, a1, a2, a3⟩ := hN.at_ h1
   exact ⟨N, [], ⟨a, a1, by simp only [AV.val]; rw [a3], rfl, rfl, rfl, rfl⟩, hN, .nil⟩
  ·cases h
 | .bx t off m vs, v, fx, sm, B, r, N, h, hN, hf => by
  unfold mt at h
  split at h
  ·rename_i j off'
   obtain ⟨h1, h2⟩ := ar h
   have e1 := Nat.eq_of_beq_eq_true h1
   subst e1
   split at h2
   ·rename_i s j' t' cs hfi
    obtain ⟨h3, h4⟩ := ar h2
    have e2 := Nat.eq_of_beq_eq_true h3
    subst e2
    split at h4
    ·rename_i q hq
     cases h4
     obtain ⟨f1, f2⟩ := ba hfi
     have : j' = j := Nat.eq_of_beq_eq_true f2
     subst this
     obtain ⟨N', I, s1, n1, a1⟩ := nd hs vs cs (rh fx) (B ++ [some j']) q (N ++ [ρ j']) hq (hN.append (.cons ⟨rfl, rfl, rfl⟩ .nil))
     refine ⟨N', _, ⟨ρ j', AV.ae ρ cs, I, bZ ρ q.X, by simp only [AV.val], qY hf, by rw [EH]; exact s1, rfl, ?_⟩, n1, .cons ⟨rfl, .inr ⟨_, f1, aX.refl, (fun h => by cases h), fun _ => aX.refl⟩⟩ a1⟩
     rw [← hN.length]
     cases m <;> simp [bZ]
    ·cases h4
   ·cases h2
  ·cases h
 | .ptr n off, v, fx, sm, B, r, N, h, hN, hf => by
  unfold mt at h
  split at h
  ·rename_i j off'
   obtain ⟨h1, h2⟩ := ar h
   simp only [Bool.and_eq_true] at h1
   cases h2
   have e1 := Nat.eq_of_beq_eq_true h1.1
   subst e1
   obtain ⟨a, a1, a2, a3⟩ := hN.at_ h1.2
   exact ⟨N, [], ⟨a, a1, by simp only [AV.val]; rw [a2], rfl, rfl, rfl, rfl⟩, hN, .nil⟩
  ·cases h
 | .mp k u m, v, fx, sm, B, r, N, h, hN, hf => by
  unfold mt at h
  split at h
  ·rename_i j
   split at h
   ·rename_i s j' k' u' d hfi
    split at h
    ·rename_i d' hd
     cases h
     have := Dyn.uK hd
     cases this
     obtain ⟨f1, f2⟩ := ba hfi
     have : j' = j := Nat.eq_of_beq_eq_true f2
     subst this
     exact ⟨N ++ [ρ j'], _, ⟨ρ j', d', by simp only [AV.val], qY hf, rfl, rfl, rfl, rfl⟩, hN.append (.cons ⟨rfl, rfl, rfl⟩ .nil), .cons ⟨rfl, .inr ⟨_, f1, aX.refl, (fun h => by cases h), fun _ => aX.refl⟩⟩ .nil⟩
    ·cases h
   ·cases h
  ·cases h
   exact ⟨N ++ [nm0], _, ⟨nm0, none, by simp only [AV.val]; rfl, qY hf, rfl, rfl, rfl, rfl⟩, hN.append (.cons ⟨rfl, rfl⟩ .nil), .cons ⟨rfl, .inl ⟨rfl, fun M w => gf.nil, fun r h => h⟩⟩ .nil⟩
  ·cases h
 | .it, v, fx, sm, B, r, N, h, hN, hf => by
  unfold mt at h
  split at h
  ·rename_i j
   split at h
   ·rename_i s j' x p hfi
    cases h
    obtain ⟨f1, f2⟩ := ba hfi
    have : j' = j := Nat.eq_of_beq_eq_true f2
    subst this
    exact ⟨N ++ [ρ j'], _, ⟨ρ j', x, p, by simp only [AV.val], qY hf, rfl, rfl, rfl, rfl⟩, hN.append (.cons ⟨rfl, rfl, rfl⟩ .nil), .cons ⟨rfl, .inr ⟨_, f1, aX.refl, (fun h => by cases h), fun _ => aX.refl⟩⟩ .nil⟩
   ·cases h
  ·cases h
 | .agg l, v, fx, sm, B, r, N, h, hN, hf => by
  unfold mt at h
  split at h
  ·rename_i vs
   obtain ⟨N', I, s1, n1, a1⟩ := nd hs l vs [] B r N h hN
   exact ⟨N', I, ⟨AV.ae ρ vs, by simp only [AV.val], by simpa only [AV.ae] using s1⟩, n1, a1⟩
  ·cases h
 | .tup l, v, fx, sm, B, r, N, h, hN, hf => by
  unfold mt at h
  split at h
  ·rename_i vs
   obtain ⟨N', I, s1, n1, a1⟩ := nd hs l vs [] B r N h hN
   exact ⟨N', I, ⟨AV.ae ρ vs, by simp only [AV.val], by simpa only [AV.ae] using s1⟩, n1, a1⟩
  ·cases h
 | .fn f a b, v, fx, sm, B, r, N, h, hN, hf => by
  unfold mt at h
  split at h
  ·rename_i f' a' b'
   obtain ⟨h1, h2⟩ := ar h
   have e1 := Nat.eq_of_beq_eq_true h1
   subst e1
   split at h2
   ·rename_i q1 hq1
    split at h2
    ·rename_i q2 hq2
     cases h2
     obtain ⟨N1, I1, s1, n1, a1⟩ := nd hs a a' [] B q1 N hq1 hN
     obtain ⟨N2, I2, s2, n2, a2⟩ := nd hs b b' [] q1.B q2 N1 hq2 n1
     exact ⟨N2, I1 ++ I2, ⟨AV.ae ρ a', AV.ae ρ b', q1.D, q2.D, I1, I2, bZ ρ q1.X, bZ ρ q2.X, N1, by simp only [AV.val], by simpa only [AV.ae] using s1, by simpa only [AV.ae] using s2, rfl, rfl, by simp [bZ]⟩, n2, a1.append a2⟩
    ·cases h2
   ·cases h2
  ·cases h
 | .ifc t p, v, fx, sm, B, r, N, h, hN, hf => by
  unfold mt at h
  split at h
  ·rename_i t' u
   obtain ⟨h1, h2⟩ := ar h
   have e1 := Nat.eq_of_beq_eq_true h1
   subst e1
   obtain ⟨N', I, s1, n1, a1⟩ := yf hs p u none none B r N h2 hN (fun q hq => by cases hq)
   exact ⟨N', I, ⟨_, by simp only [AV.val], s1⟩, n1, a1⟩
  ·cases h
 | .cst c, v, fx, sm, B, r, N, h, hN, hf => by
  unfold mt at h
  obtain ⟨h1, h2⟩ := ar h
  cases h2
  exact ⟨N, [], ⟨⟨AV.sk c v h1, fun ρ' => (AV.sk (ρ' := ρ) (ρ := ρ') c v h1).symm.trans (AV.sk c v h1)⟩, rfl, rfl, rfl, rfl⟩, hN, .nil⟩
 | .dat t o, v, fx, sm, B, r, N, h, hN, hf => by
  unfold mt at h
  split at h
  ·rename_i cs
   split at h
   ·rename_i x o' B' S hd
    cases h
    obtain ⟨us, N', I, e1, s1, n1, a1⟩ := zr hs t cs o B _ N hd hN
    simp only [List.append_nil] at e1
    subst e1
    exact ⟨N', I, ⟨_, x, o', by simp only [AV.val], rfl, s1, rfl⟩, n1, a1⟩
   ·cases h
  ·cases h
 | .sfp, v, fx, sm, B, r, N, h, hN, hf => by
  have hl := hN.length
  unfold mt at h
  split at h
  ·split at h
   ·rename_i o ho
    cases h
    obtain ⟨a, h1, _⟩ := hN.get ho
    exact ⟨N, [], ⟨a, false, by rw [← hl]; exact h1, by simp only [AV.val, n8, cond_false], rfl, rfl, rfl, rfl⟩, hN, .nil⟩
   ·cases h
  ·rename_i j f
   obtain ⟨h1, h2⟩ := ar h
   cases h2
   obtain ⟨a, a1, a2, _⟩ := hN.at_ h1
   exact ⟨N, [], ⟨a, f, by rw [← hl]; exact a1, by simp only [AV.val]; rw [a2], rfl, rfl, rfl, rfl⟩, hN, .nil⟩
  ·rename_i j
   obtain ⟨h1, h2⟩ := ar h
   cases h2
   obtain ⟨a, a1, a2, _⟩ := hN.at_ h1
   exact ⟨N, [], ⟨a, true, by rw [← hl]; exact a1, by simp only [AV.val, n8, cond_true]; rw [a2], rfl, rfl, rfl, rfl⟩, hN, .nil⟩
  ·cases h
 | .same, v, fx, sm, B, r, N, h, hN, hf => by
  unfold mt at h
  obtain ⟨h1, h2⟩ := ar h
  cases h2
  refine ⟨N, [], ⟨?_, rfl, rfl, rfl, rfl⟩, hN, .nil⟩
  unfold nvs at h1
  split at h1
  ·rename_i q
   exact .inl ⟨_, rfl, (hf q rfl).symm⟩
  ·split at h1
   ·split at h1
    ·rename_i u u'
     rw [Nat.eq_of_beq_eq_true h1]
     exact .inr ⟨rfl, rfl⟩
    ·cases h1
   ·cases h1
theorem nd (hs : Sat (items ρ T G ++ (items ρ T H ++ Φ)) w) : (l : List Pt) → (vs : List AV) → (sms : List AV) → (B : List (Option Nat)) → (r : MR) → (N : List Nm) → mts G H l vs sms B = some r → NB ρ B N →
  ∃ N' I, lP l (AV.ae ρ vs) (AV.ae ρ sms) N r.D I (bZ ρ r.X) N' ∧ NB ρ r.B N' ∧ cT (SI ρ T G H) r.S I
 | [], vs, sms, B, r, N, h, hN => by
  unfold mts at h
  split at h
  ·cases h
   exact ⟨N, [], ⟨by simp only [AV.ae], rfl, rfl, rfl, rfl⟩, hN, .nil⟩
  ·cases h
 | p :: l, vs, sms, B, r, N, h, hN => by
  unfold mts at h
  split at h
  ·rename_i v us
   split at h
   ·rename_i q1 hq1
    split at h
    ·rename_i q2 hq2
     cases h
     obtain ⟨N1, I1, s1, n1, a1⟩ := yf hs p _ none sms.head? B q1 N hq1 hN (fun q hq => by cases hq)
     obtain ⟨N2, I2, s2, n2, a2⟩ := nd hs l us sms.tail q1.B q2 N1 hq2 n1
     rw [H6 hs] at s1
     refine ⟨N2, I1 ++ I2, ⟨v.val ρ, AV.ae ρ us, q1.D, q2.D, I1, I2, bZ ρ q1.X, bZ ρ q2.X, N1, by simp only [AV.ae], by rw [zV]; exact s1, by rw [Ax]; exact s2, rfl, rfl, by simp [bZ]⟩, n2, a1.append a2⟩
    ·cases h
   ·cases h
  ·cases h
end
theorem xH (hs : Sat (items ρ T G ++ (items ρ T H ++ Φ)) w) {lk : Nat → Option AV} {fix : Nat → FxA} : (l : List (Bool × Nat × Pt)) → (B : List (Option Nat)) → (r : MR) → (N : List Nm) → mtV G H lk fix l B = some r → NB ρ B N →
  ∃ N' I, qj (fun i => ie ρ (fix i)) (fun i => (lk i).map (AV.val ρ)) l N r.D I (bZ ρ r.X) N' ∧ NB ρ r.B N' ∧ cT (SI ρ T G H) r.S I
 | [], B, r, N, h, hN => by
  unfold mtV at h
  cases h
  exact ⟨N, [], ⟨rfl, rfl, rfl, rfl⟩, hN, .nil⟩
 | (b, t, p) :: l, B, r, N, h, hN => by
  unfold mtV at h
  split at h
  ·rename_i v hv
   split at h
   ·rename_i q1 hq1
    split at h
    ·rename_i q2 hq2
     cases h
     cases b
     ·simp only at hv hq1
      obtain ⟨N1, I1, s1, n1, a1⟩ := yf hs p v none none B q1 N hq1 hN (fun q hq => by cases hq)
      obtain ⟨N2, I2, s2, n2, a2⟩ := xH hs l q1.B q2 N1 hq2 n1
      exact ⟨N2, I1 ++ I2, ⟨v.val ρ, q1.D, q2.D, I1, I2, bZ ρ q1.X, bZ ρ q2.X, N1, by simp only [hv, Option.map_some], s1, s2, rfl, rfl, by simp [bZ]⟩, n2, a1.append a2⟩
     ·simp only at hv hq1
      cases hfx : fix t with
      | none => rw [hfx] at hv; cases hv
      | some q =>
       rw [hfx] at hv hq1
       cases hv
       obtain ⟨N1, I1, s1, n1, a1⟩ := yf hs p q.1 (some q) none B q1 N hq1 hN (fun q' hq => by cases hq; rfl)
       obtain ⟨N2, I2, s2, n2, a2⟩ := xH hs l q1.B q2 N1 hq2 n1
       exact ⟨N2, I1 ++ I2, ⟨q.1.val ρ, q1.D, q2.D, I1, I2, bZ ρ q1.X, bZ ρ q2.X, N1, by simp only [hfx]; rfl, by simp only [hfx]; exact s1, s2, rfl, rfl, by simp [bZ]⟩, n2, a1.append a2⟩
    ·cases h
   ·cases h
  ·cases h
end
end Go.Proofs.YtpnogcmollnjeaaGreatDoor
namespace Go.Proofs.YtpnogcmollnjeaaGreatDoor
open Go.Lib
structure FR where
 v : AV
 R : List (Bool × Row)
 k : Nat
 D : List Dyn
 X : List (Nat × List AV)
structure FRs where
 vs : List AV
 R : List (Bool × Row)
 k : Nat
 D : List Dyn
 X : List (Nat × List AV)
def dR (t : Ty) (D : List Dyn) : t.T := match D with
 | d :: _ => (d.as t).getD t.jH
 | [] => t.jH
theorem jy {t : Ty} {x : t.T} {D : List Dyn} : dR t (⟨t, x⟩ :: D) = x := by
 simp [dR, Dyn.MN]
theorem NP {k : IntKind} {x : Int} {D : List Dyn} : dR (.i k) (⟨.i k, x⟩ :: D) = x := jy (t := .i k)
theorem N8 {x : Bool} {D : List Dyn} : dR .bo (⟨.bo, x⟩ :: D) = x := jy (t := .bo)
theorem HW {x : Str} {D : List Dyn} : dR .s (⟨.s, x⟩ :: D) = x := jy (t := .s)
theorem ND {x : Nat} {D : List Dyn} : dR .n (⟨.n, x⟩ :: D) = x := jy (t := .n)
theorem HJ {t : Ty} {x : List t.T} {D : List Dyn} : dR (.l t) (⟨.l t, x⟩ :: D) = x := jy (t := .l t)
theorem LL {k v : Ty} {x : Option (List (k.T × v.T))} {D : List Dyn} : dR (.mp k v) (⟨.mp k v, x⟩ :: D) = x := jy (t := .mp k v)
structure LR where
 vs : List AV
 R : List (Bool × Row)
 k : Nat
 o : List (Option TypeId)
def dQ (nm : Nat → Nat) : (t : Ty) → t.T → Nat → List (Option TypeId) → LR
 | .i k, x, n, o => ⟨[.int k x], [], n, o⟩
 | .bo, x, n, o => ⟨[.bool x], [], n, o⟩
 | .s, x, n, o => ⟨[.str x], [], n, o⟩
 | .un, _, n, o => ⟨[], [], n, o⟩
 | .p a b, x, n, o => match dQ nm a x.1 n o with
  | ⟨u, p, n, o⟩ => match dQ nm b x.2 n o with
   | ⟨v, q, n, o⟩ => ⟨u ++ v, p ++ q, n, o⟩
 | .l t, x, n, o => match o with
  | none :: o => ⟨[.sl (nm n)], [(false, .sli none (nm n) t x false)], n + 1, o⟩
  | some e :: o => ⟨[.sl (nm n)], [(ow e, .own (nm n) t (oe e) x (nm n))], n + 1, o⟩
  | [] => ⟨[], [], n, []⟩
 | .ex, x, n, o => match o with
  | none :: o => ⟨[.int .i64 x.op, .int .i64 x.n, .int .i64 x.at_, .sl (nm n)], [(false, .sli none (nm n) .ex x.l false)], n + 1, o⟩
  | some e :: o => ⟨[.int .i64 x.op, .int .i64 x.n, .int .i64 x.at_, .sl (nm n)], [(ow e, .own (nm n) .ex (oe e) x.l (nm n))], n + 1, o⟩
  | [] => ⟨[], [], n, []⟩
 | _, _, n, o => ⟨[], [], n, o⟩
def nmS (nm : Nat → Nat) (fx : FxA) (n : Nat) : Nat := match fx with
 | some (.sl j, _) => j
 | _ => nm n
def nmP (nm : Nat → Nat) (fx : FxA) (n : Nat) : Nat := match fx with
 | some (.ptr j _, _) => j
 | _ => nm n
def nmM (nm : Nat → Nat) (fx : FxA) (n : Nat) : Nat := match fx with
 | some (.mp j, _) => j
 | _ => nm n
def Lm (fx : FxA) (sm : Option AV) : AV := match fx with
 | some p => p.1
 | none => match sm with
  | some x => x
  | none => .bool false
def reS (id : Nat) : List Pt → List AV → List AV
 | .sfp :: _, .sfp _ f :: us => .sfp id f :: us
 | _, us => us
mutual
def fill (nm : Nat → Nat) : Pt → FxA → Option AV → Nat → List Dyn → FR
 | .int k, _, _, n, D => ⟨.int k (dR (.i k) D), [], n, D.tail, []⟩
 | .bool, _, _, n, D => ⟨.bool (dR .bo D), [], n, D.tail, []⟩
 | .str, _, _, n, D => ⟨.str (dR .s D), [], n, D.tail, []⟩
 | .sli t, _, _, n, D => ⟨.sl (nm n), [(false, .sli none (nm n) t (dR (.l t) D) false)], n + 1, D.tail, []⟩
 | .own t e m, fx, _, n, D => ⟨.sl (nmS nm fx n), [(m, .own (nmS nm fx n) t e (dR (.l t) D) (nm n))], n + 1, D.tail, []⟩
 | .slr k, _, _, n, D => ⟨.sl (nm k), [], n, D, []⟩
 | .bx t off m vs, fx, _, n, D => match cB nm vs (rh fx) (n + 1) D with
  | ⟨cs, R, k, D, X⟩ => ⟨.ptr (nmP nm fx n) off, (m, .box (nmP nm fx n) t (reS (nmP nm fx n) vs cs)) :: R, k, D, (ifS m [(n, reS (nmP nm fx n) vs cs)] []) ++ X⟩
 | .ptr k off, _, _, n, D => ⟨.ptr (nm k) off, [], n, D, []⟩
 | .mp k v m, fx, _, n, D => ⟨.mp (nmM nm fx n), [(m, .mp (nmM nm fx n) k v (dR (.mp k v) D))], n + 1, D.tail, []⟩
 | .it, fx, _, n, D => ⟨.ptr (nmP nm fx n) 0, [(true, .it (nmP nm fx n) (dR .s D) (dR .n D.tail))], n + 1, D.tail.tail, []⟩
 | .agg l, _, _, n, D => match cB nm l [] n D with
  | ⟨cs, R, k, D, X⟩ => ⟨.agg cs, R, k, D, X⟩
 | .tup l, _, _, n, D => match cB nm l [] n D with
  | ⟨cs, R, k, D, X⟩ => ⟨.tuple cs, R, k, D, X⟩
 | .fn f a b, _, _, n, D => match cB nm a [] n D with
  | ⟨cs, R, k, D, X⟩ => match cB nm b [] k D with
   | ⟨cs', R', k, D, X'⟩ => ⟨.fn f cs cs', R ++ R', k, D, X ++ X'⟩
 | .ifc t p, _, _, n, D => match fill nm p none none n D with
  | ⟨v, R, k, D, X⟩ => ⟨.ifc t v, R, k, D, X⟩
 | .cst v, _, _, n, D => ⟨v, [], n, D, []⟩
 | .dat t o, _, _, n, D => match dQ nm t (dR t D) n o with
  | ⟨cs, R, k, _⟩ => ⟨.agg cs, R, k, D.tail, []⟩
 | .sfp, _, _, n, D => ⟨.sfp (nm (n - 1)) (dR .bo D), [], n, D.tail, []⟩
 | .same, fx, sm, n, D => ⟨Lm fx sm, [], n, D, []⟩
def cB (nm : Nat → Nat) : List Pt → List AV → Nat → List Dyn → FRs
 | [], _, n, D => ⟨[], [], n, D, []⟩
 | p :: l, sms, n, D => match fill nm p none sms.head? n D with
  | ⟨v, R, k, D, X⟩ => match cB nm l sms.tail k D with
   | ⟨vs, R', k, D, X'⟩ => ⟨v :: vs, R ++ R', k, D, X ++ X'⟩
end
structure FV where
 E : al
 R : List (Bool × Row)
 k : Nat
 D : List Dyn
def c8 (nm : Nat → Nat) (fix : Nat → FxA) : List (Bool × Nat × Pt) → Nat → List Dyn → FV
 | [], n, D => ⟨[], [], n, D⟩
 | x :: l, n, D => match fill nm x.2.2 (ifS x.1 (fix x.2.1) none) none n D with
  | ⟨v, R, k, D, _⟩ => match c8 nm fix l k D with
   | ⟨E, R', k, D⟩ => ⟨ifS x.1 E ((x.2.1, none, v) :: E), R ++ R', k, D⟩
/-! names come one behind the other -/
def Pre (N N' : List Nm) : Prop := ∃ E, N' = N ++ E
theorem Pre.refl {N : List Nm} : Pre N N := ⟨[], by simp⟩
theorem Pre.trans {A B C : List Nm} (h : Pre A B) (k : Pre B C) : Pre A C := by
 obtain ⟨E, rfl⟩ := h
 obtain ⟨F, rfl⟩ := k
 exact ⟨E ++ F, by simp⟩
theorem Pre.one {N : List Nm} {a : Nm} : Pre N (N ++ [a]) := ⟨[a], rfl⟩
theorem Pre.len {A B : List Nm} (h : Pre A B) : A.length ≤ B.length := by
 obtain ⟨E, rfl⟩ := h
 simp
theorem Pre.at_ {A B : List Nm} (h : Pre A B) {i : Nat} {a : Nm} (ha : A[i]? = some a) : B[i]? = some a := by
 obtain ⟨E, rfl⟩ := h
 rw [List.getElem?_append_left (List.getElem?_eq_some_iff.1 ha).1]; exact ha
theorem oA : (t : Ty) → (x : t.T) → (cs : List Value) → (o : List (Option TypeId)) → (N : List Nm) → (I : Its) → (N' : List Nm) → (o' : List (Option TypeId)) → vO t x cs o N I N' o' → Pre N N'
 | .i _, _, _, _, _, _, _, _, h | .bo, _, _, _, _, _, _, _, h | .s, _, _, _, _, _, _, _, h | .un, _, _, _, _, _, _, _, h => by obtain ⟨_, _, rfl, _⟩ := h; exact .refl
 | .n, _, _, _, _, _, _, _, h | .mp _ _, _, _, _, _, _, _, _, h => h.elim
 | .p a b, x, cs, o, N, I, N', o', h => by
  obtain ⟨c1, c2, N1, I1, I2, o1, h1, h2, _⟩ := h
  exact (oA a _ _ _ _ _ _ _ h1).trans (oA b _ _ _ _ _ _ _ h2)
 | .l t, x, cs, o, N, I, N', o', h => by obtain ⟨a, _, rfl, _⟩ := h; exact .one
 | .ex, x, cs, o, N, I, N', o', h => by obtain ⟨a, _, rfl, _⟩ := h; exact .one
mutual
theorem my : (p : Pt) → (v : Value) → (fx : Fx) → (sm : Option Value) → (N : List Nm) → (D : List Dyn) → (I : Its) → (X : Bxs) → (N' : List Nm) → Sem p v fx sm N D I X N' → Pre N N'
 | .int _, v, fx, sm, N, D, I, X, N', h | .bool, v, fx, sm, N, D, I, X, N', h | .str, v, fx, sm, N, D, I, X, N', h => by obtain ⟨_, _, _, _, _, rfl⟩ := h; exact .refl
 | .sli t, v, fx, sm, N, D, I, X, N', h => by obtain ⟨a, l, _, _, _, _, rfl⟩ := h; exact .one
 | .own t e m, v, fx, sm, N, D, I, X, N', h => by obtain ⟨a, l, _, _, _, _, _, rfl, _⟩ := h; exact .one
 | .slr n, v, fx, sm, N, D, I, X, N', h | .ptr n _, v, fx, sm, N, D, I, X, N', h => by obtain ⟨a, _, _, _, _, _, rfl⟩ := h; exact .refl
 | .bx t off m vs, v, fx, sm, N, D, I, X, N', h => by
  obtain ⟨a, cs, I', X', _, _, h1, _⟩ := h
  exact Pre.one.trans (gZ vs _ _ _ _ _ _ _ h1)
 | .mp k u m, v, fx, sm, N, D, I, X, N', h => by obtain ⟨a, d, _, _, _, _, _, rfl⟩ := h; exact .one
 | .it, v, fx, sm, N, D, I, X, N', h => by obtain ⟨a, s, p, _, _, _, _, _, rfl⟩ := h; exact .one
 | .agg l, v, fx, sm, N, D, I, X, N', h => by obtain ⟨cs, _, h1⟩ := h; exact gZ l _ _ _ _ _ _ _ h1
 | .tup l, v, fx, sm, N, D, I, X, N', h => by obtain ⟨cs, _, h1⟩ := h; exact gZ l _ _ _ _ _ _ _ h1
 | .fn f a b, v, fx, sm, N, D, I, X, N', h => by
  obtain ⟨us, vs, D1, D2, I1, I2, X1, X2, N1, _, h1, h2, _⟩ := h
  exact (gZ a _ _ _ _ _ _ _ h1).trans (gZ b _ _ _ _ _ _ _ h2)
 | .ifc t p, v, fx, sm, N, D, I, X, N', h => by obtain ⟨u, _, h1⟩ := h; exact my p _ _ _ _ _ _ _ _ h1
 | .cst c, v, fx, sm, N, D, I, X, N', h => by obtain ⟨_, _, _, _, rfl⟩ := h; exact .refl
 | .dat t o, v, fx, sm, N, D, I, X, N', h => by obtain ⟨cs, x, o', _, _, h1, _⟩ := h; exact oA t _ _ _ _ _ _ _ h1
 | .sfp, v, fx, sm, N, D, I, X, N', h => by obtain ⟨_, _, _, _, _, _, _, rfl⟩ := h; exact .refl
 | .same, v, fx, sm, N, D, I, X, N', h => by obtain ⟨_, _, _, _, rfl⟩ := h; exact .refl
theorem gZ : (l : List Pt) → (vs : List Value) → (sms : List Value) → (N : List Nm) → (D : List Dyn) → (I : Its) → (X : Bxs) → (N' : List Nm) → lP l vs sms N D I X N' → Pre N N'
 | [], vs, sms, N, D, I, X, N', h => by obtain ⟨_, _, _, _, rfl⟩ := h; exact .refl
 | p :: l, vs, sms, N, D, I, X, N', h => by
  obtain ⟨v, vs', D1, D2, I1, I2, X1, X2, N1, _, h1, h2, _⟩ := h
  exact (my p _ _ _ _ _ _ _ _ h1).trans (gZ l _ _ _ _ _ _ _ h2)
end
theorem vP {fix : Nat → Fx} {val : Nat → Option Value} : (l : List (Bool × Nat × Pt)) → (N : List Nm) → (D : List Dyn) → (I : Its) → (X : Bxs) → (N' : List Nm) → qj fix val l N D I X N' → Pre N N'
 | [], N, D, I, X, N', h => by obtain ⟨_, _, _, rfl⟩ := h; exact .refl
 | x :: l, N, D, I, X, N', h => by
  obtain ⟨v, D1, D2, I1, I2, X1, X2, N1, _, h1, h2, _⟩ := h
  exact (my _ _ _ _ _ _ _ _ _ h1).trans (vP l _ _ _ _ _ h2)
/-! what is filled is what the form says -/
def RwI (ρ : Nms) (T : Tbl) (a : Bool × Row) (b : Bool × Item) : Prop := a.1 = b.1 ∧ aX b.2 (a.2.item ρ T) ∧ aX (a.2.item ρ T) b.2
section
variable {ρ : Nms} {T : Tbl} {nm : Nat → Nat} {n0 : Nat}
theorem LY {id : Nat} {vs : List Pt} {us : List AV} {cs sms : List Value} {N N' : List Nm} {a : Nm} {D : List Dyn} {I : Its} {X : Bxs} (h : lP vs cs sms (N ++ [a]) D I X N') (hP : (ρ id).b = a.b) (hv : AV.ae ρ us = cs) : AV.ae ρ (reS id vs us) = cs := by
 unfold reS
 split
 ·rename_i l j f us'
  obtain ⟨v, vs', D1, D3, I1, I2, X1, X2, N1, rfl, h1, _⟩ := h
  obtain ⟨a', f', ha, rfl, _⟩ := h1
  have e : a' = a := by simpa using ha.symm
  subst e
  simp only [AV.ae, AV.val, List.cons.injEq] at hv ⊢
  refine ⟨?_, hv.2⟩
  rw [hP]
  have h2 := hv.1
  cases f <;> cases f' <;> simp [n8] at h2 ⊢
 ·exact hv
def lU (ρ : Nms) (nm : Nat → Nat) (n0 : Nat) (N : List Nm) : Prop := ∀ i a, N[i]? = some a → (ρ (nm i)).b = a.b ∧ (ρ (nm i)).v = a.v ∧ (ρ (nm i)).m = a.m ∧ (n0 ≤ i → (ρ (nm i)).y = a.y)
theorem lU.pre {A B : List Nm} (h : lU ρ nm n0 B) (k : Pre A B) : lU ρ nm n0 A := fun i a ha => h i a (k.at_ ha)
theorem lU.last {A : List Nm} {a : Nm} (h : lU ρ nm n0 (A ++ [a])) : (ρ (nm A.length)).b = a.b ∧ (ρ (nm A.length)).v = a.v ∧ (ρ (nm A.length)).m = a.m ∧ (n0 ≤ A.length → (ρ (nm A.length)).y = a.y) := h _ _ (by simp)
theorem Bl {t : Ty} {a : Nm} {l : List t.T} {j : Nat} (h : (ρ j).v = a.v) : aX (tW true t.rep a.v l false) ((Row.sli none j t l false).item ρ T) ∧ aX ((Row.sli none j t l false).item ρ T) (tW true t.rep a.v l false) := by
 simp only [Row.item, h]
 exact ⟨⟨fun _ h => h, fun M w h _ => h rfl⟩, ⟨fun _ h => h, fun M w h _ => h Tbl.get_none⟩⟩
theorem Cy {t : Ty} {e : TypeId} {a : Nm} {l : List t.T} {j ver : Nat} (h : (ρ j).v = a.v) (hy : (ρ ver).y = ⟨.l t, l⟩) : aX (mH t.rep e a.v l True) ((Row.own j t e l ver).item ρ T) ∧ aX ((Row.own j t e l ver).item ρ T) (mH t.rep e a.v l True) := by
 simp only [Row.item, h]
 exact ⟨⟨fun _ h => h, fun M w h => ⟨h.1, hy⟩⟩, ⟨fun _ h => h, fun M w h => ⟨h.1, trivial⟩⟩⟩
theorem zz : (t : Ty) → (x : t.T) → (cs : List Value) → (o : List (Option TypeId)) → (N : List Nm) → (I : Its) → (N' : List Nm) → (o' : List (Option TypeId)) → vO t x cs o N I N' o' → lU ρ nm n0 N' → n0 ≤ N.length →
  AV.ae ρ (dQ nm t x N.length o).vs = cs ∧ (dQ nm t x N.length o).k = N'.length ∧ (dQ nm t x N.length o).o = o' ∧ cT (RwI ρ T) (dQ nm t x N.length o).R I
 | .i k, x, cs, o, N, I, N', o', h, hn, hle => by
  obtain ⟨rfl, rfl, rfl, rfl⟩ := h
  exact ⟨by simp only [dQ, AV.ae, AV.val], rfl, rfl, .nil⟩
 | .bo, x, cs, o, N, I, N', o', h, hn, hle => by
  obtain ⟨rfl, rfl, rfl, rfl⟩ := h
  exact ⟨by simp only [dQ, AV.ae, AV.val], rfl, rfl, .nil⟩
 | .s, x, cs, o, N, I, N', o', h, hn, hle => by
  obtain ⟨rfl, rfl, rfl, rfl⟩ := h
  exact ⟨by simp only [dQ, AV.ae, AV.val], rfl, rfl, .nil⟩
 | .un, x, cs, o, N, I, N', o', h, hn, hle => by
  obtain ⟨rfl, rfl, rfl, rfl⟩ := h
  exact ⟨by simp only [dQ, AV.ae], rfl, rfl, .nil⟩
 | .n, x, cs, o, N, I, N', o', h, hn, hle => h.elim
 | .mp _ _, x, cs, o, N, I, N', o', h, hn, hle => h.elim
 | .p a b, x, cs, o, N, I, N', o', h, hn, hle => by
  obtain ⟨c1, c2, N1, I1, I2, o1, h1, h2, rfl, rfl⟩ := h
  have p2 := oA b _ _ _ _ _ _ _ h2
  obtain ⟨a1, a2, a3, a4⟩ := zz a x.1 c1 o N I1 N1 o1 h1 (hn.pre p2) hle
  obtain ⟨b1, b2, b3, b4⟩ := zz b x.2 c2 o1 N1 I2 N' o' h2 hn (Nat.le_trans hle (oA a _ _ _ _ _ _ _ h1).len)
  unfold dQ
  generalize dQ nm a x.1 N.length o = L1 at a1 a2 a3 a4
  obtain ⟨u, p, n, oo⟩ := L1
  simp only at a1 a2 a3 a4
  subst a2; subst a3
  dsimp only
  generalize dQ nm b x.2 N1.length oo = L2 at b1 b2 b3 b4
  obtain ⟨u2, p2, n2, oo2⟩ := L2
  simp only at b1 b2 b3 b4
  dsimp only
  exact ⟨by rw [bS, a1, b1], b2, b3, a4.append b4⟩
 | .l t, x, cs, o, N, I, N', o', h, hn, hle => by
  obtain ⟨a, rfl, rfl, h⟩ := h
  have hl := hn.last
  rcases h with ⟨rfl, rfl⟩ | ⟨e, rfl, rfl, hy⟩
  ·exact ⟨by simp only [dQ, AV.ae, AV.val, hl.2.1], by simp [dQ], rfl, .cons ⟨rfl, Bl hl.2.1⟩ .nil⟩
  ·exact ⟨by simp only [dQ, AV.ae, AV.val, hl.2.1], by simp [dQ], rfl, .cons ⟨rfl, Cy hl.2.1 (by rw [hl.2.2.2 hle]; exact hy)⟩ .nil⟩
 | .ex, x, cs, o, N, I, N', o', h, hn, hle => by
  obtain ⟨a, rfl, rfl, h⟩ := h
  have hl := hn.last
  rcases h with ⟨rfl, rfl⟩ | ⟨e, rfl, rfl, hy⟩
  ·exact ⟨by simp only [dQ, AV.ae, AV.val, hl.2.1], by simp [dQ], rfl, .cons ⟨rfl, Bl (t := .ex) hl.2.1⟩ .nil⟩
  ·exact ⟨by simp only [dQ, AV.ae, AV.val, hl.2.1], by simp [dQ], rfl, .cons ⟨rfl, Cy (t := .ex) hl.2.1 (by rw [hl.2.2.2 hle]; exact hy)⟩ .nil⟩
theorem N6 {p q : SLV} (h : sl p = sl q) : p = q := by
 obtain ⟨a, b, c⟩ := p
 obtain ⟨a', b', c'⟩ := q
 simp only [sl, Value.slice.injEq] at h
 rw [h.1, h.2.1, h.2.2]
theorem OB {fx : FxA} {N : List Nm} {a : Nm} (hn : lU ρ nm n0 (N ++ [a])) (hf : sQ (ie ρ fx) (sl a.v)) : (ρ (nmS nm fx N.length)).v = a.v := by
 unfold nmS
 split
 ·have := hf _ rfl
  simp only [AV.val] at this
  exact (N6 this).symm
 ·rw [hn.last.2.1]
theorem Ib {fx : FxA} {N : List Nm} {a : Nm} {off : Nat} (hn : (ρ (nm N.length)).b = a.b) (hf : sQ (ie ρ fx) (.pointer (some ⟨a.b, off, none⟩))) : (ρ (nmP nm fx N.length)).b = a.b := by
 unfold nmP
 split
 ·have := hf _ rfl
  simp only [AV.val, Value.pointer.injEq, Option.some.injEq, Addr.mk.injEq] at this
  exact this.1.symm
 ·rw [hn]
theorem Oq {fx : FxA} {N : List Nm} {a : Nm} (hn : lU ρ nm n0 (N ++ [a])) (hf : sQ (ie ρ fx) (.map a.m)) : (ρ (nmM nm fx N.length)).m = a.m := by
 unfold nmM
 split
 ·have := hf _ rfl
  simp only [AV.val, Value.map.injEq] at this
  exact this.symm
 ·rw [hn.last.2.2.1]
mutual
theorem qK : (p : Pt) → (v : Value) → (fx : FxA) → (sm : Option AV) → (N : List Nm) → (D : List Dyn) → (I : Its) → (X : Bxs) → (N' : List Nm) → Sem p v (ie ρ fx) (sm.map (AV.val ρ)) N D I X N' → lU ρ nm n0 N' → n0 ≤ N.length → (D2 : List Dyn) →
  (fill nm p fx sm N.length (D ++ D2)).v.val ρ = v ∧ (fill nm p fx sm N.length (D ++ D2)).k = N'.length ∧ (fill nm p fx sm N.length (D ++ D2)).D = D2 ∧ X = bZ ρ (fill nm p fx sm N.length (D ++ D2)).X ∧ cT (RwI ρ T) (fill nm p fx sm N.length (D ++ D2)).R I
 | .int k, v, fx, sm, N, D, I, X, N', h, hn, hle, D2 => by
  obtain ⟨x, rfl, rfl, rfl, rfl, rfl⟩ := h
  exact ⟨by simp only [fill, List.singleton_append, NP, AV.val], rfl, rfl, rfl, .nil⟩
 | .bool, v, fx, sm, N, D, I, X, N', h, hn, hle, D2 => by
  obtain ⟨x, rfl, rfl, rfl, rfl, rfl⟩ := h
  exact ⟨by simp only [fill, List.singleton_append, N8, AV.val], rfl, rfl, rfl, .nil⟩
 | .str, v, fx, sm, N, D, I, X, N', h, hn, hle, D2 => by
  obtain ⟨x, rfl, rfl, rfl, rfl, rfl⟩ := h
  exact ⟨by simp only [fill, List.singleton_append, HW, AV.val], rfl, rfl, rfl, .nil⟩
 | .sli t, v, fx, sm, N, D, I, X, N', h, hn, hle, D2 => by
  obtain ⟨a, l, rfl, rfl, rfl, rfl, rfl⟩ := h
  have hl := hn.last
  refine ⟨by simp only [fill, AV.val, hl.2.1], by simp [fill], rfl, rfl, .cons ⟨rfl, ?_⟩ .nil⟩
  show aX _ ((Row.sli none (nm N.length) t (dR (.l t) (⟨.l t, l⟩ :: D2)) false).item ρ T) ∧ aX ((Row.sli none (nm N.length) t (dR (.l t) (⟨.l t, l⟩ :: D2)) false).item ρ T) _
  rw [HJ]
  exact Bl hl.2.1
 | .own t e m, v, fx, sm, N, D, I, X, N', h, hn, hle, D2 => by
  obtain ⟨a, l, rfl, hf, rfl, rfl, rfl, rfl, hy⟩ := h
  have hS := OB hn hf
  refine ⟨by simp only [fill, AV.val, hS], by simp [fill], rfl, rfl, .cons ⟨rfl, ?_⟩ .nil⟩
  show aX _ ((Row.own (nmS nm fx N.length) t e (dR (.l t) (⟨.l t, l⟩ :: D2)) (nm N.length)).item ρ T) ∧ aX ((Row.own (nmS nm fx N.length) t e (dR (.l t) (⟨.l t, l⟩ :: D2)) (nm N.length)).item ρ T) _
  rw [HJ]
  exact Cy hS (by rw [hn.last.2.2.2 hle]; exact hy)
 | .slr n, v, fx, sm, N, D, I, X, N', h, hn, hle, D2 => by
  obtain ⟨a, ha, rfl, rfl, rfl, rfl, rfl⟩ := h
  exact ⟨by simp only [fill, AV.val, (hn _ _ ha).2.1], rfl, rfl, rfl, .nil⟩
 | .bx t off m vs, v, fx, sm, N, D, I, X, N', h, hn, hle, D2 => by
  obtain ⟨a, cs, I', X', rfl, hf, h1, rfl, rfl⟩ := h
  rw [EH] at h1
  have p1 := gZ vs _ _ _ _ _ _ _ h1
  have hl := hn.pre p1
  have hP := Ib hl.last.1 hf
  have hlen : (N ++ [a]).length = N.length + 1 := by simp
  obtain ⟨b1, b2, b3, b4, b5⟩ := ki vs cs (rh fx) (N ++ [a]) D I' X' N' h1 hn (by simp; omega) D2
  rw [hlen] at b1 b2 b3 b4 b5
  unfold fill
  generalize cB nm vs (rh fx) (N.length + 1) (D ++ D2) = L at b1 b2 b3 b4 b5
  obtain ⟨us, R, k, DD, XX⟩ := L
  simp only at b1 b2 b3 b4 b5
  dsimp only
  have b6 : AV.ae ρ (reS (nmP nm fx N.length) vs us) = cs := LY h1 hP b1
  refine ⟨by simp only [AV.val, hP], b2, b3, ?_, .cons ⟨rfl, ?_⟩ b5⟩
  ·rw [b4]; cases m <;> simp [bZ, b6]
  ·simp only [Row.item, hP, b6]; exact ⟨aX.refl, aX.refl⟩
 | .ptr n off, v, fx, sm, N, D, I, X, N', h, hn, hle, D2 => by
  obtain ⟨a, ha, rfl, rfl, rfl, rfl, rfl⟩ := h
  exact ⟨by simp only [fill, AV.val, (hn _ _ ha).1], rfl, rfl, rfl, .nil⟩
 | .mp k u m, v, fx, sm, N, D, I, X, N', h, hn, hle, D2 => by
  obtain ⟨a, d, rfl, hf, rfl, rfl, rfl, rfl⟩ := h
  have hM := Oq hn hf
  refine ⟨by simp only [fill, AV.val, hM], by simp [fill], rfl, rfl, .cons ⟨rfl, ?_⟩ .nil⟩
  show aX _ ((Row.mp (nmM nm fx N.length) k u (dR (.mp k u) (⟨.mp k u, d⟩ :: D2))).item ρ T) ∧ aX ((Row.mp (nmM nm fx N.length) k u (dR (.mp k u) (⟨.mp k u, d⟩ :: D2))).item ρ T) _
  rw [LL]
  simp only [Row.item, hM]; exact ⟨aX.refl, aX.refl⟩
 | .it, v, fx, sm, N, D, I, X, N', h, hn, hle, D2 => by
  obtain ⟨a, s, p, rfl, hf, rfl, rfl, rfl, rfl⟩ := h
  have hP := Ib hn.last.1 hf
  refine ⟨by simp only [fill, AV.val, hP], by simp [fill], rfl, rfl, .cons ⟨rfl, ?_⟩ .nil⟩
  show aX _ ((Row.it (nmP nm fx N.length) (dR .s (⟨.s, s⟩ :: ⟨.n, p⟩ :: D2)) (dR .n (⟨.n, p⟩ :: D2))).item ρ T) ∧ aX ((Row.it (nmP nm fx N.length) (dR .s (⟨.s, s⟩ :: ⟨.n, p⟩ :: D2)) (dR .n (⟨.n, p⟩ :: D2))).item ρ T) _
  rw [HW, ND]
  simp only [Row.item, hP]; exact ⟨aX.refl, aX.refl⟩
 | .agg l, v, fx, sm, N, D, I, X, N', h, hn, hle, D2 => by
  obtain ⟨cs, rfl, h1⟩ := h
  obtain ⟨b1, b2, b3, b4, b5⟩ := ki l cs [] N D I X N' (by simpa only [AV.ae] using h1) hn hle D2
  unfold fill
  generalize cB nm l [] N.length (D ++ D2) = L at b1 b2 b3 b4 b5
  obtain ⟨us, R, k, DD, XX⟩ := L
  simp only at b1 b2 b3 b4 b5
  dsimp only
  exact ⟨by simp only [AV.val, b1], b2, b3, b4, b5⟩
 | .tup l, v, fx, sm, N, D, I, X, N', h, hn, hle, D2 => by
  obtain ⟨cs, rfl, h1⟩ := h
  obtain ⟨b1, b2, b3, b4, b5⟩ := ki l cs [] N D I X N' (by simpa only [AV.ae] using h1) hn hle D2
  unfold fill
  generalize cB nm l [] N.length (D ++ D2) = L at b1 b2 b3 b4 b5
  obtain ⟨us, R, k, DD, XX⟩ := L
  simp only at b1 b2 b3 b4 b5
  dsimp only
  exact ⟨by simp only [AV.val, b1], b2, b3, b4, b5⟩
 | .fn f a b, v, fx, sm, N, D, I, X, N', h, hn, hle, D2 => by
  obtain ⟨us, vs, D1, D3, I1, I2, X1, X2, N1, rfl, h1, h2, rfl, rfl, rfl⟩ := h
  have p2 := gZ b _ _ _ _ _ _ _ h2
  obtain ⟨b1, b2, b3, b4, b5⟩ := ki a us [] N D1 I1 X1 N1 (by simpa only [AV.ae] using h1) (hn.pre p2) hle (D3 ++ D2)
  obtain ⟨c1, c2, c3, c4, c5⟩ := ki b vs [] N1 D3 I2 X2 N' (by simpa only [AV.ae] using h2) hn (Nat.le_trans hle (gZ a _ _ _ _ _ _ _ h1).len) D2
  unfold fill
  rw [List.append_assoc]
  generalize cB nm a [] N.length (D1 ++ (D3 ++ D2)) = L at b1 b2 b3 b4 b5
  obtain ⟨us', R, k, DD, XX⟩ := L
  simp only at b1 b2 b3 b4 b5
  subst b2; subst b3
  dsimp only
  generalize cB nm b [] N1.length (D3 ++ D2) = L at c1 c2 c3 c4 c5
  obtain ⟨us2, R2, k2, DD2, XX2⟩ := L
  simp only at c1 c2 c3 c4 c5
  dsimp only
  exact ⟨by simp only [AV.val, b1, c1], c2, c3, by rw [b4, c4]; simp [bZ], b5.append c5⟩
 | .ifc t p, v, fx, sm, N, D, I, X, N', h, hn, hle, D2 => by
  obtain ⟨u, rfl, h1⟩ := h
  obtain ⟨b1, b2, b3, b4, b5⟩ := qK p u none none N D I X N' h1 hn hle D2
  unfold fill
  generalize fill nm p none none N.length (D ++ D2) = L at b1 b2 b3 b4 b5
  obtain ⟨us, R, k, DD, XX⟩ := L
  simp only at b1 b2 b3 b4 b5
  dsimp only
  exact ⟨by simp only [AV.val, b1], b2, b3, b4, b5⟩
 | .cst c, v, fx, sm, N, D, I, X, N', h, hn, hle, D2 => by
  obtain ⟨⟨h1, h0⟩, rfl, rfl, rfl, rfl⟩ := h
  exact ⟨by rw [h1]; exact h0 ρ, rfl, rfl, rfl, .nil⟩
 | .dat t o, v, fx, sm, N, D, I, X, N', h, hn, hle, D2 => by
  obtain ⟨cs, x, o', rfl, rfl, h1, rfl⟩ := h
  obtain ⟨b1, b2, b3, b5⟩ := zz (T := T) t x cs o N I N' o' h1 hn hle
  unfold fill
  rw [List.singleton_append, jy]
  generalize dQ nm t x N.length o = L at b1 b2 b3 b5
  obtain ⟨us, R, k, oo⟩ := L
  simp only at b1 b2 b3 b5
  dsimp only
  exact ⟨by simp only [AV.val, b1], b2, rfl, rfl, b5⟩
 | .sfp, v, fx, sm, N, D, I, X, N', h, hn, hle, D2 => by
  obtain ⟨a, f, ha, rfl, rfl, rfl, rfl, rfl⟩ := h
  refine ⟨?_, rfl, rfl, rfl, .nil⟩
  simp only [fill, AV.val, (hn _ _ ha).1, List.singleton_append]
  rfl
 | .same, v, fx, sm, N, D, I, X, N', h, hn, hle, D2 => by
  obtain ⟨h1, rfl, rfl, rfl, rfl⟩ := h
  refine ⟨?_, rfl, rfl, rfl, .nil⟩
  simp only [fill, Lm]
  rcases h1 with ⟨p, hp, rfl⟩ | ⟨hs0, h1⟩
  ·cases fx with
   | none => cases hp
   | some q => cases hp; rfl
  ·cases fx with
   | some q => cases hs0
   | none =>
    cases sm with
    | none => cases h1
    | some y => cases h1; rfl
theorem ki : (l : List Pt) → (vs : List Value) → (sms : List AV) → (N : List Nm) → (D : List Dyn) → (I : Its) → (X : Bxs) → (N' : List Nm) → lP l vs (AV.ae ρ sms) N D I X N' → lU ρ nm n0 N' → n0 ≤ N.length → (D2 : List Dyn) →
  AV.ae ρ (cB nm l sms N.length (D ++ D2)).vs = vs ∧ (cB nm l sms N.length (D ++ D2)).k = N'.length ∧ (cB nm l sms N.length (D ++ D2)).D = D2 ∧ X = bZ ρ (cB nm l sms N.length (D ++ D2)).X ∧ cT (RwI ρ T) (cB nm l sms N.length (D ++ D2)).R I
 | [], vs, sms, N, D, I, X, N', h, hn, hle, D2 => by
  obtain ⟨rfl, rfl, rfl, rfl, rfl⟩ := h
  exact ⟨by simp only [cB, AV.ae], rfl, rfl, rfl, .nil⟩
 | p :: l, vs, sms, N, D, I, X, N', h, hn, hle, D2 => by
  obtain ⟨v, vs', D1, D3, I1, I2, X1, X2, N1, rfl, h1, h2, rfl, rfl, rfl⟩ := h
  rw [zV] at h1
  rw [Ax] at h2
  have p2 := gZ l _ _ _ _ _ _ _ h2
  obtain ⟨b1, b2, b3, b4, b5⟩ := qK p v none sms.head? N D1 I1 X1 N1 h1 (hn.pre p2) hle (D3 ++ D2)
  obtain ⟨c1, c2, c3, c4, c5⟩ := ki l vs' sms.tail N1 D3 I2 X2 N' h2 hn (Nat.le_trans hle (my p _ _ _ _ _ _ _ _ h1).len) D2
  unfold cB
  rw [List.append_assoc]
  generalize fill nm p none sms.head? N.length (D1 ++ (D3 ++ D2)) = L at b1 b2 b3 b4 b5
  obtain ⟨us', R, k, DD, XX⟩ := L
  simp only at b1 b2 b3 b4 b5
  subst b2; subst b3
  dsimp only
  generalize cB nm l sms.tail N1.length (D3 ++ D2) = L at c1 c2 c3 c4 c5
  obtain ⟨us2, R2, k2, DD2, XX2⟩ := L
  simp only at c1 c2 c3 c4 c5
  dsimp only
  exact ⟨by simp only [AV.ae, b1, c1], c2, c3, by rw [b4, c4]; simp [bZ], b5.append c5⟩
end
def Lk : List (Bool × Nat × Pt) → List Nat
 | [] => []
 | x :: l => ifS x.1 (Lk l) (x.2.1 :: Lk l)
theorem wC {fix : Nat → FxA} {lk : Nat → Option Value} : (l : List (Bool × Nat × Pt)) → (N : List Nm) → (D : List Dyn) → (I : Its) → (X : Bxs) → (N' : List Nm) → qj (fun i => ie ρ (fix i)) lk l N D I X N' → lU ρ nm n0 N' → n0 ≤ N.length → (D2 : List Dyn) →
  (∀ t p, look (al.env ρ [] (c8 nm fix l N.length (D ++ D2)).E) t = some p → p.1 = true ∧ lk t = some p.2) ∧ (c8 nm fix l N.length (D ++ D2)).k = N'.length ∧ (c8 nm fix l N.length (D ++ D2)).D = D2 ∧ cT (RwI ρ T) (c8 nm fix l N.length (D ++ D2)).R I
 | [], N, D, I, X, N', h, hn, hle, D2 => by
  obtain ⟨rfl, rfl, rfl, rfl⟩ := h
  exact ⟨(fun t p h => by cases h), rfl, rfl, .nil⟩
 | (b, t, p) :: l, N, D, I, X, N', h, hn, hle, D2 => by
  obtain ⟨v, D1, D3, I1, I2, X1, X2, N1, hv, h1, h2, rfl, rfl, rfl⟩ := h
  have p2 := vP l _ _ _ _ _ h2
  have h1' : Sem p v (ie ρ (ifS b (fix t) none)) ((none : Option AV).map (AV.val ρ)) N D1 I1 X1 N1 := by
   cases b <;> exact h1
  obtain ⟨b1, b2, b3, b4, b5⟩ := qK (T := T) p v _ none N D1 I1 X1 N1 h1' (hn.pre p2) hle (D3 ++ D2)
  obtain ⟨c1, c2, c3, c5⟩ := wC l N1 D3 I2 X2 N' h2 hn (Nat.le_trans hle (my p _ _ _ _ _ _ _ _ h1).len) D2
  unfold c8
  rw [List.append_assoc]
  dsimp only
  generalize fill nm p (ifS b (fix t) none) none N.length (D1 ++ (D3 ++ D2)) = L at b1 b2 b3 b4 b5
  obtain ⟨us', R, k, DD, XX⟩ := L
  simp only at b1 b2 b3 b4 b5
  subst b2; subst b3
  dsimp only
  generalize c8 nm fix l N1.length (D3 ++ D2) = L at c1 c2 c3 c5
  obtain ⟨E2, R2, k2, DD2⟩ := L
  simp only at c1 c2 c3 c5
  dsimp only
  refine ⟨fun t' q hq => ?_, c2, c3, b5.append c5⟩
  cases b
  ·simp only [al.env, look] at hq
   cases hb : Nat.beq t t'
   ·rw [hb] at hq; exact c1 t' q hq
   ·rw [hb] at hq
    simp only [cond_true, Option.some.injEq] at hq
    subst hq
    have := Nat.eq_of_beq_eq_true hb
    subst this
    refine ⟨Tbl.get_none, ?_⟩
    have hv' : lk t = some v := hv
    rw [hv', b1]
  ·exact c1 t' q hq
end
end Go.Proofs.YtpnogcmollnjeaaGreatDoor
namespace Go.Proofs.YtpnogcmollnjeaaGreatDoor
open Go.Lib
section
variable {Γ Γ' : Ctx} {w : World}
theorem Sat.qd (h : Sat Γ w) (Rl : Nat → Nat → Prop) (h1 : ∀ (j : Nat) (jt : Item), Γ'[j]? = some jt → (jt.own = [] ∧ ∀ M w, jt.P M w) ∨ ∃ (i : Nat) (it : Item), Rl j i ∧ Γ[i]? = some it ∧ aX it jt)
  (h2 : ∀ (j k i : Nat), j ≠ k → Rl j i → Rl k i → False) : Sat Γ' w := by
 have mv : Mv Γ.M w (Ctx.M Γ') w := Mv.weaken w fun b hb => by
  obtain ⟨it, hi, hb⟩ := hb
  obtain ⟨k, hk⟩ := List.mem_iff_getElem?.1 hi
  rcases h1 k it hk with ⟨h3, _⟩ | ⟨i, jt, _, h4, h5⟩
  ·rw [h3] at hb; cases hb
  ·exact Ctx.gN h4 (h5.1 b hb)
 refine ⟨fun jt hj => ?_, fun j k jt kt hj hk hjk b hb hb' => ?_⟩
 ·obtain ⟨k, hk⟩ := List.mem_iff_getElem?.1 hj
  rcases h1 k jt hk with ⟨_, h3⟩ | ⟨i, it, _, h4, h5⟩
  ·exact h3 _ _
  ·exact h5.2 _ _ (it.bq (h.at_ h4) mv (fun _ _ => rfl) (da.refl w))
 ·rcases h1 j jt hj with ⟨h3, _⟩ | ⟨i, it, r1, h4, h5⟩
  ·rw [h3] at hb; cases hb
  ·rcases h1 k kt hk with ⟨h3, _⟩ | ⟨i', it', r2, h4', h5'⟩
   ·rw [h3] at hb'; cases hb'
   ·by_cases e : i = i'
    ·subst e; exact h2 j k i hjk r1 r2
    ·exact h.sep i i' it it' h4 h4' e b (h5.1 b hb) (h5'.1 b hb')
def gq : Item := Bi True
theorem Sat.pull (h : Sat Γ w) {i : Nat} {it jt : Item} (hi : Γ[i]? = some it) (hl : aX it jt) : Sat (jt :: Γ.set i gq) w := by
 refine h.qd (fun j k => (j = 0 ∧ k = i) ∨ (j = k + 1 ∧ k ≠ i)) (fun j kt hj => ?_) (fun j k q hjk h1 h2 => by omega)
 cases j with
 | zero => simp at hj; subst hj; exact .inr ⟨i, it, .inl ⟨rfl, rfl⟩, hi, hl⟩
 | succ j =>
  simp only [List.getElem?_cons_succ] at hj
  by_cases e : j = i
  ·subst e
   rw [List.getElem?_set_self (List.getElem?_eq_some_iff.1 hi).1] at hj
   cases hj
   exact .inl ⟨rfl, fun _ _ => trivial⟩
  ·rw [List.getElem?_set_ne (fun h => e h.symm)] at hj
   exact .inr ⟨j, kt, .inr ⟨rfl, e⟩, hj, aX.refl⟩
theorem Sat.uy {A B : Ctx} {x : Item} (h : Sat (A ++ x :: B) w) : Sat (A ++ B) w := by
 refine h.qd (fun j k => (j < A.length ∧ k = j) ∨ (A.length ≤ j ∧ k = j + 1)) (fun j jt hj => ?_) (fun j k q hjk h1 h2 => by omega)
 by_cases e : j < A.length
 ·rw [List.getElem?_append_left e] at hj
  exact .inr ⟨j, jt, .inl ⟨e, rfl⟩, by rw [List.getElem?_append_left e]; exact hj, aX.refl⟩
 ·have e' : A.length ≤ j := by omega
  rw [List.getElem?_append_right e'] at hj
  refine .inr ⟨j + 1, jt, .inr ⟨e', rfl⟩, ?_, aX.refl⟩
  rw [List.getElem?_append_right (by omega)]
  have : j + 1 - A.length = (j - A.length) + 1 := by omega
  rw [this]
  simpa using hj
theorem Sat.Md {A B : Ctx} {x jt : Item} {k : Nat} (h : Sat (A ++ x :: B.set k gq) w) (hk : B[k]? = some jt) (hl : aX x jt) : Sat (A ++ B) w := by
 have hlt := (List.getElem?_eq_some_iff.1 hk).1
 refine h.qd (fun j q => (j < A.length ∧ q = j) ∨ (j = A.length + k ∧ q = A.length) ∨ (A.length ≤ j ∧ j ≠ A.length + k ∧ q = j + 1)) (fun j kt hj => ?_) (fun j k q hjk h1 h2 => by omega)
 by_cases e : j < A.length
 ·rw [List.getElem?_append_left e] at hj
  exact .inr ⟨j, kt, .inl ⟨e, rfl⟩, by rw [List.getElem?_append_left e]; exact hj, aX.refl⟩
 ·have e' : A.length ≤ j := by omega
  rw [List.getElem?_append_right e'] at hj
  by_cases e2 : j = A.length + k
  ·subst e2
   rw [show A.length + k - A.length = k by omega, hk] at hj
   cases hj
   exact .inr ⟨A.length, x, .inr (.inl ⟨rfl, rfl⟩), by simp, hl⟩
  ·refine .inr ⟨j + 1, kt, .inr (.inr ⟨e', e2, rfl⟩), ?_, aX.refl⟩
   rw [List.getElem?_append_right (by omega)]
   have : j + 1 - A.length = (j - A.length) + 1 := by omega
   rw [this, List.getElem?_cons_succ, List.getElem?_set_ne (by omega)]
   exact hj
theorem Sat.le2 {A B : Ctx} {x y : Item} (h : Sat (A ++ x :: B) w) (hl : aX x y) : Sat (A ++ y :: B) w := by
 refine h.qd (fun j k => j = k) (fun j jt hj => ?_) (fun j k q hjk h1 h2 => by omega)
 by_cases e : j < A.length
 ·rw [List.getElem?_append_left e] at hj
  exact .inr ⟨j, jt, rfl, by rw [List.getElem?_append_left e]; exact hj, aX.refl⟩
 ·have e' : A.length ≤ j := by omega
  rw [List.getElem?_append_right e'] at hj
  by_cases e2 : j = A.length
  ·subst e2
   simp at hj
   subst hj
   exact .inr ⟨A.length, x, rfl, by simp, hl⟩
  ·refine .inr ⟨j, jt, rfl, ?_, aX.refl⟩
   rw [List.getElem?_append_right e']
   have : j - A.length = (j - A.length - 1) + 1 := by omega
   rw [this, List.getElem?_cons_succ] at hj ⊢
   exact hj
theorem Sat.leL {A B C : Ctx} (h : Sat (A ++ (B ++ C)) w) {B' : Ctx} (hl : cT aX B B') : Sat (A ++ (B' ++ C)) w := by
 induction hl generalizing A with
 | nil => exact h
 | @cons a b l m h1 _ ih =>
  have h2 : Sat (A ++ b :: (l ++ C)) w := h.le2 h1
  have h3 : Sat ((A ++ [b]) ++ (l ++ C)) w := by simpa using h2
  have := ih h3
  simpa using this
/-! things by places -/
def mkP : List (Option Nat) → Ctx → Ctx
 | [], Γ => Γ
 | none :: l, Γ => mkP l Γ
 | some i :: l, Γ => (mkP l Γ).set i gq
def Ndp : List (Option Nat) → Prop
 | [] => True
 | none :: l => Ndp l
 | some i :: l => some i ∉ l ∧ Ndp l
theorem za : ∀ {l : List (Option Nat)} {Γ : Ctx}, (mkP l Γ).length = Γ.length
 | [], _ => rfl
 | none :: l, Γ => za (l := l)
 | some j :: l, Γ => by
  show ((mkP l Γ).set j gq).length = _
  rw [List.length_set, za]
theorem od : ∀ {l : List (Option Nat)} {Γ : Ctx} {i : Nat}, some i ∉ l → (mkP l Γ)[i]? = Γ[i]?
 | [], _, _, _ => rfl
 | none :: l, Γ, i, h => od (l := l) (fun h' => h (List.mem_cons_of_mem _ h'))
 | some j :: l, Γ, i, h => by
  have e : j ≠ i := fun e => h (by rw [e]; exact List.mem_cons_self ..)
  show ((mkP l Γ).set j gq)[i]? = _
  rw [List.getElem?_set_ne e]
  exact od (fun h' => h (List.mem_cons_of_mem _ h'))
theorem rF {x : Item} : ∀ {l : List (Option Nat)} {Γ : Ctx} {i : Nat}, some i ∉ l → (mkP l Γ).set i x = mkP l (Γ.set i x)
 | [], _, _, _ => rfl
 | none :: l, Γ, i, h => rF (l := l) (fun h' => h (List.mem_cons_of_mem _ h'))
 | some j :: l, Γ, i, h => by
  have e : j ≠ i := fun e => h (by rw [e]; exact List.mem_cons_self ..)
  show ((mkP l Γ).set j gq).set i x = (mkP l (Γ.set i x)).set j gq
  rw [List.set_comm _ _ e, rF (fun h' => h (List.mem_cons_of_mem _ h'))]
def PI (Γ : Ctx) (w : World) (o : Option Nat) (x : Bool × Item) : Prop := match o with
 | some i => ∃ jt, Γ[i]? = some jt ∧ aX jt x.2
 | none => x.2.own = [] ∧ x.2.P Γ.M w
abbrev ca (I : Its) : Ctx := I.map (·.2)
def dY (I : Its) : Ctx := I.map fun x => ifS x.1 gq x.2
theorem oq (h : Sat Γ w) : ∀ {L : List (Option Nat)} {I : Its}, cT (PI Γ w) L I → Ndp L → Sat (ca I ++ mkP L Γ) w ∧ ∀ b, Ctx.M (ca I ++ mkP L Γ) b → Γ.M b
 | _, _, .nil, _ => ⟨h, fun _ h => h⟩
 | _, _, .cons (a := none) (b := x) h1 hr, hd => by
  obtain ⟨ih, ihM⟩ := oq h hr hd
  refine ⟨ih.add h1.1 (x.2.bq h1.2 (Mv.weaken w ihM) (fun _ _ => rfl) (da.refl w)), fun b hb => ?_⟩
  rcases Ctx.oE.1 hb with hb | hb
  ·rw [h1.1] at hb; cases hb
  ·exact ihM b hb
 | _, _, .cons (a := some i) (b := x) (l := l) (m := m) h1 hr, hd => by
  obtain ⟨ih, ihM⟩ := oq h hr hd.2
  obtain ⟨jt, hj, hl⟩ := h1
  have hi : (ca m ++ mkP l Γ)[(ca m).length + i]? = some jt := by
   rw [List.getElem?_append_right (by omega), show (ca m).length + i - (ca m).length = i by omega, od hd.1]; exact hj
  have h2 := ih.pull hi hl
  rw [List.set_append_right _ _ (by omega), show (ca m).length + i - (ca m).length = i by omega] at h2
  refine ⟨h2, fun b hb => ?_⟩
  rcases Ctx.oE.1 hb with hb | hb
  ·exact Ctx.gN hj (hl.1 b hb)
  ·obtain ⟨it, h3, h4⟩ := hb
   refine ihM b ?_
   rcases List.mem_append.1 h3 with h3 | h3
   ·exact ⟨it, List.mem_append_left _ h3, h4⟩
   ·rcases List.mem_or_eq_of_mem_set h3 with h3 | h3
    ·exact ⟨it, List.mem_append_right _ h3, h4⟩
    ·subst h3; cases h4
def nf : List (Option Nat) → Its → List (Option Nat)
 | o :: L, x :: I => (ifS x.1 o none) :: nf L I
 | _, _ => []
def oD (Γ : Ctx) (o : Option Nat) (x : Bool × Item) : Prop := match o with
 | some i => ∃ jt, Γ[i]? = some jt ∧ (x.1 = false → aX x.2 jt)
 | none => True
theorem oD.set {Γ : Ctx} {i : Nat} {y : Item} : ∀ {L : List (Option Nat)} {I : Its}, cT (oD Γ) L I → some i ∉ L → cT (oD (Γ.set i y)) L I
 | _, _, .nil, _ => .nil
 | _, _, .cons (a := none) h1 hr, hn => .cons trivial (oD.set hr (fun h => hn (List.mem_cons_of_mem _ h)))
 | _, _, .cons (a := some j) h1 hr, hn => by
  obtain ⟨jt, hj, hl⟩ := h1
  have e : i ≠ j := fun e => hn (by rw [e]; exact List.mem_cons_self ..)
  exact .cons ⟨jt, by rw [List.getElem?_set_ne e]; exact hj, hl⟩ (oD.set hr (fun h => hn (List.mem_cons_of_mem _ h)))
theorem x8 {i : Nat} : ∀ {L : List (Option Nat)} {I : Its}, some i ∈ nf L I → some i ∈ L
 | [], _, h => by cases h
 | o :: L, [], h => by cases h
 | o :: L, x :: I, h => by
  rcases List.mem_cons.1 h with h | h
  ·cases hx : x.1
   ·rw [hx] at h; cases h
   ·rw [hx] at h; exact h ▸ List.mem_cons_self ..
  ·exact List.mem_cons_of_mem _ (x8 h)
theorem rb {A : Ctx} : ∀ {L : List (Option Nat)} {I : Its} {Γ : Ctx}, cT (oD Γ) L I → Ndp L → Sat (A ++ (dY I ++ mkP L Γ)) w → Sat (A ++ mkP (nf L I) Γ) w
 | _, _, _, .nil, _, h => h
 | _, _, _, .cons (a := none) (b := x) (l := l) (m := m) h1 hr, hd, h => by
  have h2 : Sat (A ++ (dY m ++ mkP l _)) w := Sat.uy h
  have := rb hr hd h2
  cases hx : x.1 <;> simpa [nf, hx, mkP] using this
 | _, _, Γ, .cons (a := some i) (b := x) (l := l) (m := m) h1 hr, hd, h => by
  obtain ⟨jt, hj, hl⟩ := h1
  cases hx : x.1
  ·have e1 : dY (x :: m) ++ mkP (some i :: l) Γ = x.2 :: (dY m ++ mkP l Γ).set (m.length + i) gq := by
    show (ifS x.1 gq x.2) :: (dY m ++ (mkP l Γ).set i gq) = _
    rw [hx, List.set_append_right _ _ (by simp [dY])]
    simp [dY]
   rw [e1] at h
   have h2 := h.Md (jt := jt) (by
    rw [List.getElem?_append_right (by simp [dY])]
    have : m.length + i - (dY m).length = i := by simp [dY]
    rw [this, od hd.1]; exact hj) (hl hx)
   have := rb hr hd.2 h2
   simpa [nf, hx, mkP] using this
  ·have e1 : dY (x :: m) ++ mkP (some i :: l) Γ = gq :: (dY m ++ mkP l (Γ.set i gq)) := by
    show (ifS x.1 gq x.2) :: (dY m ++ (mkP l Γ).set i gq) = _
    rw [hx, rF hd.1]
   rw [e1] at h
   have h2 := Sat.uy h
   have := rb (oD.set hr hd.1) hd.2 h2
   rw [← rF (fun h => hd.1 (x8 h))] at this
   simpa [nf, hx, mkP] using this
end
/-! sources by places -/
def bL (G H : List Row) (s : Src) : Option Nat := match s with
 | .top i => (match G[i]? with
  | some r => ifS r.bU none (some i)
  | none => none)
 | .frz i => (match H[i]? with
  | some r => ifS r.bU none (some (G.length + i))
  | none => none)
 | _ => none
def fX (n : Nat) : List (Option Nat) → Bool
 | [] => false
 | o :: l => (match o with
  | some m => Nat.beq n m
  | none => false) || fX n l
theorem wm {n : Nat} : {l : List (Option Nat)} → (fX n l = true ↔ some n ∈ l)
 | [] => by simp [fX]
 | none :: l => by simp [fX, wm]
 | some m :: l => by
  simp only [fX, Bool.or_eq_true, List.mem_cons, Option.some.injEq]
  rw [wm, Nat.beq_eq]
def ph : List (Option Nat) → Bool
 | [] => true
 | o :: l => (match o with
  | some i => !(fX i l)
  | none => true) && ph l
theorem oh : {l : List (Option Nat)} → ph l = true → Ndp l
 | [], _ => trivial
 | none :: l, h => by
  simp only [ph, Bool.true_and] at h
  exact oh (l := l) h
 | some i :: l, h => by
  simp only [ph, Bool.and_eq_true, Bool.not_eq_true'] at h
  exact ⟨(fun h' => by rw [wm.2 h'] at h; cases h.1), oh h.2⟩
def Pe (n : Nat) : List (Bool × Option Nat) → Bool
 | [] => true
 | (m, o) :: l => (match o with
  | some i => ifS m (Nat.blt i n) true
  | none => true) && Pe n l
section
variable {ρ : Nms} {T : Tbl} {G H : List Row} {Φ : Ctx} {w : World}
theorem Src.pos {s : Src} {r : Row} (h : s.at_ G H r) (hp : r.bU = false) : ∃ i, bL G H s = some i ∧ (items ρ T G ++ (items ρ T H ++ Φ))[i]? = some (r.item ρ T) := by
 cases s with
 | top i =>
  have h : G[i]? = some r := h
  exact ⟨i, by simp only [bL, h, hp], eI h⟩
 | frz i =>
  have h : H[i]? = some r := h
  exact ⟨G.length + i, by simp only [bL, h, hp], Ac h⟩
 | nilI => exact h.elim
 | nilO => exact h.elim
 | nilM => exact h.elim
theorem Src.Pk {s : Src} {r : Row} (h : s.at_ G H r) (hp : r.bU = true) : bL G H s = none := by
 cases s with
 | top i =>
  have h : G[i]? = some r := h
  simp only [bL, h, hp]
 | frz i =>
  have h : H[i]? = some r := h
  simp only [bL, h, hp]
 | nilI => exact h.elim
 | nilO => exact h.elim
 | nilM => exact h.elim
theorem Src.Pf {s : Src} (h : ∀ r, ¬ s.at_ G H r) : bL G H s = none := by
 cases s with
 | top i =>
  cases hg : G[i]? with
  | none => simp only [bL, hg]
  | some r => exact (h r hg).elim
 | frz i =>
  cases hg : H[i]? with
  | none => simp only [bL, hg]
  | some r => exact (h r hg).elim
 | nilI => rfl
 | nilO => rfl
 | nilM => rfl
theorem xD (hs : Sat (items ρ T G ++ (items ρ T H ++ Φ)) w) : ∀ {S : List (Bool × Src)} {I : Its}, cT (SI ρ T G H) S I → cT (PI (items ρ T G ++ (items ρ T H ++ Φ)) w) (S.map fun x => bL G H x.2) I ∧ cT (oD (items ρ T G ++ (items ρ T H ++ Φ))) (S.map fun x => bL G H x.2) I
 | _, _, .nil => ⟨.nil, .nil⟩
 | _, _, .cons (a := a) (b := x) h1 hr => by
  obtain ⟨i1, i2⟩ := xD hs hr
  obtain ⟨e, h2⟩ := h1
  rcases h2 with ⟨k1, k2, k3⟩ | ⟨r, k1, k2, k3, k4⟩
  ·have hp := Src.Pf k3
   refine ⟨.cons ?_ i1, .cons ?_ i2⟩
   ·show PI _ _ (bL G H a.2) x; rw [hp]; exact ⟨k1, k2 _ _⟩
   ·show oD _ (bL G H a.2) x; rw [hp]; trivial
  ·cases hpe : r.bU
   ·obtain ⟨i, p1, p2⟩ := Src.pos (ρ := ρ) (T := T) (Φ := Φ) k1 hpe
    refine ⟨.cons ?_ i1, .cons ?_ i2⟩
    ·show PI _ _ (bL G H a.2) x; rw [p1]; exact ⟨_, p2, k2⟩
    ·show oD _ (bL G H a.2) x; rw [p1]; exact ⟨_, p2, fun _ => k4 hpe⟩
   ·have hp := Src.Pk k1 hpe
    refine ⟨.cons ?_ i1, .cons ?_ i2⟩
    ·show PI _ _ (bL G H a.2) x; rw [hp]; exact ⟨k3 hpe, k2.2 _ _ (Src.holds hs k1)⟩
    ·show oD _ (bL G H a.2) x; rw [hp]; trivial
def kc (is : List (Option Nat)) : Nat → List Row → List Row
 | _, [] => []
 | k, r :: G => (ifS (fX k is) .gone r) :: kc is (k + 1) G
def gG : List Row → List Row
 | [] => []
 | r :: G => (match r with
  | .gone => gG G
  | r => r :: gG G)
theorem pT {B : Ctx} : ∀ {G : List Row} {A : Ctx}, Sat (A ++ (items ρ T G ++ B)) w → Sat (A ++ (items ρ T (gG G) ++ B)) w
 | [], _, h => h
 | r :: G, A, h => by
  unfold gG
  split
  ·exact pT (G := G) (Sat.uy h)
  ·have h' : Sat ((A ++ [r.item ρ T]) ++ (items ρ T G ++ B)) w := by simpa [items] using h
   have := pT (G := G) h'
   simpa [items] using this
theorem vr {L : List (Option Nat)} : ∀ {G : List Row} {k : Nat}, items ρ T (kc L k G) = (items ρ T G).mapIdx fun i it => ifS (fX (k + i) L) gq it
 | [], _ => rfl
 | r :: G, k => by
  simp only [kc, items, List.map_cons, List.mapIdx_cons]
  have := vr (L := L) (G := G) (k := k + 1)
  simp only [items] at this
  rw [this]
  congr 1
  ·simp only [Nat.add_zero]; cases fX k L <;> rfl
  ·congr 1
   funext i it
   rw [Nat.add_right_comm, Nat.add_assoc]
theorem Dk : ∀ {L : List (Option Nat)} {Γ : Ctx} {j : Nat}, (mkP L Γ)[j]? = (Γ[j]?).map fun it => ifS (fX j L) gq it
 | [], Γ, j => by
  show Γ[j]? = _
  cases Γ[j]? <;> rfl
 | none :: l, Γ, j => Dk (L := l)
 | some i :: l, Γ, j => by
  show ((mkP l Γ).set i gq)[j]? = _
  by_cases e : i = j
  ·subst e
   rw [List.getElem?_set]
   have hl : (mkP l Γ).length = Γ.length := za
   have e1 : fX i (some i :: l) = true := by simp [fX]
   rw [e1]
   simp only [if_true, hl]
   by_cases hi : i < Γ.length
   ·rw [List.getElem?_eq_getElem hi]; simp [hi]
   ·rw [List.getElem?_eq_none (by omega)]; simp [hi]
  ·rw [List.getElem?_set_ne e, Dk (L := l)]
   have e2 : Nat.beq j i = false := by
    cases hb : Nat.beq j i
    ·rfl
    ·exact absurd (Nat.eq_of_beq_eq_true hb).symm e
   simp [fX, e2]
end
end Go.Proofs.YtpnogcmollnjeaaGreatDoor
namespace Go.Proofs.YtpnogcmollnjeaaGreatDoor
open Go.Lib
structure Ent where
 f : FuncId
 ps : List Pt
 r : Pt
 os : List (Bool × Nat × Pt)
 m : Tup (jU ps) → Option (Tup (hol r ++ ek os))
def I6 : Ty → List (Option TypeId) → Nat × List (Option TypeId)
 | .p a b, o => match I6 a o with
  | (n, o) => match I6 b o with
   | (m, o) => (n + m, o)
 | .l _, o => (1, o.tail)
 | .ex, o => (1, o.tail)
 | _, o => (0, o)
mutual
def JM : Pt → Nat
 | .sli _ | .own _ _ _ | .mp _ _ _ | .it => 1
 | .bx _ _ _ vs => xh vs + 1
 | .agg l | .tup l => xh l
 | .fn _ a b => xh a + xh b
 | .ifc _ p => JM p
 | .dat t o => (I6 t o).1
 | _ => 0
def xh : List Pt → Nat
 | [] => 0
 | p :: l => JM p + xh l
end
def ixN : List Pt → Nat → Nat
 | p :: l, i + 1 => JM p + ixN l i
 | _, _ => 0
def xz (X : Bxs) (n : Nat) : List Value := match X with
 | [] => []
 | x :: X => ifS (Nat.beq x.1 n) x.2 (xz X n)
def tA (X : List (Nat × List AV)) (n : Nat) : List AV := match X with
 | [] => []
 | x :: X => ifS (Nat.beq x.1 n) x.2 (tA X n)
theorem zR {ρ : Nms} {n : Nat} : {X : List (Nat × List AV)} → xz (bZ ρ X) n = AV.ae ρ (tA X n)
 | [] => by simp [xz, tA, AV.ae]
 | x :: X => by
  show (ifS (Nat.beq x.1 n) (AV.ae ρ x.2) (xz (bZ ρ X) n)) = AV.ae ρ (ifS (Nat.beq x.1 n) x.2 (tA X n))
  cases Nat.beq x.1 n
  ·exact zR
  ·rfl
def fxS (ps : List Pt) (vs : List Value) (X : Bxs) (i : Nat) : Fx := (vs[i]?).map fun v => (v, xz X (ixN ps i))
def fxK (ps : List Pt) (vs : List AV) (X : List (Nat × List AV)) (i : Nat) : FxA := match vs[i]? with
 | some v => some (v, tA X (ixN ps i))
 | none => none
theorem zy {ρ : Nms} : {l : List AV} → {i : Nat} → (AV.ae ρ l)[i]? = (l[i]?).map (AV.val ρ)
 | [], i => by simp [AV.ae]
 | v :: l, 0 => by simp [AV.ae]
 | v :: l, i + 1 => by simp only [AV.ae, List.getElem?_cons_succ]; exact zy
theorem E1 {ρ : Nms} {ps : List Pt} {vs : List AV} {X : List (Nat × List AV)} {i : Nat} : fxS ps (AV.ae ρ vs) (bZ ρ X) i = ie ρ (fxK ps vs X i) := by
 unfold fxS fxK
 rw [zy]
 cases vs[i]? with
 | none => rfl
 | some v => simp [zR]
def Ent.Ok (P : Program) (Γg : Ctx) (e : Ent) : Prop := Enters P e.f ∧ ∀ s r, e.m s = some r → ∀ (vs : List Value) (N : List Nm) (I : Its) (X : Bxs) (Φ : Ctx) (w : World),
 lP e.ps vs [] [] (unt _ s) I X N → Sat (ca I ++ Φ) w → (∀ it ∈ Γg, it ∈ Φ) →
 jw P e.f vs w fun v w' => ∃ (N1 N2 : List Nm) (D1 D2 : List Dyn) (I1 I2 : Its) (X1 X2 : Bxs), Sem e.r v none none N D1 I1 X1 N1 ∧ qj (fxS e.ps vs X) (fun i => vs[i]?) e.os N1 D2 I2 X2 N2 ∧ D1 ++ D2 = unt _ r ∧
  Sat ((ca I1 ++ ca I2) ++ (dY I ++ Φ)) w'
def cellsOf (G H : List Row) (j : Nat) : List AV := match cw G H (p8 j) with
 | some (_, .box _ _ cs) => cs
 | _ => []
def KO : (t : Ty) → List AV → List (Option TypeId) → List Nat × List AV × List (Option TypeId)
 | .i _, vs, o | .bo, vs, o | .s, vs, o => ([], vs.tail, o)
 | .p a b, vs, o => match KO a vs o with
  | (i, vs, o) => match KO b vs o with
   | (j, vs, o) => (i ++ j, vs, o)
 | .l _, vs, o => (match o with
  | none :: _ => (match vs with
   | v :: _ => v.sls
   | [] => [])
  | _ => [], vs.tail, o.tail)
 | .ex, vs, o => (match o with
  | none :: _ => (match vs with
   | _ :: _ :: _ :: v :: _ => v.sls
   | _ => [])
  | _ => [], vs.drop 4, o.tail)
 | _, vs, o => ([], vs, o)
mutual
def nN (G H : List Row) : Pt → AV → List Nat
 | .sli _, v => v.sls
 | .bx _ _ _ vs, v => (match v with
  | .ptr j _ => cu G H vs (cellsOf G H j)
  | _ => [])
 | .agg l, v => (match v with
  | .agg vs => cu G H l vs
  | _ => [])
 | .tup l, v => (match v with
  | .tuple vs => cu G H l vs
  | _ => [])
 | .fn _ a b, v => (match v with
  | .fn _ a' b' => cu G H a a' ++ cu G H b b'
  | _ => [])
 | .ifc _ p, v => (match v with
  | .ifc _ u => nN G H p u
  | _ => [])
 | .dat t o, v => (match v with
  | .agg cs => (KO t cs o).1
  | _ => [])
 | _, _ => []
def cu (G H : List Row) : List Pt → List AV → List Nat
 | [], _ => []
 | p :: l, vs => (match vs with
  | v :: vs => nN G H p (ld G H v) ++ cu G H l vs
  | [] => [])
end
def lu (T : Tbl) (g : GK) : List Row → List Row
 | [] => []
 | r :: G => (match r with
  | .sli (some k) id t l b => .sli (ifS (T.imp g (some k)) none (some k)) id t l b
  | r => r) :: lu T g G
def n7 (g : GK) (r : Row) : Row := match g with
 | none => r
 | some g => (match r with
  | .sli none id t l b => .sli (some g) id t l b
  | .own id t _ l _ => .sli (some g) id t l false
  | r => r)
def slB : Row → Bool
 | .sli none _ _ _ _ | .own .. => true
 | _ => false
def zB : List (Bool × Row) → Bool
 | [] => true
 | x :: l => slB x.2 && zB l
def j8 (B : List (Option Nat)) (c : Nat) (n : Nat) : Nat := match B[n]? with
 | some (some j) => j
 | _ => c + n
def ltB (c : Nat) : List (Option Nat) → Bool
 | [] => true
 | o :: l => (match o with
  | some j => Nat.blt j c
  | none => true) && ltB c l
def wT (c : Nat) : List (Nat × List AV) → Bool
 | [] => true
 | x :: l => AV.aY c x.2 && wT c l
def o7 (G H : List Row) : List (Bool × Src) → List (Option Nat)
 | [] => []
 | x :: S => (ifS x.1 (bL G H x.2) none) :: o7 G H S
def ltT (n : Nat) : List (Option Nat) → Bool
 | [] => true
 | o :: l => (match o with
  | some i => Nat.blt i n
  | none => true) && ltT n l
def xB : List (Option Nat) → Bool
 | [] => true
 | o :: l => (match o with
  | some _ => false
  | none => true) && xB l
def uR {R : Type} (_fr : Fr) (st : StB) (g : GK) (d : Option Tmp) (args : List AV) (e : Ent) (mr : MR) (G1 : List Row) (K : Go_ R) (r : Tup (hol e.r ++ ek e.os)) : Option R :=
 match fill (j8 mr.B st.c) e.r none none mr.B.length (unt _ r) with
 | ⟨v, R1, k, D, _⟩ => match c8 (j8 mr.B st.c) (fxK e.ps args mr.X) e.os k D with
  | ⟨_, R2, k, _⟩ => ifS (match g with | none => true | some _ => zB R1) (K { st with c := st.c + k, E := bH d g v st.E, G := (R1 ++ R2).map (fun x => n7 g x.2) ++ G1 }) none
def Gw {R : Type} (T : Tbl) (fr : Fr) (st : StB) (g : GK) (d : Option Tmp) (args : List AV) (e : Ent) (K : Go_ R) : Option (Option R) :=
 match g with
 | none => (match mts (frz (cu st.G fr.H e.ps args) st.G) fr.H e.ps args [] [] with
  | some mr => ifS (ph (mr.S.map fun x => bL (frz (cu st.G fr.H e.ps args) st.G) fr.H x.2) && ltT (frz (cu st.G fr.H e.ps args) st.G).length (o7 (frz (cu st.G fr.H e.ps args) st.G) fr.H mr.S) && ltB st.c mr.B && AV.aY st.c args && wT st.c mr.X) (match tup (jU e.ps) mr.D with
   | some s => some ((e.m s).bind (uR fr st none d args e mr (gG (kc (o7 (frz (cu st.G fr.H e.ps args) st.G) fr.H mr.S) 0 (frz (cu st.G fr.H e.ps args) st.G))) K))
   | none => none) none
  | none => none)
 | some gk => (match mts (lu T (some gk) (frz (cu st.G fr.H e.ps args) st.G)) (lu T (some gk) fr.H) e.ps args [] [] with
  | some mr => ifS (ph (mr.S.map fun x => bL (lu T (some gk) (frz (cu st.G fr.H e.ps args) st.G)) (lu T (some gk) fr.H) x.2) && xB (o7 (lu T (some gk) (frz (cu st.G fr.H e.ps args) st.G)) (lu T (some gk) fr.H) mr.S) && e.os.isEmpty && ltB st.c mr.B && AV.aY st.c args && wT st.c mr.X) (match tup (jU e.ps) mr.D with
   | some s => some (aT (T.get (some gk)) (Gx _) (e.m s) (uR fr st (some gk) d args e mr (frz (cu st.G fr.H e.ps args) st.G) K))
   | none => none) none
  | none => none)
def xp {R : Type} (T : Tbl) (fr : Fr) (st : StB) (g : GK) (d : Option Tmp) (f : FuncId) (args : List AV) (K : Go_ R) : List Ent → Option R
 | [] => none
 | e :: tb => ifS (Nat.beq e.f f) (match Gw T fr st g d args e K with
   | some r => r
   | none => xp T fr st g d f args K tb) (xp T fr st g d f args K tb)
section
variable {ρ : Nms} {T : Tbl} {G H : List Row} {Φ : Ctx} {w : World}
theorem Cj {s : Src} {i : Nat} (h : bL G H s = some i) : i < G.length + H.length := by
 cases s with
 | top j =>
  simp only [bL] at h
  split at h
  ·rename_i r hr
   obtain ⟨_, h2⟩ := FZ h
   cases h2
   have := (List.getElem?_eq_some_iff.1 hr).1
   omega
  ·cases h
 | frz j =>
  simp only [bL] at h
  split at h
  ·rename_i r hr
   obtain ⟨_, h2⟩ := FZ h
   cases h2
   have := (List.getElem?_eq_some_iff.1 hr).1
   omega
  ·cases h
 | nilI => cases h
 | nilO => cases h
 | nilM => cases h
theorem vV : ∀ {S : List (Bool × Src)} {I : Its}, cT (SI ρ T G H) S I → nf (S.map fun x => bL G H x.2) I = o7 G H S
 | _, _, .nil => rfl
 | _, _, .cons (a := a) (b := x) h1 hr => by
  show (ifS x.1 (bL G H a.2) none) :: nf _ _ = (ifS a.1 (bL G H a.2) none) :: _
  rw [vV hr, h1.1]
theorem yQ {n : Nat} : ∀ {L : List (Option Nat)} {j : Nat}, ltT n L = true → fX j L = true → j < n
 | [], j, h, h' => by cases h'
 | none :: l, j, h, h' => by
  simp only [ltT, Bool.true_and] at h
  simp only [fX, Bool.false_or] at h'
  exact yQ h h'
 | some i :: l, j, h, h' => by
  simp only [ltT, Bool.and_eq_true, Nat.blt_eq] at h
  simp only [fX, Bool.or_eq_true] at h'
  rcases h' with h' | h'
  ·rw [Nat.eq_of_beq_eq_true h']; exact h.1
  ·exact yQ h.2 h'
theorem rz {L : List (Option Nat)} {Δ : Ctx} (h : ltT G.length L = true) : mkP L (items ρ T G ++ Δ) = items ρ T (kc L 0 G) ++ Δ := by
 apply List.ext_getElem?
 intro j
 rw [Dk, vr]
 by_cases hj : j < G.length
 ·rw [List.getElem?_append_left (by simpa [items] using hj), List.getElem?_append_left (by simpa [items] using hj), List.getElem?_mapIdx]
  simp
 ·have e : fX j L = false := by
   cases hm : fX j L
   ·rfl
   ·exact absurd (yQ h hm) hj
  rw [List.getElem?_append_right (by simp [items]; omega), List.getElem?_append_right (by simp [items]; omega), e]
  have e2 : (items ρ T G).length = ((items ρ T G).mapIdx fun i it => ifS (fX (0 + i) L) gq it).length := by simp
  rw [← e2]
  cases Δ[j - (items ρ T G).length]? <;> rfl
theorem CP : ∀ {L : List (Option Nat)} {Γ : Ctx}, xB L = true → mkP L Γ = Γ
 | [], _, _ => rfl
 | none :: l, Γ, h => by
  simp only [xB, Bool.true_and] at h
  exact CP (L := l) h
 | some i :: l, Γ, h => by simp [xB] at h
theorem wN {g : GK} (hg : T.get g = true) {B : Ctx} : ∀ {G : List Row} {A : Ctx}, Sat (A ++ (items ρ T G ++ B)) w → Sat (A ++ (items ρ T (lu T g G) ++ B)) w
 | [], _, h => h
 | r :: G, A, h => by
  have step : ∀ r' : Row, aX (r.item ρ T) (r'.item ρ T) → Sat (A ++ (items ρ T (r' :: lu T g G) ++ B)) w := fun r' hl => by
   have h1 : Sat (A ++ r'.item ρ T :: (items ρ T G ++ B)) w := Sat.le2 h hl
   have h' : Sat ((A ++ [r'.item ρ T]) ++ (items ρ T G ++ B)) w := by simpa [items] using h1
   have := wN hg (G := G) h'
   simpa [items] using this
  unfold lu
  split
  ·rename_i k id t l b
   refine step _ ?_
   cases hi : T.imp g (some k)
   ·exact aX.refl
   ·refine ⟨fun _ h => h, fun M w h _ => h (Tbl.gh hi hg)⟩
  ·exact step _ aX.refl
theorem zg {g : GK} : ∀ {G : List Row}, cT aX (items ρ T (lu T g G)) (items ρ T G)
 | [] => .nil
 | r :: G => by
  show cT aX (items ρ T (lu T g (r :: G))) (r.item ρ T :: items ρ T G)
  unfold lu
  refine .cons ?_ zg
  split
  ·rename_i k id t l b
   cases hi : T.imp g (some k)
   ·exact aX.refl
   ·exact ⟨fun _ h => h, fun M w h _ => h Tbl.get_none⟩
  ·exact aX.refl
theorem BU {g : Nat × Bool} {B : Ctx} : ∀ {R : List (Bool × Row)} {A : Ctx}, zB R = true → Sat (A ++ (items ρ T (R.map (·.2)) ++ B)) w → Sat (A ++ (items ρ T (R.map fun x => n7 (some g) x.2) ++ B)) w
 | [], _, _, h => h
 | (m, r) :: R, A, hb, h => by
  simp only [zB, Bool.and_eq_true] at hb
  have step : Sat (A ++ (n7 (some g) r).item ρ T :: (items ρ T (R.map (·.2)) ++ B)) w := by
   have h0 : Sat (A ++ r.item ρ T :: (items ρ T (R.map (·.2)) ++ B)) w := h
   cases r with
   | sli k id t l b =>
    cases k with
    | none => exact h0.le2 ⟨fun _ h => h, fun M w h _ => h Tbl.get_none⟩
    | some k => simp [slB] at hb
   | own id t e l ver =>
    have hi : (A ++ (Row.own id t e l ver).item ρ T :: (items ρ T (R.map (·.2)) ++ B))[A.length]? = some (mH t.rep e (ρ id).v l ((ρ ver).y = ⟨.l t, l⟩)) := by simp [Row.item]
    have h2 := h0.upd hi (new := (n7 (some g) (Row.own id t e l ver)).item ρ T) ((Ext.refl w).chg _) (fun b hb => by cases hb) (fun M' m hn => fun _ => ⟨(h0.at_ hi).1.freeze (fun b hb => hn b hb (fun hb => by cases hb)) m, fun hb => by cases hb⟩)
    simpa using h2
   | _ => simp [slB] at hb
  have h' : Sat ((A ++ [(n7 (some g) r).item ρ T]) ++ (items ρ T (R.map (·.2)) ++ B)) w := by simpa using step
  have := BU (g := g) hb.2 h'
  simpa [items] using this
theorem rn {g : Nat × Bool} (hg : T.get (some g) = false) : ∀ {R : List (Bool × Row)}, zB R = true → ∀ it ∈ items ρ T (R.map fun x => n7 (some g) x.2), it.bU = true ∧ ∀ M w, it.P M w
 | [], _, it, h => by cases h
 | (m, r) :: R, hb, it, h => by
  simp only [zB, Bool.and_eq_true] at hb
  rw [List.map_cons, items, List.map_cons] at h
  rcases List.mem_cons.1 h with rfl | h
  ·cases r with
   | sli k id t l b =>
    cases k with
    | none => exact ⟨rfl, fun M w h => by rw [hg] at h; cases h⟩
    | some k => simp [slB] at hb
   | own id t e l ver => exact ⟨rfl, fun M w h => by rw [hg] at h; cases h⟩
   | _ => simp [slB] at hb
  ·exact rn hg hb.2 it h
theorem cT.rw {R : List (Bool × Row)} {I : Its} (h : cT (RwI ρ T) R I) : cT aX (ca I) (items ρ T (R.map (·.2))) := by
 induction h with
 | nil => exact .nil
 | cons h1 _ ih => exact .cons h1.2.1 ih
theorem xi {R : List (Bool × Row)} : (R.map fun x => n7 none x.2) = R.map (·.2) := rfl
theorem Ad {N N2 : List Nm} {B : List (Option Nat)} {c : Nat} (hN : NB ρ B N) (hp : Pre N N2) (hB : ltB c B = true) :
  lU (fun i => ifS (Nat.blt i c) (ρ i) ((N2[i - c]?).getD nm0)) (j8 B c) B.length N2 := by
 intro i a ha
 have hge : ∀ n, (ifS (Nat.blt (c + n) c) (ρ (c + n)) ((N2[c + n - c]?).getD nm0)) = (N2[n]?).getD nm0 := fun n => by
  have : Nat.blt (c + n) c = false := by
   cases hb : Nat.blt (c + n) c
   ·rfl
   ·simp only [Nat.blt_eq] at hb; omega
  rw [this, show c + n - c = n by omega]
 unfold j8
 split
 ·rename_i j hj
  obtain ⟨a', h1, h2⟩ := hN.get hj
  have e1 := hp.at_ h1
  rw [ha] at e1
  cases e1
  have hlt : Nat.blt j c = true := by
   have key : ∀ (B : List (Option Nat)) (i : Nat), ltB c B = true → B[i]? = some (some j) → Nat.blt j c = true := fun B => by
    induction B with
    | nil => intro i _ h; simp at h
    | cons o l ih =>
     intro i h h'
     simp only [ltB, Bool.and_eq_true] at h
     cases i with
     | zero => simp at h'; subst h'; exact h.1
     | succ i => exact ih i h.2 (by simpa using h')
   exact key B i hB hj
  simp only [hlt]
  refine ⟨h2.1.symm, h2.2.1.symm, h2.2.2.symm, fun hle => ?_⟩
  have := (List.getElem?_eq_some_iff.1 hj).1
  omega
 ·simp only [hge, ha, Option.getD_some]
  exact ⟨trivial, trivial, trivial, fun _ => trivial⟩
theorem Co {ρ' : Nms} {c : Nat} (ha : aw c ρ ρ') : {X : List (Nat × List AV)} → wT c X = true → bZ ρ' X = bZ ρ X
 | [], _ => rfl
 | x :: X, h => by
  simp only [wT, Bool.and_eq_true] at h
  show (x.1, AV.ae ρ' x.2) :: bZ ρ' X = (x.1, AV.ae ρ x.2) :: bZ ρ X
  rw [AV.aZ ha _ h.1, Co ha h.2]
end
section
variable {P : Program} {R : Type} {r : R} {K : Go_ R} {T : Tbl} {fr : Fr} {st : StB} {g : GK} {d : Option Tmp} {ρ : Nms} {Φ Γg : Ctx} {w : World} {ty : TypeId} {pos : String} {af : Array Edge} {gd : Option (Nat × Bool)}
theorem sK {e : Ent} {args : List AV} {mr : MR} {G1 : List Row} {q : Tup (hol e.r ++ ek e.os)} {v : Value} {w' : World} {N N1 N2 : List Nm} {D1 D2 : List Dyn} {I1 I2 : Its} {X1 X2 : Bxs}
  (hl : st.low fr = true) (hG1 : aS st.c G1 = true) (hN : NB ρ mr.B N) (hB : ltB st.c mr.B = true) (hA : AV.aY st.c args = true) (hX : wT st.c mr.X = true)
  (h1 : Sem e.r v none none N D1 I1 X1 N1) (h2 : qj (fxS e.ps (AV.ae ρ args) (bZ ρ mr.X)) (fun i => (AV.ae ρ args)[i]?) e.os N1 D2 I2 X2 N2) (hD : D1 ++ D2 = unt _ q)
  (hg : T.get g = true) (hs : Sat ((ca I1 ++ ca I2) ++ (items ρ T G1 ++ (items ρ T fr.H ++ Φ))) w') (hos : g = none ∨ e.os = []) (h : uR fr st g d args e mr G1 K q = some r) : aB r K T fr st g d ρ Φ v w' := by
 have hp1 := my _ _ _ _ _ _ _ _ _ h1
 have hp2 := vP _ _ _ _ _ _ h2
 have hnm := Ad (N2 := N2) hN (hp1.trans hp2) hB
 have hag : aw st.c ρ (fun i => ifS (Nat.blt i st.c) (ρ i) ((N2[i - st.c]?).getD nm0)) := fun j hj => by
  have : Nat.blt j st.c = true := by simpa using hj
  simp only [this]
 generalize hρ : (fun i => ifS (Nat.blt i st.c) (ρ i) ((N2[i - st.c]?).getD nm0)) = ρ' at hnm hag
 have hlen : mr.B.length = N.length := hN.length
 obtain ⟨a1, a2, a3, a4, a5⟩ := qK (T := T) e.r v none none N D1 I1 X1 N1 h1 (hnm.pre hp2) (by omega) D2
 have h2' : qj (fun i => ie ρ' (fxK e.ps args mr.X i)) (fun i => (AV.ae ρ args)[i]?) e.os N1 D2 I2 X2 N2 := by
  have e1 : (fun i => ie ρ' (fxK e.ps args mr.X i)) = fxS e.ps (AV.ae ρ args) (bZ ρ mr.X) := by
   funext i
   rw [← AV.aZ hag _ hA, ← Co hag hX, E1]
  rw [e1]; exact h2
 obtain ⟨b1, b2, b3, b4⟩ := wC (T := T) e.os N1 D2 I2 X2 N2 h2' hnm (Nat.le_trans (by omega) hp1.len) []
 unfold uR at h
 rw [← hD, hlen] at h
 generalize fill (j8 mr.B st.c) e.r none none N.length (D1 ++ D2) = L at a1 a2 a3 a4 a5 h
 obtain ⟨v', R1, k, DD, XX⟩ := L
 simp only at a1 a2 a3 a4 a5
 subst a2; subst a3
 dsimp only at h
 rw [List.append_nil] at b1 b2 b3 b4
 generalize c8 (j8 mr.B st.c) (fxK e.ps args mr.X) e.os N1.length DD = L at b1 b2 b3 b4 h
 obtain ⟨E2, R2, k2, DD2⟩ := L
 simp only at b2 b3 b4
 dsimp only at h
 obtain ⟨c1, c2⟩ := ar h
 refine aB.new (ρ' := ρ') hl c2 hag (by simp) rfl a1 ?_
 have hs2 : Sat ((items ρ' T (R1.map (·.2)) ++ items ρ' T (R2.map (·.2))) ++ (items ρ T G1 ++ (items ρ T fr.H ++ Φ))) w' := by
  have k1 := Sat.leL (A := []) (B := ca I1) (C := ca I2 ++ (items ρ T G1 ++ (items ρ T fr.H ++ Φ))) (by simpa using hs) a5.rw
  have k2 := Sat.leL (A := items ρ' T (R1.map (·.2))) (B := ca I2) (C := items ρ T G1 ++ (items ρ T fr.H ++ Φ)) k1 b4.rw
  simpa using k2
 have e3 := aH (T := T) hag hG1
 show Sat (items ρ' T ((R1 ++ R2).map (fun x => n7 g x.2) ++ G1) ++ (items ρ T fr.H ++ Φ)) w'
 rw [aF, e3, List.map_append, aF]
 cases g with
 | none =>
  rw [xi, xi]
  simpa using hs2
 | some gk =>
  rcases hos with hos | hos
  ·cases hos
  ·have hR2 : R2 = [] := by
    have hI : I2 = [] := by rw [hos] at h2; exact h2.2.1
    rw [hI] at b4
    cases b4; rfl
   subst hR2
   have k3 := BU (g := gk) (A := []) (R := R1) (B := items ρ T G1 ++ (items ρ T fr.H ++ Φ)) c1 (by simpa using hs2)
   simpa using k3
theorem Km {e : Ent} {fo : Operand} {xs : List Operand} {tys : Array TypeId} {a b vs : List AV} (hl : st.low fr = true) (hs : Sat (items ρ T st.G ++ (items ρ T fr.H ++ Φ)) w) (he : e.Ok P Γg) (hΓ : ∀ it ∈ Γg, it ∈ Φ)
  (hfo : opA T st.E fr.F g fo = some (.fn e.f a b)) (hxs : nz T st.E fr.F g xs = some vs) (h : Gw T fr st g d (a ++ vs ++ b) e K = some (some r)) :
  Ok2 P T g (ai ρ T st.E fr.F) ⟨d, .call ⟨.value fo, xs.toArray, tys⟩, ty, pos, af, gd⟩ w (aB r K T fr st g d ρ Φ) := by
 have hfo' := ax (ρ := ρ) hfo
 have hxs' := iH (ρ := ρ) hxs
 simp only [AV.val] at hfo'
 have hargs : AV.ae ρ (a ++ vs ++ b) = AV.ae ρ a ++ AV.ae ρ vs ++ AV.ae ρ b := by rw [bS, bS]
 generalize hag : a ++ vs ++ b = args at h hargs
 have hGl := ml (ids := cu st.G fr.H e.ps args) (StB.bJ.1 hl).2.2.1
 replace hs := iS (ids := cu st.G fr.H e.ps args) hs
 have ent : T.get g = true → ∀ n act, Fits n (ai ρ T st.E fr.F) act → (execOp act.eval ⟨d, .call ⟨.value fo, xs.toArray, tys⟩, ty, pos, af, gd⟩).run P w = .ok (.enter e.f (AV.ae ρ args).toArray) w := fun hg n act hf => by
  have := pY (w := w) (dst := d) (ty := ty) (pos := pos) (af := af) (gd := gd) (tys := tys) he.1 hfo' hxs' hf hg
  rw [hargs]; exact this
 -- what is lent, taken and handed back
 have key : ∀ (Gu Hu : List Row) (mr : MR) (s : Tup (jU e.ps)) (q : Tup (hol e.r ++ ek e.os)), Sat (items ρ T Gu ++ (items ρ T Hu ++ Φ)) w → mts Gu Hu e.ps args [] [] = some mr → ph (mr.S.map fun x => bL Gu Hu x.2) = true →
   tup (jU e.ps) mr.D = some s → e.m s = some q → jw P e.f (AV.ae ρ args) w fun v w' => ∃ (N N1 N2 : List Nm) (D1 D2 : List Dyn) (I1 I2 : Its) (X1 X2 : Bxs), NB ρ mr.B N ∧ Sem e.r v none none N D1 I1 X1 N1 ∧
    qj (fxS e.ps (AV.ae ρ args) (bZ ρ mr.X)) (fun i => (AV.ae ρ args)[i]?) e.os N1 D2 I2 X2 N2 ∧ D1 ++ D2 = unt _ q ∧ Sat ((ca I1 ++ ca I2) ++ mkP (o7 Gu Hu mr.S) (items ρ T Gu ++ (items ρ T Hu ++ Φ))) w' := fun Gu Hu mr s q hs hm hnd htup hq => by
  obtain ⟨N, I, s1, n1, a1⟩ := nd hs e.ps args [] [] mr [] hm .nil
  rw [← qV _ htup] at s1
  obtain ⟨p1, p2⟩ := xD hs a1
  have hnd' := oh hnd
  obtain ⟨q1, _⟩ := oq hs p1 hnd'
  refine (he.2 s q hq (AV.ae ρ args) N I (bZ ρ mr.X) _ w (by simpa only [AV.ae] using s1) q1 (fun it hit => ?_)).mono ?_
  ·obtain ⟨k, hk⟩ := List.mem_iff_getElem?.1 (hΓ it hit)
   have hk2 : (items ρ T Gu ++ (items ρ T Hu ++ Φ))[Gu.length + Hu.length + k]? = some it := by
    rw [List.getElem?_append_right (by simp [items]; omega), List.getElem?_append_right (by simp [items]; omega)]
    have : Gu.length + Hu.length + k - (items ρ T Gu).length - (items ρ T Hu).length = k := by simp [items]; omega
    rw [this]; exact hk
   refine List.mem_of_getElem? (i := Gu.length + Hu.length + k) ?_
   rw [od, hk2]
   intro hmem
   obtain ⟨x, _, hx⟩ := List.mem_map.1 hmem
   have := Cj hx
   omega
  ·intro v w' hv
   obtain ⟨N1, N2, D1, D2, I1, I2, X1, X2, c1, c2, c3, c4⟩ := hv
   have c5 := rb p2 hnd' c4
   rw [vV a1] at c5
   exact ⟨N, N1, N2, D1, D2, I1, I2, X1, X2, n1, c1, c2, c3, c5⟩
 unfold Gw at h
 cases g with
 | none =>
  dsimp only at h
  split at h
  ·rename_i mr hm
   obtain ⟨h1, h2⟩ := ar h
   simp only [Bool.and_eq_true] at h1
   obtain ⟨⟨⟨⟨h3, h4⟩, h5⟩, h6⟩, h7⟩ := h1
   split at h2
   ·rename_i s htup
    simp only [Option.some.injEq] at h2
    obtain ⟨q, hq, hk⟩ := nL h2
    refine .none_ (fun n act hf => .inr (.inr ⟨e.f, AV.ae ρ args, ent Tbl.get_none n act hf, (key _ _ mr s q hs hm h3 htup hq).mono fun v w' hv => ?_⟩))
    obtain ⟨N, N1, N2, D1, D2, I1, I2, X1, X2, n1, c1, c2, c3, c4⟩ := hv
    rw [rz h4] at c4
    have c5 := pT c4
    refine sK hl ?_ n1 h5 h6 h7 c1 c2 c3 Tbl.get_none c5 (.inl rfl) hk
    have key2 : ∀ (L : List (Option Nat)) (G : List Row) (k : Nat), aS st.c G = true → aS st.c (gG (kc L k G)) = true := fun L G => by
     induction G with
     | nil => intro k _; rfl
     | cons r G ih =>
      intro k hG
      simp only [aS, Bool.and_eq_true] at hG
      show aS st.c (gG ((ifS (fX k L) .gone r) :: kc L (k + 1) G)) = true
      cases fX k L
      ·cases r <;> first | exact ih (k + 1) hG.2 | (simp only [gG, aS, Bool.and_eq_true]; exact ⟨hG.1, ih (k + 1) hG.2⟩)
      ·exact ih (k + 1) hG.2
    exact key2 _ _ _ hGl
   ·cases h2
  ·cases h
 | some gk =>
  dsimp only at h
  split at h
  ·rename_i mr hm
   obtain ⟨h1, h2⟩ := ar h
   simp only [Bool.and_eq_true] at h1
   obtain ⟨⟨⟨⟨⟨h3, h4⟩, h8⟩, h5⟩, h6⟩, h7⟩ := h1
   have hos : e.os = [] := by simpa using h8
   split at h2
   ·rename_i s htup
    simp only [Option.some.injEq] at h2
    obtain ⟨q, hq1, hq0, hk⟩ := yg h2
    refine ⟨fun hg => fun n act hf => .inr (.inr ⟨e.f, AV.ae ρ args, ent hg n act hf, (key _ _ mr s q (wN (A := items ρ T (lu T (some gk) (frz (cu st.G fr.H e.ps args) st.G))) hg (wN (A := []) hg hs)) hm h3 htup (hq1 hg)).mono fun v w' hv => ?_⟩), fun hg => ?_⟩
    ·obtain ⟨N, N1, N2, D1, D2, I1, I2, X1, X2, n1, c1, c2, c3, c4⟩ := hv
     rw [CP h4] at c4
     have c5 := Sat.leL c4 zg
     rw [← List.append_assoc] at c5
     have c6 := Sat.leL c5 zg
     rw [List.append_assoc] at c6
     exact sK hl hGl n1 h5 h6 h7 c1 c2 c3 hg c6 (.inr hos) hk
    ·have e0 := hq0 hg
     subst e0
     unfold uR at hk
     generalize fill (j8 mr.B st.c) e.r none none mr.B.length (unt _ (Gx _)) = L at hk
     obtain ⟨v', R1, k, DD, XX⟩ := L
     dsimp only at hk
     have e2 : c8 (j8 mr.B st.c) (fxK e.ps args mr.X) e.os k DD = ⟨[], [], k, DD⟩ := by rw [hos]; rfl
     rw [e2] at hk
     dsimp only at hk
     obtain ⟨d1, d2⟩ := ar hk
     refine ⟨_, aB.old d2 (by simp) rfl rfl ?_⟩
     show Sat (items ρ T ((R1 ++ []).map (fun x : Bool × Row => n7 (some gk) x.2) ++ _) ++ _) w
     rw [List.append_nil, aF, List.append_assoc]
     exact oS hs _ (fun it hit => ⟨(rn hg d1 it hit).1, (rn hg d1 it hit).2 _ _⟩)
   ·cases h2
  ·cases h
end
end Go.Proofs.YtpnogcmollnjeaaGreatDoor
namespace Go.Proofs.YtpnogcmollnjeaaGreatDoor
open Go.Lib
def xP : (t : Ty) → List t.T → Option (List Value)
 | .s, xs => some (xs.map S)
 | .i k, xs => some (xs.map (.int k))
 | _, _ => none
def glI (p : Nat × Nat × Dyn) : Item := match p.2.2 with
 | ⟨.l t, xs⟩ => (match xP t xs with
  | some cs => gl p.1 cs
  | none => gq)
 | _ => gq
def Cx.Γ (X : Cx) : Ctx := X.gls.map glI
def A8 : List (Nat × Nat × Dyn) → Nat → Option Dyn
 | [], _ => none
 | p :: l, b => ifS (Nat.beq p.1 b) (some p.2.2) (A8 l b)
theorem Bk : {l : List (Nat × Nat × Dyn)} → {b : Nat} → {d : Dyn} → A8 l b = some d → ∃ p, p ∈ l ∧ p.1 = b ∧ p.2.2 = d
 | [], _, _, h => by cases h
 | p :: l, b, d, h => by
  unfold A8 at h
  rcases cm h with ⟨h1, h2⟩ | ⟨_, h2⟩
  ·cases h2; exact ⟨p, List.mem_cons_self .., Nat.eq_of_beq_eq_true h1, rfl⟩
  ·obtain ⟨q, q1, q2⟩ := Bk h2
   exact ⟨q, List.mem_cons_of_mem _ q1, q2⟩
theorem HM {M : Nat → Prop} {w : World} : {t : Ty} → {xs : List t.T} → {cs : List Value} → xP t xs = some cs → ARd t.rep M w cs xs
 | .s, xs, _, h => by cases h; exact Cn xs
 | .i k, xs, _, h => by cases h; exact zS xs
 | .bo, _, _, h | .un, _, _, h | .n, _, _, h | .p _ _, _, _, h | .l _, _, _, h | .mp _ _, _, _, h | .ex, _, _, h => by cases h
structure GA where
 n : Nat
 e : TypeId
 b : Nat
 t : Ty
 xs : List t.T
 m : Nat
def gaA (X : Cx) (T : Tbl) (fr : Fr) (st : StB) (g : GK) (t : TypeId) (x : Operand) : Option GA := match X.P.underlying t with
 | some (.array n e) => (match tiA X.P e with
  | some z => (match opA T st.E fr.F g x with
   | some (.gp b) => (match A8 X.gls b with
    | some ⟨.l u, xs⟩ => ifS ((xP u xs).isSome && Nat.beq z.1 u.n' && Nat.beq n xs.length && Nat.blt 0 n) (some ⟨n, e, b, u, xs, z.1⟩) none
    | _ => none)
   | _ => none)
  | none => none)
 | _ => none
section
variable {X : Cx} {R : Type} {r : R} {K : Go_ R} {T : Tbl} {fr : Fr} {st : StB} {g : GK} {d : Tmp} {ρ : Nms} {Φ : Ctx} {w : World} {ty : TypeId} {pos : String} {af : Array Edge} {gd : Option (Nat × Bool)}
theorem IA {t : TypeId} {x : Operand} {q : GA} (hΓ : ∀ it ∈ X.Γ, it ∈ Φ) (hs : Sat (items ρ T st.G ++ (items ρ T fr.H ++ Φ)) w) (h : gaA X T fr st g t x = some q) :
  X.P.underlying t = some (.array q.n q.e) ∧ (∃ bytes z, TI X.P q.e q.m bytes z) ∧ Opd (ai ρ T st.E fr.F) (T.get g) x (.pointer (some ⟨q.b, 0, none⟩)) ∧ q.m = q.t.rep.n ∧ q.n = q.xs.length ∧ Nat.blt 0 q.n = true ∧
   SRd q.t.rep (Ctx.M (items ρ T st.G ++ (items ρ T fr.H ++ Φ))) w (sl (some ⟨q.b, 0, none⟩, q.xs.length, q.xs.length)) q.xs := by
 unfold gaA at h
 split at h
 ·rename_i n e ht
  split at h
  ·rename_i z hz
   obtain ⟨m, bytes, z⟩ := z
   split at h
   ·rename_i b hx
    split at h
    ·rename_i u xs hg
     obtain ⟨h1, h2⟩ := ar h
     cases h2
     simp only [Bool.and_eq_true] at h1
     obtain ⟨⟨⟨h3, h4⟩, h5⟩, h6⟩ := h1
     have hx' := ax (ρ := ρ) hx
     simp only [AV.val] at hx'
     obtain ⟨p, p1, p2, p3⟩ := Bk hg
     obtain ⟨b', k', d'⟩ := p
     simp only at p2 p3
     subst p2; subst p3
     cases hc : xP u xs with
     | none => rw [hc] at h3; cases h3
     | some cs =>
      have hmem : gl b' cs ∈ Φ := by
       have := hΓ (glI (b', k', ⟨.l u, xs⟩)) (List.mem_map.2 ⟨_, p1, rfl⟩)
       unfold glI at this
       simp only [hc] at this
       exact this
      have hmem2 : gl b' cs ∈ items ρ T st.G ++ (items ρ T fr.H ++ Φ) := List.mem_append_right _ (List.mem_append_right _ hmem)
      obtain ⟨i, hi⟩ := List.mem_iff_getElem?.1 hmem2
      obtain ⟨g1, g2⟩ := hs.gl hi
      exact ⟨ht, ⟨bytes, z, cn hz⟩, hx', (Nat.eq_of_beq_eq_true h4).trans u.rK.symm, Nat.eq_of_beq_eq_true h5, h6, O6 g1 g2 (HM hc)⟩
    ·cases h
   ·cases h
  ·cases h
 ·cases h
def Be (X : Cx) (T : Tbl) (fr : Fr) (st : StB) (g : GK) (d : Tmp) (t : TypeId) (x y : Operand) (K : Go_ R) : Option R := match gaA X T fr st g t x with
 | some q => (match opA T st.E fr.F g y with
  | some (.int _ i) => Ow T g st d q.t q.xs i K
  | _ => none)
 | none => none
theorem BQ {tt : TypeId} {x y : Operand} (hl : st.low fr = true) (hΓ : ∀ it ∈ X.Γ, it ∈ Φ) (hs : Sat (items ρ T st.G ++ (items ρ T fr.H ++ Φ)) w) (h : Be X T fr st g d tt x y K = some r) :
  Okq X.P T g (ai ρ T st.E fr.F) ⟨some d, .indexAddr tt x y, ty, pos, af, gd⟩ w (aB r K T fr st g (some d) ρ Φ) := by
 unfold Be at h
 split at h
 ·rename_i q hq
  obtain ⟨ht, ⟨bytes, z, hti⟩, hx', hm, hn, _, hS⟩ := IA hΓ hs hq
  obtain ⟨n, e, b, t, l, m⟩ := q
  simp only at ht hti hx' hm hn hS h
  split at h
  ·rename_i k i hy
   have hy' := ax (ρ := ρ) hy
   simp only [AV.val] at hy'
   obtain ⟨x', b1, b2⟩ := nW h
   have key : ∃ (p : Addr) (ρ1 : Nms), aw st.c ρ ρ1 ∧ (ρ1 st.c).a = p ∧ (T.get g = true → jX (sl (some ⟨b, 0, none⟩, l.length, l.length)) i m p) ∧
     ∀ it ∈ items ρ1 T (.elm g st.c (mat t x' (st.c + 1)).1 :: ((mat t x' (st.c + 1)).2.1.map (lg g))), it.bU = true ∧ it.P (Ctx.M (items ρ T st.G ++ (items ρ T fr.H ++ Φ))) w := by
    cases hg : T.get g
    ·refine ⟨⟨0, 0, none⟩, ρ.set st.c nm0, Nms.aM, by rw [Nms.bc]; rfl, (fun h => by cases h), fun it hit => ?_⟩
     rw [items, List.map_cons] at hit
     rcases List.mem_cons.1 hit with rfl | hit
     ·exact ⟨rfl, fun h => by rw [hg] at h; cases h⟩
     ·obtain ⟨r1, hr1, rfl⟩ := List.mem_map.1 hit
      obtain ⟨r2, hr2, rfl⟩ := List.mem_map.1 hr1
      obtain ⟨j1, t1, l1, rfl⟩ := te _ _ _ _ hr2
      exact kJ (fun h => by rw [hg] at h; cases h)
    ·obtain ⟨e1, vs, e2, e3, e4⟩ := hS.atA (b1 hg)
     obtain ⟨ρ1, m1⟩ := qQ (T := T) t x' (st.c + 1) vs e3 (ρ.set st.c { nm0 with a := elA (sl (some ⟨b, 0, none⟩, l.length, l.length)) i t.rep.n })
     have ha1 : (ρ1 st.c).a = elA (sl (some ⟨b, 0, none⟩, l.length, l.length)) i t.rep.n := by rw [m1.ag _ (Nat.lt_succ_self _), Nms.bc]
     refine ⟨elA (sl (some ⟨b, 0, none⟩, l.length, l.length)) i t.rep.n, ρ1, Nms.aM.trans m1.ag (Nat.le_succ _), ha1, fun _ => by rw [hm]; exact e1, fun it hit => ?_⟩
     rw [items, List.map_cons] at hit
     rcases List.mem_cons.1 hit with rfl | hit
     ·refine ⟨rfl, fun _ => ?_⟩
      show ¬ Ctx.M _ (ρ1 st.c).a.block ∧ aJ w (ρ1 st.c).a _
      rw [ha1, m1.eq]
      exact ⟨e4, e2⟩
     ·obtain ⟨r1, hr1, rfl⟩ := List.mem_map.1 hit
      obtain ⟨r2, hr2, rfl⟩ := List.mem_map.1 hr1
      have hp2 := m1.rp _ hr2
      obtain ⟨j1, t1, l1, rfl⟩ := m1.rs _ hr2
      exact kJ (fun _ => hp2)
   obtain ⟨p, ρ1, k1, k2, k3, k4⟩ := key
   have hs2 := oS hs _ k4
   have eG := aH (T := T) k1 (StB.bJ.1 hl).2.2.1
   -- what stands there where g does not hold does not count
   have hrun : ∀ w', Run X.P (ai ρ T st.E fr.F) (T.get g) ⟨some d, .indexAddr tt x y, ty, pos, af, gd⟩ w' (.pointer (some ((⟨b, 0, none⟩ : Addr).add (i.toNat * m)))) := fun w' =>
    oc ht hti hx' hy' (fun hg => MM (b1 hg) hn.symm)
   have hout : aB r K T fr st g (some d) ρ Φ (.pointer (some p)) w := by
    refine aB.new (ρ' := ρ1) hl b2 k1 (Nat.le_trans (Nat.le_succ _) (tg _ _ _)) rfl (by simp only [AV.val, k2]; simp [Addr.add]) ?_
    show Sat (items ρ1 T (Row.elm g st.c _ :: (_ ++ st.G)) ++ _) w
    have e8 : items ρ1 T (Row.elm g st.c (mat t x' (st.c + 1)).1 :: ((mat t x' (st.c + 1)).2.1.map (lg g) ++ st.G)) = items ρ1 T (.elm g st.c (mat t x' (st.c + 1)).1 :: ((mat t x' (st.c + 1)).2.1.map (lg g))) ++ items ρ1 T st.G := by
     simp [items]
    rw [e8, eG, List.append_assoc]
    exact hs2
   cases hg : T.get g
   ·exact ⟨_, fun w' => fun n a hf hg' => (by rw [hg] at hg'; cases hg'), hout⟩
   ·obtain ⟨a, len, cap, e1, _, _, e2⟩ := k3 hg
    have e3 : p = (⟨b, 0, none⟩ : Addr).add (i.toNat * m) := by
     injection e1 with e1 _ _
     cases e1
     exact e2
    subst e3
    exact ⟨_, hrun, hout⟩
  ·cases h
 ·cases h
def J9 (X : Cx) (T : Tbl) (fr : Fr) (st : StB) (d : Tmp) (t : TypeId) (x : Operand) (lo hi mx : Option Operand) (K : Go_ R) : Option R := match lo, hi, mx with
 | none, none, none => (match gaA X T fr st none t x with
  | some q => K { st with c := st.c + 1, E := bH (some d) none (.sl st.c) st.E, G := .sli none st.c q.t q.xs false :: st.G }
  | none => none)
 | _, _, _ => none
theorem MO {t : TypeId} {x : Operand} {lo hi mx : Option Operand} (hl : st.low fr = true) (hΓ : ∀ it ∈ X.Γ, it ∈ Φ) (hs : Sat (items ρ T st.G ++ (items ρ T fr.H ++ Φ)) w) (h : J9 X T fr st d t x lo hi mx K = some r) :
  Ok2 X.P T none (ai ρ T st.E fr.F) ⟨some d, .slice t x lo hi mx, ty, pos, af, gd⟩ w (aB r K T fr st none (some d) ρ Φ) := by
 unfold J9 at h
 split at h
 ·split at h
  ·rename_i q hq
   obtain ⟨ht, ⟨bytes, z, hti⟩, hx', hm, hn, hpos, hS⟩ := IA hΓ hs hq
   rw [Tbl.get_none] at hx'
   refine .none_ (aO.gd (aO.run (F2 ht hti hpos hx') ?_))
   refine aB.push (x := { nm0 with v := (some ⟨q.b, 0, none⟩, q.n, q.n) }) hl h (by simp only [AV.val, Nms.bc]; rfl) (hs.add rfl ?_)
   intro _
   rw [Nms.bc]
   exact ⟨by rw [hn]; exact hS, fun h => by cases h⟩
  ·cases h
 ·cases h
end
end Go.Proofs.YtpnogcmollnjeaaGreatDoor
namespace Go.Proofs.YtpnogcmollnjeaaGreatDoor
open Go.Lib
def sEq (P : Program) (t : TypeId) (a b : AV) : Option Bool := match P.underlying t with
 | some (.int _) => (match a, b with
  | .int k x, .int k' y => ifS (eO k k') (some (x == y)) none
  | _, _ => none)
 | some .bool => (match a, b with
  | .bool x, .bool y => some (x == y)
  | _, _ => none)
 | some .string => (match a, b with
  | .str x, .str y => some (x == y)
  | _, _ => none)
 | _ => none
def fEq (P : Program) : List Field → Nat → List AV → List AV → Option (List Bool)
 | [], _, l1, l2 => ifS (l1.isEmpty && l2.isEmpty) (some []) none
 | f :: fs, k, l1, l2 => (match l1, l2 with
  | a :: l1, b :: l2 => ifS (f.name != "_" && Nat.beq f.offset k) (match sEq P f.type a b with
   | some r => (match fEq P fs (k + 1) l1 l2 with
    | some l => some (r :: l)
    | none => none)
   | none => none) none
  | _, _ => none)
def BC : Bool → List Bool → Bool
 | b, [] => b
 | b, c :: l => BC (b && c) l
def eqL : List Bool → Bool
 | [] => true
 | b :: l => BC b l
theorem ET : ∀ {l : List Bool} {b : Bool}, BC b l = (b && l.foldr (· && ·) true)
 | [], b => by simp [BC]
 | c :: l, b => by simp only [BC, ET, List.foldr_cons, Bool.and_assoc]
theorem Om : ∀ {l : List Bool}, eqL l = l.foldr (· && ·) true
 | [] => rfl
 | b :: l => by simp only [eqL, ET, List.foldr_cons]
def Ke (X : Cx) (T : Tbl) (E F : al) (g : GK) : Op → CV
 | .binOp op t x y _ => (match opA T E F g x with
  | some (.agg l1) => (match opA T E F g y with
   | some (.agg l2) => (match X.P.underlying t with
    | some (.struct fs) => ifS (!(X.P.eqGuardType X.P.depth t) && !(X.P.stoodInHeld t)) (match fEq X.P fs.toList 0 l1 l2 with
     | some bs => (match op with
      | .eql => pv (.bool (eqL bs))
      | .neq => pv (.bool (!(eqL bs)))
      | _ => none)
     | none => none) none
    | _ => none)
   | _ => none)
  | _ => none)
 | _ => none
def J4 (X : Cx) (T : Tbl) (E F : al) (g : GK) : Op → CV
 | .typeAssert x _ t true => (match X.P.underlying t with
  | some dd => ifS (!(iZ dd)) (match opA T E F g x with
   | some (.ifc t' v) => ifS (Nat.beq t' t) (pv (.tuple [v, .bool true])) none
   | some (.raw .nilIface) => (match tiA X.P t with
    | some z => pv (.tuple [.raw z.2.2, .bool false])
    | none => none)
   | _ => none) none
  | none => none)
 | _ => none
def Gf (X : Cx) (T : Tbl) (E F : al) (g : GK) : Op → CV
 | .indexAddr t x (.const (.int _ (.ofNat j))) => (match X.P.underlying t with
  | some (.array n e) => (match tiA X.P e with
   | some z => (match opA T E F g x with
    | some (.ptr id off) => ifS (Nat.blt j n) (pv (.ptr id (off + j * z.1))) none
    | _ => none)
   | none => none)
  | _ => none)
 | _ => none
def JX (X : Cx) (T : Tbl) (E F : al) (g : GK) (op : Op) : CV := match KJ X T E F g op with
 | some cv => some cv
 | none => (match Ke X T E F g op with
  | some cv => some cv
  | none => (match J4 X T E F g op with
   | some cv => some cv
   | none => Gf X T E F g op))
section
variable {X : Cx} {T : Tbl} {E F : al} {g : GK} {ρ : Nms} {w : World} {dst : Option Tmp} {ty : TypeId} {pos : String} {af : Array Edge} {gd : Option (Nat × Bool)}
theorem Od {P : Program} {t : TypeId} {a b : AV} {r : Bool} (d : Nat) (h : sEq P t a b = some r) : (∃ td, P.underlying t = some td ∧ iu td = false) ∧ (Op.equalIn (d + 1) t (a.val ρ) (b.val ρ)).run P w = .ok r w := by
 unfold sEq at h
 split at h
 ·rename_i k0 ht
  split at h
  ·rename_i k x k' y
   obtain ⟨h1, h2⟩ := ar h
   cases h2
   have e := iq h1
   subst e
   exact ⟨⟨_, ht, rfl⟩, by simp only [AV.val]; exact run_equalIn_int w d t _ _ _ _ ht⟩
  ·cases h
 ·rename_i ht
  split at h
  ·cases h
   exact ⟨⟨_, ht, rfl⟩, by simp only [AV.val]; exact run_equalIn_bool' w d t _ _ ht⟩
  ·cases h
 ·rename_i ht
  split at h
  ·cases h
   exact ⟨⟨_, ht, rfl⟩, by simp only [AV.val]; exact AH _ w d t _ _ ht⟩
  ·cases h
 ·cases h
theorem Ie {P : Program} {xs ys : List Value} (d : Nat) : ∀ {fs : List Field} {k : Nat} {l1 l2 : List AV} {bs : List Bool}, fEq P fs k l1 l2 = some bs → xs.drop k = AV.ae ρ l1 → ys.drop k = AV.ae ρ l2 →
  (Op.eqFields (d + 1) xs.toArray ys.toArray fs).run P w = .ok (bs.foldr (· && ·) true) w
 | [], k, l1, l2, bs, h, _, _ => by
  unfold fEq at h
  obtain ⟨_, h2⟩ := ar h
  cases h2
  exact MV
 | f :: fs, k, l1, l2, bs, h, hx, hy => by
  unfold fEq at h
  split at h
  ·rename_i a l1 b l2
   obtain ⟨h1, h2⟩ := ar h
   simp only [Bool.and_eq_true] at h1
   have ho := Nat.eq_of_beq_eq_true h1.2
   split at h2
   ·rename_i r hr
    split at h2
    ·rename_i l hl
     cases h2
     obtain ⟨⟨td, t1, t2⟩, t3⟩ := Od (ρ := ρ) (w := w) d hr
     simp only [AV.ae] at hx hy
     have gx : xs[k]? = some (a.val ρ) := by rw [← List.head?_drop, hx]; rfl
     have gy : ys[k]? = some (b.val ρ) := by rw [← List.head?_drop, hy]; rfl
     refine KH h1.1 (GN t1 t2 (by rw [ho]; exact gx)) (GN t1 t2 (by rw [ho]; exact gy)) t3 ?_
     refine Ie d hl ?_ ?_
     ·rw [← List.drop_drop, hx]; rfl
     ·rw [← List.drop_drop, hy]; rfl
    ·cases h2
   ·cases h2
  ·cases h
theorem KG {op : Op} {cv : Option Bool × AV} (h : Ke X T E F g op = some cv) : iP X.P (ai ρ T E F) ρ (T.get g) ⟨dst, op, ty, pos, af, gd⟩ w cv := by
 unfold Ke at h
 split at h
 ·rename_i bop t x y t'
  split at h
  ·rename_i l1 hx
   split at h
   ·rename_i l2 hy
    split at h
    ·rename_i fs ht
     obtain ⟨h1, h2⟩ := ar h
     simp only [Bool.and_eq_true, Bool.not_eq_true'] at h1
     split at h2
     ·rename_i bs hbs
      have hx' := ax (ρ := ρ) hx
      have hy' := ax (ρ := ρ) hy
      simp only [AV.val] at hx' hy'
      have hf : X.P.fieldsOf t = fs := by simp [Program.fieldsOf, ht]
      have key : (Op.equalIn 10000 t (.agg (AV.ae ρ l1).toArray) (.agg (AV.ae ρ l2).toArray)).run X.P w = .ok (eqL bs) w := by
       rw [run_equalIn_struct w 9999 t _ _ (by rw [hf]; exact ht) h1.2, hf, Om]
       exact Ie 9998 hbs rfl rfl
      split at h2
      ·refine .pv h2 (bm hx' hy' ?_)
       rw [Sem.run_bind, run_eqGuard_agg w _ _ _ _ _ _ h1.1, Result.andThen_ok, run_eql_struct, key]
       simp only [AV.val, Result.andThen_ok]
      ·refine .pv h2 (bm hx' hy' ?_)
       rw [Sem.run_bind, run_eqGuard_agg w _ _ _ _ _ _ h1.1, Result.andThen_ok, run_neq_struct, key]
       simp only [AV.val, Result.andThen_ok]
      ·cases h2
     ·cases h2
    ·cases h
   ·cases h
  ·cases h
 ·cases h
theorem JZ {op : Op} {cv : Option Bool × AV} (h : J4 X T E F g op = some cv) : iP X.P (ai ρ T E F) ρ (T.get g) ⟨dst, op, ty, pos, af, gd⟩ w cv := by
 unfold J4 at h
 split at h
 ·rename_i x s t
  split at h
  ·rename_i dd ht
   obtain ⟨h1, h2⟩ := ar h
   have hd : iZ dd = false := by simpa using h1
   split at h2
   ·rename_i t' v hx
    obtain ⟨h3, h4⟩ := ar h2
    have := Nat.eq_of_beq_eq_true h3
    subst this
    have hx' := ax (ρ := ρ) hx
    simp only [AV.val] at hx'
    refine .pv h4 ?_
    simp only [AV.val, AV.ae]
    exact AG ht hd hx'
   ·rename_i hx
    split at h2
    ·rename_i z hz
     obtain ⟨n, bytes, z⟩ := z
     have hx' := ax (ρ := ρ) hx
     simp only [AV.val] at hx'
     refine .pv h2 ?_
     simp only [AV.val, AV.ae]
     exact AR ht hd (cn hz) hx'
    ·cases h2
   ·cases h2
  ·cases h
 ·cases h
theorem Im {op : Op} {cv : Option Bool × AV} (h : Gf X T E F g op = some cv) : iP X.P (ai ρ T E F) ρ (T.get g) ⟨dst, op, ty, pos, af, gd⟩ w cv := by
 unfold Gf at h
 split at h
 ·rename_i t x k j
  split at h
  ·rename_i n e ht
   split at h
   ·rename_i z hz
    obtain ⟨m, bytes, z⟩ := z
    split at h
    ·rename_i id off hx
     obtain ⟨h1, h2⟩ := ar h
     have hx' := ax (ρ := ρ) hx
     simp only [AV.val] at hx'
     refine .pv h2 ?_
     have hrun := oc (P := X.P) (w := w) (dst := dst) (ty := ty) (pos := pos) (af := af) (gd := gd) (y := .const (.int k (.ofNat j))) ht (cn hz) hx' Opd.c (by
      intro _; rw [Nat.blt_eq] at h1; exact gC.2 ⟨Int.natCast_nonneg j, by simpa using h1⟩)
     have e1 : ((⟨(ρ id).b, off, none⟩ : Addr).add ((Int.ofNat j).toNat * m)) = ⟨(ρ id).b, off + j * m, none⟩ := by rw [add_plain]; rfl
     rw [e1] at hrun
     simpa only [AV.val] using hrun
    ·cases h
   ·cases h
  ·cases h
 ·cases h
theorem JS {op : Op} {cv : Option Bool × AV} (hT : dB T E F) (h : JX X T E F g op = some cv) : iP X.P (ai ρ T E F) ρ (T.get g) ⟨dst, op, ty, pos, af, gd⟩ w cv := by
 unfold JX at h
 split at h
 ·rename_i cv' hcv
  cases h
  exact IS hT hcv
 ·split at h
  ·rename_i cv' hcv
   cases h
   exact KG hcv
  ·split at h
   ·rename_i cv' hcv
    cases h
    exact JZ hcv
   ·exact Im h
end
end Go.Proofs.YtpnogcmollnjeaaGreatDoor
namespace Go.Proofs.YtpnogcmollnjeaaGreatDoor
open Go.Lib
def K4 (X : Cx) (T : Tbl) (E F : al) (g : GK) : Op → CV
 | .binOp .eql t x y _ => (match X.P.underlying t with
  | some (.pointer _) => (match opA T E F g x with
   | some (.sfp _ f) => (match opA T E F g y with
    | some (.raw (.pointer none)) => pv (.bool (!f))
    | _ => none)
   | _ => none)
  | _ => none)
 | .binOp .neq t x y _ => (match X.P.underlying t with
  | some (.pointer e) => (match tiA X.P e with
   | some _ => (match opA T E F g x with
    | some (.sfp j f) => (match opA T E F g y with
     | some (.ptr j' 0) => ifS (Nat.beq j j') (pv (.bool (!f))) none
     | _ => none)
    | _ => none)
   | none => none)
  | _ => none)
 | .call ⟨.value (.func f), ⟨[x]⟩, _⟩ => ifS (kB f X.ids) (match opA T E F g x with
  | some v => pv v
  | none => none) none
 | _ => none
def Jn (X : Cx) (T : Tbl) (E F : al) (G H : List Row) (g : GK) : Op → CV
 | .convert s d x => (match opA T E F g x with
  | some (.ptr j 0) => (match cw G H (p8 j) with
   | some (_, .box _ e' cs) => (match X.P.underlying s with
    | some (.pointer e) => (match X.P.underlying d with
     | some .unsafePointer => (match tiA X.P e with
      | some z => ifS (Nat.blt 0 z.1 && Nat.blt 0 cs.length) (pv (.ptr j 0)) none
      | none => none)
     | _ => none)
    | some .unsafePointer => (match X.P.underlying d with
     | some (.pointer e) => (match tiA X.P e with
      | some _ => ifS (liesAt X.P X.P.depth e' (cs.length / X.P.cellsOf e') 0 e 1) (pv (.ptr j 0)) none
      | none => none)
     | _ => none)
    | _ => none)
   | _ => none)
  | _ => none)
 | _ => none
def GY (X : Cx) (T : Tbl) (E F : al) (g : GK) (op : Op) : CV := match JX X T E F g op with
 | some cv => some cv
 | none => K4 X T E F g op
def Gg (X : Cx) (T : Tbl) (E F : al) (G H : List Row) (g : GK) (op : Op) : CV := match JA X T E F G H g op with
 | some cv => some cv
 | none => Jn X T E F G H g op
abbrev N7 (xs ys : List Int) : List Int := xs ++ ys
def FJ {R : Type} (X : Cx) (T : Tbl) (fr : Fr) (st : StB) (d : Tmp) (t u : TypeId) (x y : Operand) (K : Go_ R) : Option R := match fB X.P t with
 | some e => (match tiA X.P e with
  | some (1, 1, .int .u8 (.ofNat 0)) => ifS (isStr X.P u) (match opA T st.E fr.F none y with
   | some (.str s) => (match opA T st.E fr.F none x with
    | some (.sl id) => (match cw st.G fr.H (jh id) with
     | some (.top j, .own _ u' e' xs _) => ifS (Nat.beq e e') (match lX.Dyn.asL (.i .u8) ⟨.l u', xs⟩ with
      | some xs => chk (az (List.length xs + s.length) 1) (K { st with c := st.c + 1, E := bH (some d) none (.sl st.c) st.E, G := st.G.set j (.own st.c (.i .u8) e (N7 xs (bytesOf s)) st.c) })
      | none => none) none
     | _ => none)
    | some (.raw (.slice none 0 0)) => chk (az (([] : List Int).length + s.length) 1) (K { st with c := st.c + 1, E := bH (some d) none (.sl st.c) st.E, G := .own st.c (.i .u8) e (([] : List Int) ++ bytesOf s) st.c :: st.G })
    | _ => none)
   | _ => none) none
  | _ => none)
 | none => none
section
variable {X : Cx} {T : Tbl} {E F : al} {G H : List Row} {g : GK} {ρ : Nms} {w : World} {dst : Option Tmp} {ty : TypeId} {pos : String} {af : Array Edge} {gd : Option (Nat × Bool)} {Φ : Ctx}
theorem Jm {op : Op} {cv : Option Bool × AV} (h : K4 X T E F g op = some cv) : iP X.P (ai ρ T E F) ρ (T.get g) ⟨dst, op, ty, pos, af, gd⟩ w cv := by
 unfold K4 at h
 split at h
 ·rename_i t x y s
  split at h
  ·rename_i e ht
   split at h
   ·rename_i j f hx
    split at h
    ·rename_i hy
     have hx' := ax (ρ := ρ) hx
     have hy' := ax (ρ := ρ) hy
     simp only [AV.val] at hx' hy'
     exact .pv h (GI ht hx' hy')
    ·cases h
   ·cases h
  ·cases h
 ·rename_i t x y s
  split at h
  ·rename_i e ht
   split at h
   ·rename_i z hz
    obtain ⟨n, bytes, z⟩ := z
    split at h
    ·rename_i j f hx
     split at h
     ·rename_i j' hy
      obtain ⟨h1, h2⟩ := ar h
      have := Nat.eq_of_beq_eq_true h1
      subst this
      have hx' := ax (ρ := ρ) hx
      have hy' := ax (ρ := ρ) hy
      simp only [AV.val] at hx' hy'
      exact .pv h2 (GD ht (cn hz) hx' hy')
     ·cases h
    ·cases h
   ·cases h
  ·cases h
 ·rename_i f x tys
  obtain ⟨h1, h2⟩ := ar h
  split at h2
  ·rename_i v hx
   exact .pv h2 (K5 (X.idsOk f (Dz.1 h1)) (ax (ρ := ρ) hx))
  ·cases h2
 ·cases h
theorem JI {op : Op} {cv : Option Bool × AV} (hs : Sat (items ρ T G ++ (items ρ T H ++ Φ)) w) (h : Jn X T E F G H g op = some cv) : iP X.P (ai ρ T E F) ρ (T.get g) ⟨dst, op, ty, pos, af, gd⟩ w cv := by
 unfold Jn at h
 split at h
 ·rename_i s d x
  split at h
  ·rename_i j hx
   split at h
   ·rename_i sr j' e' cs hf
    obtain ⟨f1, f2⟩ := ba hf
    have : j' = j := Nat.eq_of_beq_eq_true f2
    subst this
    have hb : cJ w (ρ j').b e' (AV.ae ρ cs) := Src.holds hs f1
    have hx' := ax (ρ := ρ) hx
    simp only [AV.val] at hx'
    split at h
    ·rename_i e hse
     split at h
     ·rename_i hde
      split at h
      ·rename_i z hz
       obtain ⟨n, bytes, z⟩ := z
       obtain ⟨h1, h2⟩ := ar h
       simp only [Bool.and_eq_true] at h1
       refine .pv h2 ?_
       simp only [AV.val]
       exact CM hse hde (cn hz) h1.1 hx' hb (by rw [AV.aK]; exact h1.2)
      ·cases h
     ·cases h
    ·rename_i hse
     split at h
     ·rename_i e hde
      split at h
      ·rename_i z hz
       obtain ⟨n, bytes, z⟩ := z
       obtain ⟨h1, h2⟩ := ar h
       refine .pv h2 ?_
       simp only [AV.val]
       exact zl hse hde (cn hz) hx' hb (by rw [AV.aK]; exact h1)
      ·cases h
     ·cases h
    ·cases h
   ·cases h
  ·cases h
 ·cases h
theorem BB {op : Op} {cv : Option Bool × AV} (hT : dB T E F) (h : GY X T E F g op = some cv) : iP X.P (ai ρ T E F) ρ (T.get g) ⟨dst, op, ty, pos, af, gd⟩ w cv := by
 unfold GY at h
 split at h
 ·rename_i cv' hcv
  cases h
  exact JS hT hcv
 ·exact Jm h
theorem Dv {op : Op} {cv : Option Bool × AV} (hs : Sat (items ρ T G ++ (items ρ T H ++ Φ)) w) (h : Gg X T E F G H g op = some cv) : iP X.P (ai ρ T E F) ρ (T.get g) ⟨dst, op, ty, pos, af, gd⟩ w cv := by
 unfold Gg at h
 split at h
 ·rename_i cv' hcv
  cases h
  exact Jq hs hcv
 ·exact JI hs h
end
section
variable {X : Cx} {R : Type} {r : R} {K : Go_ R} {T : Tbl} {fr : Fr} {st : StB} {d : Tmp} {ρ : Nms} {Φ : Ctx} {w : World} {ty : TypeId} {pos : String} {af : Array Edge} {gd : Option (Nat × Bool)}
theorem tQ {P : Program} {E : Env} {M : Nat → Prop} {v : Value} {x y : Operand} {t u e : TypeId} {R : List Nat} {xs : List Int} {s : Str} (ht : P.underlying t = some (.slice e)) (hu : P.underlying u = some .string) (hti : TI P e 1 1 (.int .u8 0)) (hx : Opd E true x v) (hy : Opd E true y (S s))
  (hO : Own (RI .u8) e M w v xs R) (hM : ∀ b ∈ R, M b) (hroom : az (xs.length + s.length) 1 = true) :
  ∃ v' R' w', jZ P E ⟨some d, .call ⟨.builtin .append, #[x, y], #[t, u]⟩, ty, pos, af, gd⟩ w v' w' ∧ Chg R w w' ∧ (∀ b ∈ R', b < w'.heap.size ∧ (b ∈ R ∨ w.heap.size ≤ b)) ∧ ∀ M', Mv M w M' w' → Own (RI .u8) e M' w' v' (xs ++ bytesOf s) R' := by
 rcases hO with ⟨rfl, ho⟩ | ⟨rfl, rfl, ⟨a0, rfl⟩, hr0⟩
 ·obtain ⟨v', w', hr, hC, hR, hO⟩ := p9 t u ty e ht hu hti ho hM hroom
  exact ⟨v', blk v', w', (fun n' a hf => by simp [execOp, resolve, invoke, builtin, hx n' a hf rfl, hy n' a hf rfl, hr]), hC, hR, fun M' m => Own.of (hO M' m)⟩
 ·rcases vc (M := M) (w := w) t u ty e ht hu hti (a0 := a0) (s := s) (by simpa using hroom) with ⟨hr, rfl⟩ | ⟨v', w', hr, hE, hB, hO⟩
  ·exact ⟨.slice a0 0 0, [], w, (fun n' a hf => by simp [execOp, resolve, invoke, builtin, hx n' a hf rfl, hy n' a hf rfl, hr]), (Ext.refl w).chg _, (fun b hb => by cases hb), fun M' m => by simpa [bytesOf] using Own.empty (e := e) (hr0.mv m)⟩
  ·exact ⟨v', blk v', w', (fun n' a hf => by simp [execOp, resolve, invoke, builtin, hx n' a hf rfl, hy n' a hf rfl, hr]), hE.chg _, (fun b hb => ⟨(hB b hb).1, .inr (hB b hb).2⟩), fun M' m => Own.of (by simpa using hO M' m)⟩
theorem IY {t u : TypeId} {x y : Operand} (hl : st.low fr = true) (hs : Sat (items ρ T st.G ++ (items ρ T fr.H ++ Φ)) w) (h : FJ X T fr st d t u x y K = some r) :
  Ok2 X.P T none (ai ρ T st.E fr.F) ⟨some d, .call ⟨.builtin .append, #[x, y], #[t, u]⟩, ty, pos, af, gd⟩ w (aB r K T fr st none (some d) ρ Φ) := by
 have hGl := (StB.bJ.1 hl).2.2.1
 unfold FJ at h
 split at h
 ·rename_i e he
  split at h
  ·rename_i hz
   have hti : TI X.P e 1 1 (.int .u8 0) := cn hz
   obtain ⟨hu, h⟩ := ar h
   have hu' := jC hu
   split at h
   ·rename_i s hy
    have hy' := bd (ρ := ρ) hy
    simp only [AV.val] at hy'
    split at h
    ·rename_i id hx
     have hx' := bd (ρ := ρ) hx
     simp only [AV.val] at hx'
     split at h
     ·rename_i j id' u' e' xs' ver hf
      obtain ⟨h3, h4⟩ := ar h
      have := Nat.eq_of_beq_eq_true h3
      subst this
      split at h4
      ·rename_i xs hxs
       obtain ⟨eu, ex⟩ := kj hxs
       subst eu
       simp only at ex
       subst ex
       obtain ⟨h5, h6⟩ := fA h4
       obtain ⟨f1, f2⟩ := ba hf
       have : id' = id := Nat.eq_of_beq_eq_true f2
       subst this
       have hi := eI (ρ := ρ) (T := T) (Φ := items ρ T fr.H ++ Φ) f1
       obtain ⟨hO, _⟩ := hs.at_ hi
       obtain ⟨v', R', w', hr, hC, hR, hP⟩ := tQ (P := X.P) (E := ai ρ T st.E fr.F) (w := w) (d := d) (ty := ty) (pos := pos) (af := af) (gd := none) (bw he) hu' hti hx' hy' hO (fun b hb => Ctx.gN hi hb) h5
       have mv0 : Mv (Ctx.M (items ρ T st.G ++ (items ρ T fr.H ++ Φ))) w (Ctx.M (items ρ T st.G ++ (items ρ T fr.H ++ Φ))) w' := ⟨hC.size, fun b hb hn => ⟨hn, hC.block b hb (fun hc => hn (Ctx.gN hi hc))⟩⟩
       have hO' := hP _ mv0
       have hv : ∃ p : SLV, v' = sl p := by
        obtain ⟨a, cap, hv⟩ := hO'.len
        exact ⟨(a, _, cap), hv⟩
       obtain ⟨p, rfl⟩ := hv
       have hj : j < st.G.length := (List.getElem?_eq_some_iff.1 f1).1
       refine .none_ (aO.gd (aO.jG hr (aB.new (ρ' := ρ.set st.c { nm0 with v := p, y := ⟨.l (.i .u8), N7 xs' (bytesOf s)⟩ }) hl h6 Nms.aM (Nat.le_succ _) rfl (by simp only [AV.val, Nms.bc]) ?_)))
       show Sat (items _ T (st.G.set j _) ++ _) _
       rw [dS hj, aH Nms.aM hGl]
       refine hs.upd hi hC (fun b hb => ?_) (fun M' m _ => ?_)
       ·simp only [Row.item, Nms.bc] at hb
        exact hR b (hO'.canon.1 b hb)
       ·simp only [Row.item, Nms.bc]
        exact ⟨hO'.canon.2 _ _ (hP M' m), trivial⟩
      ·cases h4
     ·cases h
    ·rename_i hx
     have hx' := bd (ρ := ρ) hx
     simp only [AV.val] at hx'
     obtain ⟨h5, h6⟩ := fA h
     obtain ⟨v', R', w', hr, hC, hR, hP⟩ := tQ (P := X.P) (E := ai ρ T st.E fr.F) (w := w) (d := d) (ty := ty) (pos := pos) (af := af) (gd := none) (M := Ctx.M (items ρ T st.G ++ (items ρ T fr.H ++ Φ))) (xs := ([] : List Int)) (bw he) hu' hti hx' hy' Own.nil (fun b hb => by cases hb) h5
     have hE : Ext w w' := ⟨hC.os, hC.tape, hC.output, hC.size, fun b hb => hC.block b hb (fun h => by cases h)⟩
     have hO' := hP _ (hE.mv _)
     have hv : ∃ p : SLV, v' = sl p := by
      obtain ⟨a, cap, hv⟩ := hO'.len
      exact ⟨(a, _, cap), hv⟩
     obtain ⟨p, rfl⟩ := hv
     refine .none_ (aO.gd (aO.jG hr ?_))
     exact mm (d := d) (t := .i .u8) (e := e) (p := p) hl hGl hs hE (fun b hb => by
      obtain ⟨q1, q2⟩ := hR b (hO'.canon.1 b hb)
      rcases q2 with q2 | q2
      ·cases q2
      ·exact ⟨q1, q2⟩) (fun M' m => hO'.canon.2 _ _ (hP M' m)) rfl h6
    ·cases h
   ·cases h
  ·cases h
 ·cases h
def Bf {R : Type} (T : Tbl) (fr : Fr) (st : StB) (d : Tmp) (x : Operand) (K : Go_ R) : Option R := match opA T st.E fr.F none x with
 | some (.sl id) => (match cw st.G fr.H (jh id) with
  | some (_, .own _ t _ l ver) => Nz T none st d id ver t l 0 K
  | _ => none)
 | _ => none
def Gv {R : Type} (X : Cx) (T : Tbl) (fr : Fr) (st : StB) (d : Tmp) (pt : TypeId) (x y : Operand) (K : Go_ R) : Option R := match X.P.underlying pt with
 | some (.pointer e) => ifS (Nat.beq (X.P.cellsOf e) 1) (match opA T st.E fr.F none x with
  | some (.adr q 0) => (match opA T st.E fr.F none y with
   | some (.int .i64 m) => (match cw st.G fr.H (wg q) with
    | some (_, .kn none _ id ver _ i _) => (match cw st.G fr.H (jh id) with
     | some (.top j, .own _ u e' xs ver') => ifS (Nat.beq ver ver' && Nat.beq e e') (match lX.Dyn.asL (.i .u8) ⟨.l u, xs⟩ with
      | some xs => chk (decide (i = 0) && decide (m = (List.length xs : Int))) (K { st with E := bH (some d) none (.str (strOf xs)) st.E, G := st.G.set j (.sli none id (.i .u8) xs false) })
      | none => none) none
     | _ => none)
    | _ => none)
   | _ => none)
  | _ => none) none
 | _ => none
theorem Own.H5 {α : Type} {A : Rep α} {e : TypeId} {M : Nat → Prop} {w : World} {v : Value} {xs : List α} {R : List Nat} (h : Own A e M w v xs R) (h0 : xs ≠ []) : Roomy v := by
 rcases h with ⟨_, cells, h1, _⟩ | ⟨_, rfl, _⟩
 ·rcases h1.2 with ⟨_, hz⟩ | ⟨g, cap, cur, rfl, _, _, hc, _⟩
  ·exact absurd (List.eq_nil_of_length_eq_zero hz) h0
  ·obtain ⟨k, rfl⟩ : ∃ k, cap = k + 1 := ⟨cap - 1, by have := List.length_pos_iff.2 h0; omega⟩
   exact ⟨g, _, k, rfl⟩
 ·exact absurd rfl h0
theorem AD {v : SLV} {n : Nat} (h : Roomy (sl v)) : v.1 = some (elA (sl v) 0 n) := by
 obtain ⟨b, len, cap, e⟩ := h
 obtain ⟨v1, v2, v3⟩ := v
 simp only [sl, Value.slice.injEq] at e
 obtain ⟨rfl, rfl, rfl⟩ := e
 simp [sl, elA, Addr.add]
theorem Ia {α : Type} {l : List α} {i : Int} {x : α} (h : idx l i = some x) : l ≠ [] := fun e => by
 subst e
 unfold idx at h
 split at h <;> cases h
theorem CJ {x : Operand} {ts : Array TypeId} (hl : st.low fr = true) (hs : Sat (items ρ T st.G ++ (items ρ T fr.H ++ Φ)) w) (h : Bf T fr st d x K = some r) :
  Okq X.P T none (ai ρ T st.E fr.F) ⟨some d, .call ⟨.builtin .unsafeSliceData, #[x], ts⟩, ty, pos, af, gd⟩ w (aB r K T fr st none (some d) ρ Φ) := by
 unfold Bf at h
 split at h
 ·rename_i id hx
  have hx' := bd (ρ := ρ) hx
  simp only [AV.val] at hx'
  split at h
  ·rename_i s id' t e' l ver hf
   obtain ⟨f1, f2⟩ := ba hf
   have : id' = id := Nat.eq_of_beq_eq_true f2
   subst this
   obtain ⟨x', b1, b2⟩ := nW h
   have b1 := b1 Tbl.get_none
   obtain ⟨hO, hy2⟩ := Src.holds hs f1
   have hrow : id' < st.c ∧ ver < st.c := by
    have : (Row.own id' t e' l ver).low st.c = true := by
     cases s with
     | top j => exact kK (StB.bJ.1 hl).2.2.1 f1
     | frz j => exact kK (StB.bJ.1 hl).2.2.2 f1
     | _ => exact f1.elim
    simpa only [Row.low, Bool.and_eq_true, Nat.blt_eq] using this
   have hr := hO.H5 (Ia b1)
   have hout : aB r K T fr st none (some d) ρ Φ (.pointer (some (elA (sl (ρ id').v) 0 t.rep.n))) w := by
    refine aB.push (x := { nm0 with a := elA (sl (ρ id').v) 0 t.rep.n }) hl b2 (by simp only [AV.val, Nms.bc]; simp [Addr.add]) (hs.add rfl ?_)
    intro hg
    rw [Nms.aM _ hrow.1, Nms.aM _ hrow.2, Nms.bc]
    exact ⟨l, hy2, b1, rfl⟩
   refine ⟨_, fun w' => ?_, hout⟩
   rw [← AD hr]
   rw [Tbl.get_none]
   exact Iq (g := true) hx' (fun _ => hr)
  ·cases h
 ·cases h
theorem Ky {P : Program} {E : Env} {v : SLV} {x y : Operand} {pt it e : TypeId} {M : Nat → Prop} {R : List Nat} {xs : List Int} (hO : Own (RI .u8) e M w (sl v) xs R) (hp : P.underlying pt = some (.pointer e)) (hc : P.cellsOf e = 1)
  (hx : Opd E true x (.pointer v.1)) (hy : Opd E true y (.int .i64 (xs.length : Int))) (h0 : xs ≠ []) :
  ∃ w', jZ P E ⟨some d, .call ⟨.builtin .unsafeString, #[x, y], #[pt, it]⟩, ty, pos, af, gd⟩ w (S (strOf xs)) w' ∧ Chg R w w' ∧ ∀ M', Mv M w M' w' → (∀ b ∈ R, ¬ M' b) → SRd (RI .u8) M' w' (sl v) xs := by
 have hl0 : xs.length ≠ 0 := fun e => h0 (List.eq_nil_of_length_eq_zero e)
 rcases hO with ⟨hR, cells, ⟨h1, h2⟩, hr⟩ | ⟨_, rfl, _⟩
 ·rcases h2 with ⟨_, hz⟩ | ⟨g, cap, cur, h3, hg, hh, hcap, hm, hcs, htk⟩
  ·exact absurd hz hl0
  ·obtain ⟨v1, v2, v3⟩ := v
   simp only [sl, Value.slice.injEq] at h3
   obtain ⟨rfl, rfl, rfl⟩ := h3
   have hn1 : (RI .u8).n = 1 := rfl
   have hcs' : cur.size = v3 := by simpa [hn1] using hcs
   have hsh : w.shape? g = some (e, cur.size) := by unfold World.shape?; rw [hh]
   have hcell : ∀ (j : Nat) (a : Int), xs[j]? = some a → w.cell? ((⟨g, 0, none⟩ : Addr).add j) = some (.int .u8 a) := fun j a hj => by
    have hjl := (List.getElem?_eq_some_iff.1 hj).1
    have hA := hr.2 j hjl
    have ha : xs[j] = a := (List.getElem?_eq_some_iff.1 hj).2
    have hcj : cells[j]? = some (.int .u8 a) := by
     have e1 : (cells.drop (j * 1)).take 1 = [.int .u8 a] := by rw [← ha]; exact hA
     have e2 := congrArg (fun l => l[0]?) e1
     simpa using e2
    have key : aJ w ⟨g, 0, none⟩ cells := ⟨rfl, cur, e, (0, 0), hh, fun j u hj => by
     rw [← htk, List.getElem?_take] at hj
     split at hj
     ·simpa using hj
     ·cases hj⟩
    exact key.cell hcj
   have hmx : xs.length ≤ 9223372036854775807 := by unfold maxLen at hm; omega
   have hrun : (Builtin.unsafeString_ #[pt, it] ty #[.pointer (some ⟨g, 0, none⟩), .int .i64 xs.length]).run P w = .ok (S (strOf xs)) (w.freeze ⟨g, 0, none⟩ xs.length) := by
    have hlb := qU (P := P) (w := w) xs ⟨g, 0, none⟩ .empty hcell
    have hlies := Lib.liesAt_bytes (P := P) hc (cur.size / P.cellsOf e) xs.length (by rw [hc, hcs']; simpa using hcap)
    have h63' : ¬ (9223372036854775807 : Int) < (xs.length : Int) := by omega
    have hmax : IntKind.i64.max = 9223372036854775807 := rfl
    have hneg : ¬ (xs.length : Int) < 0 := by omega
    refine (Sem.run_bind (P := P) (w := w) (asInt (.int .i64 xs.length)) _).trans ?_
    simp [asInt, asIntOf, hmax, h63', hneg, hl0, variablesAt, hsh, elemOf, run_underlying hp, hlies, hlb, S]
   have hw : (w.freeze ⟨g, 0, none⟩ xs.length).heap[g]? = some (.cells cur e (0, xs.length)) := by
    unfold World.freeze
    rw [if_neg hl0]
    simp [Array.getElem?_modify, hh]
   have hRg : R = [g] := by rw [hR]; simp [blk, Value.ownBlock, sl]
   refine ⟨w.freeze ⟨g, 0, none⟩ xs.length, fun n' a hf => by simp [execOp, resolve, invoke, builtin, hx n' a hf rfl, hy n' a hf rfl, hrun], ?_, fun M' m hb => ?_⟩
   ·rw [hRg]
    unfold World.freeze
    rw [if_neg hl0]
    refine ⟨rfl, rfl, rfl, by simp, fun c _ hcb => ?_⟩
    have : g ≠ c := fun e => hcb (by simp [e])
    simp [Array.getElem?_modify, this]
   ·refine .inr ⟨g, 0, v3, cur, e, _, rfl, hb g (by rw [hRg]; simp), hw, hcap, by rw [Nat.zero_add]; exact Nat.le_of_eq hcs.symm, ?_⟩
    rw [List.drop_zero, htk]
    exact hr.mv m
 ·exact absurd rfl h0
theorem Kn {x y : Operand} {pt it : TypeId} (_hl : st.low fr = true) (hs : Sat (items ρ T st.G ++ (items ρ T fr.H ++ Φ)) w) (h : Gv X T fr st d pt x y K = some r) :
  Ok2 X.P T none (ai ρ T st.E fr.F) ⟨some d, .call ⟨.builtin .unsafeString, #[x, y], #[pt, it]⟩, ty, pos, af, gd⟩ w (aB r K T fr st none (some d) ρ Φ) := by
 unfold Gv at h
 split at h
 ·rename_i e hp
  obtain ⟨hc, h⟩ := ar h
  have hc := Nat.eq_of_beq_eq_true hc
  split at h
  ·rename_i q hx
   have hx' := bd (ρ := ρ) hx
   simp only [AV.val] at hx'
   split at h
   ·rename_i m hy
    have hy' := bd (ρ := ρ) hy
    simp only [AV.val] at hy'
    split at h
    ·rename_i s1 q' id ver u1 i xe hf1
     obtain ⟨f1, f2⟩ := ba hf1
     have : q' = q := Nat.eq_of_beq_eq_true f2
     subst this
     have hF := Src.holds hs f1
     split at h
     ·rename_i j id' u e' xs' ver' hf
      obtain ⟨f3, f4⟩ := ba hf
      have : id' = id := Nat.eq_of_beq_eq_true f4
      subst this
      obtain ⟨h3, h4⟩ := ar h
      simp only [Bool.and_eq_true] at h3
      have e1 := Nat.eq_of_beq_eq_true h3.1
      have e2 := Nat.eq_of_beq_eq_true h3.2
      subst e1; subst e2
      split at h4
      ·rename_i xs hxs
       obtain ⟨eu, ex⟩ := kj hxs
       subst eu
       subst ex
       obtain ⟨h5, h6⟩ := fA h4
       simp only [Bool.and_eq_true, decide_eq_true_eq] at h5
       obtain ⟨rfl, rfl⟩ := h5
       have hi := eI (ρ := ρ) (T := T) (Φ := items ρ T fr.H ++ Φ) f3
       obtain ⟨hO, hy2⟩ := hs.at_ hi
       obtain ⟨l0, b1, b2, b3⟩ := hF Tbl.get_none
       obtain ⟨e4, e5⟩ := uS b1 hy2
       cases e4
       cases e5
       have hne := Ia b2
       have hr := hO.H5 hne
       have hx2 : Opd (ai ρ T st.E fr.F) true x (.pointer (ρ id').v.1) := by
        rw [AD (n := (Ty.i .u8).rep.n) hr, ← b3]
        simpa [Addr.add] using hx'
       obtain ⟨w', hrun, hC, hP⟩ := Ky (P := X.P) (d := d) (ty := ty) (pos := pos) (af := af) (gd := gd) (it := it) hO hp hc hx2 hy' hne
       have hj : j < st.G.length := (List.getElem?_eq_some_iff.1 f3).1
       refine .none_ (aO.gd (aO.jG hrun (aB.old h6 (Nat.le_refl _) rfl rfl ?_)))
       show Sat (items _ T (st.G.set j _) ++ _) _
       rw [dS hj]
       exact hs.upd hi hC (fun b hb => by cases hb) (fun M' m hb _ => ⟨hP M' m (fun b hb' => hb b hb' (fun h => by cases h)), fun h => by cases h⟩)
      ·cases h4
     ·cases h
    ·cases h
   ·cases h
  ·cases h
 ·cases h
def Gd {R : Type} (X : Cx) (T : Tbl) (fr : Fr) (st : StB) (g : GK) (d : Tmp) (t : TypeId) (x : Operand) (K : Go_ R) : Option R := match fB X.P t with
 | some _ => (match opA T st.E fr.F g x with
  | some (.sl id) => (match slA st.G fr.H id with
   | some s => ifS (T.imp g s.g) (K { st with E := bH (some d) g (.int .i64 (s.l.length : Int)) st.E }) none
   | none => none)
  | _ => none)
 | none => none
theorem J6 {g : GK} {t : TypeId} {x : Operand} (hs : Sat (items ρ T st.G ++ (items ρ T fr.H ++ Φ)) w) (h : Gd X T fr st g d t x K = some r) :
  Okq X.P T g (ai ρ T st.E fr.F) ⟨some d, .call ⟨.builtin .len, #[x], #[t]⟩, ty, pos, af, gd⟩ w (aB r K T fr st g (some d) ρ Φ) := by
 unfold Gd at h
 split at h
 ·rename_i e he
  split at h
  ·rename_i id hx
   have hx' := ax (ρ := ρ) hx
   simp only [AV.val] at hx'
   split at h
   ·rename_i s hsl
    obtain ⟨h1, h2⟩ := ar h
    exact ⟨_, fun w' => FE (bw he) hx' (fun hg => yJ hs hsl (Tbl.gh h1 hg)), aB.old h2 (Nat.le_refl _) rfl rfl hs⟩
   ·cases h
  ·cases h
 ·cases h
end
end Go.Proofs.YtpnogcmollnjeaaGreatDoor
namespace Go.Proofs.YtpnogcmollnjeaaGreatDoor
open Go.Lib
abbrev gone {R : Type} (g : GK) (k : Option R) : Option R := match g with
 | none => k
 | some _ => none
def Iu {R : Type} (X : Cx) (T : Tbl) (fr : Fr) (st : StB) (t : TypeId) (x y : Operand) (K : Go_ R) : Option R := match opA T st.E fr.F none x with
 | some (.ptr id off) => (match opA T st.E fr.F none y with
  | some v => Dp X.P st t id off v K
  | none => none)
 | some (.adr q off) => (match opA T st.E fr.F none y with
  | some v => Dh X.P fr st t q off v K
  | none => none)
 | _ => none
def LG {R : Type} (X : Cx) (T : Tbl) (fr : Fr) (st : StB) (g : GK) (d : Tmp) (t : TypeId) (x : Operand) (K : Go_ R) : Option R := match opA T st.E fr.F g x with
 | some (.adr q off) => xZ X T fr st g d t q off K
 | _ => none
def NV {R : Type} (X : Cx) (T : Tbl) (fr : Fr) (st : StB) (g : GK) (b : Builtin) (d : Option Tmp) (xs : List Operand) (ts : List TypeId) (K : Go_ R) : Option R := match b, xs, ts, d with
 | .append, [x, y], [t, u], some d => gone g (ifS (Nat.beq t u) (Kb X T fr st d t x y K) (FJ X T fr st d t u x y K))
 | .unsafeSliceData, [x], _, some d => gone g (Bf T fr st d x K)
 | .unsafeString, [x, y], [pt, _], some d => gone g (Gv X T fr st d pt x y K)
 | _, _, _, _ => none
def Ja {R : Type} (X : Cx) (tb : List Ent) (T : Tbl) (fr : Fr) (st : StB) (g : GK) (d : Option Tmp) (c : Callee) (xs : List Operand) (ts : List TypeId) (K : Go_ R) : Option R := match c with
 | .builtin b => NV X T fr st g b d xs ts K
 | .value fo => (match opA T st.E fr.F g fo with
  | some (.fn f a b) => (match nz T st.E fr.F g xs with
   | some vs => xp T fr st g d f (a ++ vs ++ b) K tb
   | none => none)
  | _ => none)
 | _ => none
noncomputable def opN {R : Type} (X : Cx) (tb : List Ent) (T : Tbl) (fr : Fr) (st : StB) (g : GK) (op : Op) (dst : Option Tmp) (K : Go_ R) : Option R := match op, dst with
 | .indexAddr t x y, some d => (match fB X.P t with
  | some _ => Gr X T fr st g d t x y K
  | none => (match opA T st.E fr.F g x with
   | some (.gp _) => Be X T fr st g d t x y K
   | _ => gone g (II X T fr st d t x y K)))
 | .slice t x lo hi mx, some d => (match fB X.P t with
  | some _ => G3 X T fr st g d t x lo hi mx K
  | none => gone g (J9 X T fr st d t x lo hi mx K))
 | .alloc t, some d => gone g (BW X st d t K)
 | .box t x, some d => gone g (IX T fr st d t x K)
 | .store t x y, none => gone g (Iu X T fr st t x y K)
 | .load t x, some d => LG X T fr st g d t x K
 | .buildSlice t n ps, some d => IE X T fr st g d t n ps.toList K
 | .makeSlice t x y, some d => gone g (GU X T fr st d t x y K)
 | .makeMap t none, some d => gone g (Gj X st d t K)
 | .mapUpdate t x y z, none => gone g (Gh X T fr st t x y z K)
 | .range t x, some d => gone g (Ji X T fr st d t x K)
 | .next x true, some d => gone g (Kz T fr st d x K)
 | .convert s dt x, some d => Le X T fr st g d s dt x K
 | .binOp op t x y _, some d => gone g (IW X T fr st d op t x y K)
 | .call c, d => Ja X tb T fr st g d c.callee c.args.toList c.argTypes.toList K
 | _, _ => none
noncomputable def opD {R : Type} (X : Cx) (tb : List Ent) (T : Tbl) (fr : Fr) (st : StB) (g : GK) (o : Oper) (K : Go_ R) : Option R :=
 match GY X T st.E fr.F g o.op with
 | some cv => rW cv.1 (g.map fun _ => T.get g) (K { st with E := bH o.dst g cv.2 st.E })
 | none => match Gg X T st.E fr.F st.G fr.H g o.op with
  | some cv => rW cv.1 (g.map fun _ => T.get g) (K { st with E := bH o.dst g cv.2 st.E })
  | none => ifS (st.low fr) (opN X tb T fr st g o.op o.dst K) none
section
variable {X : Cx} {tb : List Ent} {R : Type} {r : R} {K : Go_ R} {T : Tbl} {fr : Fr} {st : StB} {g : GK} {ρ : Nms} {Φ : Ctx} {w : World} {ty : TypeId} {pos : String} {af : Array Edge} {gd : Option (Nat × Bool)}
theorem cW {k : Option R} (h : gone g k = some r) : g = none ∧ k = some r := by
 cases g with
 | none => exact ⟨rfl, h⟩
 | some _ => cases h
theorem vS {d : Option Tmp} {f : FuncId} {fo : Operand} {xs : List Operand} {tys : Array TypeId} {a b vs : List AV} (hl : st.low fr = true) (hs : Sat (items ρ T st.G ++ (items ρ T fr.H ++ Φ)) w) (hΓ : ∀ it ∈ X.Γ, it ∈ Φ)
  (hfo : opA T st.E fr.F g fo = some (.fn f a b)) (hxs : nz T st.E fr.F g xs = some vs) : ∀ {tb : List Ent}, (∀ e ∈ tb, e.Ok X.P X.Γ) → xp T fr st g d f (a ++ vs ++ b) K tb = some r →
  Ok2 X.P T g (ai ρ T st.E fr.F) ⟨d, .call ⟨.value fo, xs.toArray, tys⟩, ty, pos, af, gd⟩ w (aB r K T fr st g d ρ Φ)
 | [], _, h => by cases h
 | e :: tb, htb, h => by
  unfold xp at h
  rcases cm h with ⟨h1, h2⟩ | ⟨_, h2⟩
  ·split at h2
   ·rename_i r' hr'
    subst h2
    have := Nat.eq_of_beq_eq_true h1
    subst this
    exact Km hl hs (htb e (List.mem_cons_self ..)) hΓ hfo hxs hr'
   ·exact vS hl hs hΓ hfo hxs (fun e he => htb e (List.mem_cons_of_mem _ he)) h2
  ·exact vS hl hs hΓ hfo hxs (fun e he => htb e (List.mem_cons_of_mem _ he)) h2
theorem Mn {d : Option Tmp} {c : Callee} {xs : Array Operand} {ts : Array TypeId} (hl : st.low fr = true) (hs : Sat (items ρ T st.G ++ (items ρ T fr.H ++ Φ)) w) (hΓ : ∀ it ∈ X.Γ, it ∈ Φ) (htb : ∀ e ∈ tb, e.Ok X.P X.Γ)
  (h : Ja X tb T fr st g d c xs.toList ts.toList K = some r) : Ok2 X.P T g (ai ρ T st.E fr.F) ⟨d, .call ⟨c, xs, ts⟩, ty, pos, af, gd⟩ w (aB r K T fr st g d ρ Φ) := by
 obtain ⟨xs⟩ := xs
 obtain ⟨ts⟩ := ts
 unfold Ja at h
 split at h
 ·unfold NV at h
  split at h
  ·rename_i x y t u d' e1 e2
   simp only at e1 e2; subst e1; subst e2
   obtain ⟨rfl, h1⟩ := cW h
   rcases cm h1 with ⟨h2, h3⟩ | ⟨_, h3⟩
   ·have := Nat.eq_of_beq_eq_true h2
    subst this
    exact Mt hl hs h3
   ·exact IY hl hs h3
  ·rename_i x d' e1
   simp only at e1; subst e1
   obtain ⟨rfl, h1⟩ := cW h
   exact (CJ hl hs h1).ok2
  ·rename_i x y pt it d' e1 e2
   simp only at e1 e2; subst e1; subst e2
   obtain ⟨rfl, h1⟩ := cW h
   exact Kn hl hs h1
  ·cases h
 ·split at h
  ·rename_i f a b hfo
   split at h
   ·rename_i vs hxs
    exact vS hl hs hΓ hfo hxs htb h
   ·cases h
  ·cases h
 ·cases h
theorem NH {op : Op} {dst : Option Tmp} (hl : st.low fr = true) (hs : Sat (items ρ T st.G ++ (items ρ T fr.H ++ Φ)) w) (hΓ : ∀ it ∈ X.Γ, it ∈ Φ) (htb : ∀ e ∈ tb, e.Ok X.P X.Γ)
  (h : opN X tb T fr st g op dst K = some r) : Ok2 X.P T g (ai ρ T st.E fr.F) ⟨dst, op, ty, pos, af, gd⟩ w (aB r K T fr st g dst ρ Φ) := by
 unfold opN at h
 split at h
 ·split at h
  ·exact (EU hl hs h).ok2
  ·split at h
   ·exact (BQ hl hΓ hs h).ok2
   ·obtain ⟨rfl, h1⟩ := cW h; exact LZ hs h1
 ·split at h
  ·exact (Fh hl hs h).ok2
  ·obtain ⟨rfl, h1⟩ := cW h; exact MO hl hΓ hs h1
 ·obtain ⟨rfl, h1⟩ := cW h; exact HX hl hs h1
 ·obtain ⟨rfl, h1⟩ := cW h; exact M4 hl hs h1
 ·obtain ⟨rfl, h1⟩ := cW h
  unfold Iu at h1
  split at h1
  ·rename_i id off hx
   split at h1
   ·rename_i v hv; exact .none_ (Hz hs hx hv h1)
   ·cases h1
  ·rename_i id off hx
   split at h1
   ·rename_i v hv; exact .none_ (Hb hl hs hx hv h1)
   ·cases h1
  ·cases h1
 ·unfold LG at h
  split at h
  ·rename_i q off hx; exact Lf hl hs hx h
  ·cases h
 ·exact MX hl hs h
 ·obtain ⟨rfl, h1⟩ := cW h; exact JN hl hs h1
 ·obtain ⟨rfl, h1⟩ := cW h; exact J5 hl hs h1
 ·obtain ⟨rfl, h1⟩ := cW h; exact KC hs h1
 ·obtain ⟨rfl, h1⟩ := cW h; exact Ng hl hs h1
 ·obtain ⟨rfl, h1⟩ := cW h; exact LI hs h1
 ·exact MB hl hs h
 ·obtain ⟨rfl, h1⟩ := cW h; exact MQ hs h1
 ·exact Mn hl hs hΓ htb h
 ·cases h
theorem OJ {o : Oper} (hT : dB T st.E fr.F) (hs : Sat (items ρ T st.G ++ (items ρ T fr.H ++ Φ)) w) (hΓ : ∀ it ∈ X.Γ, it ∈ Φ) (htb : ∀ e ∈ tb, e.Ok X.P X.Γ)
  (h : opD X tb T fr st g o K = some r) : Ok2 X.P T g (ai ρ T st.E fr.F) o w (aB r K T fr st g o.dst ρ Φ) := by
 obtain ⟨dst, op, ty, pos, af, gd⟩ := o
 unfold opD at h
 simp only at h
 split at h
 ·rename_i cv hcv
  obtain ⟨h1, h2⟩ := jx h
  exact Okq.ok2 ⟨_, fun w' => BB hT hcv h1, aB.old h2 (Nat.le_refl _) rfl rfl hs⟩
 ·split at h
  ·rename_i cv hcv
   obtain ⟨h1, h2⟩ := jx h
   have hr := Dv (dst := dst) (ty := ty) (pos := pos) (af := af) (gd := gd) hs hcv h1
   have hout : aB r K T fr st g dst ρ Φ (cv.2.val ρ) w := aB.old h2 (Nat.le_refl _) rfl rfl hs
   exact ⟨fun hg => aO.run (by rwa [hg] at hr) hout, fun _ => ⟨_, hout⟩⟩
  ·obtain ⟨h1, h2⟩ := ar h
   exact NH h1 hs hΓ htb h2
end
/-! guards -/
def Row.gd : Row → GK
 | .sli g _ _ _ _ | .elm g _ _ | .kn g _ _ _ _ _ _ => g
 | _ => none
theorem Row.oy {ρ : Nms} {T T' : Tbl} {r : Row} (h : T'.get r.gd = T.get r.gd) : r.item ρ T' = r.item ρ T := by
 cases r <;> simp only [Row.gd] at h <;> simp only [Row.item, h]
def pj (k : Nat × Bool) (g : GK) : Bool := !(GK.eq (some k) g)
def rC (k : Nat × Bool) : al → Bool
 | [] => true
 | x :: E => pj k x.2.1 && rC k E
def wD (k : Nat × Bool) : List Row → Bool
 | [] => true
 | r :: G => pj k r.gd && wD k G
def FH (k : Nat × Bool) : Tbl → Bool
 | [] => true
 | x :: T => pj k (some x.1) && pj k x.2.1 && FH k T
theorem mg {k : Nat × Bool} {par : GK} {rj : Nat} {b : Bool} {T : Tbl} {g : GK} (h : pj k g = true) : Tbl.get ((k, par, rj, b) :: T) g = T.get g := Tbl.wx h
theorem wL {ρ : Nms} {k : Nat × Bool} {par : GK} {rj : Nat} {b : Bool} {T : Tbl} : {E : al} → rC k E = true → al.env ρ ((k, par, rj, b) :: T) E = al.env ρ T E
 | [], _ => rfl
 | (t, g, v) :: E, h => by
  simp only [rC, Bool.and_eq_true] at h
  simp only [al.env]
  rw [mg h.1, wL h.2]
theorem rU {ρ : Nms} {k : Nat × Bool} {par : GK} {rj : Nat} {b : Bool} {T : Tbl} : {G : List Row} → wD k G = true → items ρ ((k, par, rj, b) :: T) G = items ρ T G
 | [], _ => rfl
 | r :: G, h => by
  simp only [wD, Bool.and_eq_true] at h
  simp only [items, List.map_cons]
  rw [Row.oy (mg h.1)]
  have := rU (ρ := ρ) (par := par) (rj := rj) (b := b) (T := T) h.2
  simp only [items] at this
  rw [this]
theorem tf {k : Nat × Bool} : {E : al} → rC k E = true → {t : Nat} → {x : GK × AV} → aG E t = some x → pj k x.1 = true
 | [], _, _, _, h => by cases h
 | (r, g, v) :: E, h, t, x, hx => by
  simp only [rC, Bool.and_eq_true] at h
  unfold aG at hx
  rcases cm hx with ⟨_, h2⟩ | ⟨_, h2⟩
  ·cases h2; exact h.1
  ·exact tf h.2 h2
def vJ (k : Nat × Bool) : Tbl → Bool
 | [] => false
 | x :: T => GK.eq (some k) (some x.1) || vJ k T
def jr (d : Option Tmp) : Tbl → Bool
 | [] => true
 | x :: T => (match d with
  | none => true
  | some d => !(Nat.beq d x.2.2.1)) && jr d T
def iX (ops : List Oper) (n : Nat) (T : Tbl) : Prop := ∀ x, x ∈ T → (ops[x.1.1]?).bind (·.dst) = some x.2.2.1 ∧ Nat.blt x.2.2.1 n = true
def FT (T : Tbl) (fr : Fr) : Prop := (∀ x, x ∈ fr.F → T.get x.2.1 = Tbl.get [] x.2.1) ∧ ∀ r, r ∈ fr.H → T.get r.gd = Tbl.get [] r.gd
def stepG {R : Type} (ops : List Oper) (T : Tbl) (fr : Fr) (st : StB) (o : Oper) (run : Tbl → GK → Option R) : Option R :=
 ifS (gK o && ub fr.n o.dst) (match o.guard with
 | none => ifS ( jr o.dst T ) ( run T none ) none
 | some k => ifS ( vJ k T ) ( ifS ( jr o.dst T ) ( run T (some k) ) none ) <| match ops[k.1]? with
  | some oj => (match oj.dst with
   | some rj => (match cC st.E fr.F rj with
    | some (par, .bool b) => ifS ( Nat.blt rj fr.n && rC k st.E && rC k fr.F && wD k st.G && wD k fr.H && FH k T && jr o.dst ((k, par, rj, b) :: T) ) ( run ((k, par, rj, b) :: T) (some k) ) none
    | _ => none)
   | none => none)
  | none => none) none
structure Hv (ops : List Oper) (fr0 fr : Fr) (st : StB) (ρ : Nms) (o : Oper) (T T' : Tbl) (g : GK) : Prop where
 pl : gK o = true
 ds : ub fr.n o.dst = true
 t1 : dB T' st.E fr.F
 t2 : iX ops fr.n T'
 ft : FT T' fr0
 ak : jr o.dst T' = true
 ee : al.env ρ T' st.E = al.env ρ T st.E
 ef : al.env ρ T' fr.F = al.env ρ T fr.F
 eg : items ρ T' st.G = items ρ T st.G
 eh : items ρ T' fr.H = items ρ T fr.H
 gg : o.guard = g
 gk : ∀ k, g = some k → ∃ rj par b, (ops[k.1]?).bind (·.dst) = some rj ∧ look (ai ρ T' st.E fr.F) rj = some (T'.get par, .bool b) ∧ Nat.blt rj fr.n = true ∧ (T'.get par && (b == k.2)) = T'.get g
theorem Ej {k : Nat × Bool} : {T : Tbl} → vJ k T = true → ∃ x, x ∈ T ∧ x.1 = k
 | [], h => by cases h
 | x :: T, h => by
  simp only [vJ, Bool.or_eq_true] at h
  rcases h with h | h
  ·have := GK.eq_eq h
   cases this
   exact ⟨x, List.mem_cons_self .., rfl⟩
  ·obtain ⟨y, h1, h2⟩ := Ej h
   exact ⟨y, List.mem_cons_of_mem _ h1, h2⟩
theorem Fv {k : Nat × Bool} : {T : Tbl} → FH k T = true → ∀ x, x ∈ T → pj k (some x.1) = true ∧ pj k x.2.1 = true
 | [], _, x, h => by cases h
 | y :: T, h, x, hx => by
  simp only [FH, Bool.and_eq_true] at h
  rcases List.mem_cons.1 hx with rfl | hx
  ·exact h.1
  ·exact Fv h.2 x hx
theorem EA {k : Nat × Bool} : {E : al} → rC k E = true → ∀ x, x ∈ E → pj k x.2.1 = true
 | [], _, x, h => by cases h
 | y :: T, h, x, hx => by
  simp only [rC, Bool.and_eq_true] at h
  rcases List.mem_cons.1 hx with rfl | hx
  ·exact h.1
  ·exact EA h.2 x hx
theorem EV {k : Nat × Bool} : {E : List Row} → wD k E = true → ∀ x, x ∈ E → pj k x.gd = true
 | [], _, x, h => by cases h
 | y :: T, h, x, hx => by
  simp only [wD, Bool.and_eq_true] at h
  rcases List.mem_cons.1 hx with rfl | hx
  ·exact h.1
  ·exact EV h.2 x hx
theorem BO {R : Type} {r : R} {ops : List Oper} {T : Tbl} {fr0 fr : Fr} {st : StB} {o : Oper} {run : Tbl → GK → Option R} {ρ : Nms} (h1 : dB T st.E fr.F) (h2 : iX ops fr.n T) (hF0 : fr0.F = fr.F) (hH0 : ∀ r, r ∈ fr0.H → r ∈ fr.H) (hf : FT T fr0) (h : stepG ops T fr st o run = some r) :
  ∃ T' g, run T' g = some r ∧ Hv ops fr0 fr st ρ o T T' g := by
 unfold stepG at h
 obtain ⟨h3, h4⟩ := ar h
 simp only [Bool.and_eq_true] at h3
 have old : ∀ k x, x ∈ T → x.1 = k → ∃ rj par b, (ops[k.1]?).bind (·.dst) = some rj ∧ look (ai ρ T st.E fr.F) rj = some (T.get par, .bool b) ∧ Nat.blt rj fr.n = true ∧ (T.get par && (b == k.2)) = T.get (some k) := fun k x hx hk => by
  subst hk
  obtain ⟨a1, a2⟩ := h1 x hx
  obtain ⟨a3, a4⟩ := h2 x hx
  exact ⟨x.2.2.1, x.2.1, x.2.2.2, a3, by rw [fc, a1]; simp [AV.val], a4, by rw [a2, uA]⟩
 split at h4
 ·rename_i hg
  obtain ⟨h5, h6⟩ := ar h4
  exact ⟨T, none, h6, ⟨h3.1, h3.2, h1, h2, hf, h5, rfl, rfl, rfl, rfl, hg, fun k hk => by cases hk⟩⟩
 ·rename_i k hg
  rcases cm h4 with ⟨h5, h6⟩ | ⟨h5, h6⟩
  ·obtain ⟨h7, h8⟩ := ar h6
   obtain ⟨x, hx, hk⟩ := Ej h5
   exact ⟨T, some k, h8, ⟨h3.1, h3.2, h1, h2, hf, h7, rfl, rfl, rfl, rfl, hg, fun k' hk' => by cases hk'; exact old k x hx hk⟩⟩
  ·split at h6
   ·rename_i oj hoj
    split at h6
    ·rename_i rj hrj
     split at h6
     ·rename_i par b hlk
      obtain ⟨h7, h8⟩ := ar h6
      simp only [Bool.and_eq_true] at h7
      obtain ⟨⟨⟨⟨⟨⟨b1, b2⟩, b3⟩, b4⟩, b5⟩, b6⟩, b7⟩ := h7
      have hpar : pj k par = true := by
       unfold cC at hlk
       split at hlk
       ·rename_i x hx; cases hlk; exact tf b2 hx
       ·exact tf b3 hlk
      have hself : Tbl.get ((k, par, rj, b) :: T) (some k) = (Tbl.get ((k, par, rj, b) :: T) par && mG k.2 b) := by
       rw [Tbl.ID, mg hpar]
      have ee := wL (ρ := ρ) (par := par) (rj := rj) (b := b) (T := T) b2
      have ef := wL (ρ := ρ) (par := par) (rj := rj) (b := b) (T := T) b3
      refine ⟨(k, par, rj, b) :: T, some k, h8, ⟨h3.1, h3.2, fun x hx => ?_, fun x hx => ?_, ⟨fun x hx => ?_, fun x hx => ?_⟩, b7, ee, ef, rU b4, rU b5, hg, fun k' hk' => ?_⟩⟩
      ·rcases List.mem_cons.1 hx with rfl | hx
       ·exact ⟨hlk, hself⟩
       ·obtain ⟨a1, a2⟩ := h1 x hx
        obtain ⟨a3, a4⟩ := Fv b6 x hx
        exact ⟨a1, by rw [mg a3, mg a4]; exact a2⟩
      ·rcases List.mem_cons.1 hx with rfl | hx
       ·exact ⟨by simp [hoj, hrj], b1⟩
       ·exact h2 x hx
      ·rw [mg (EA b3 x (hF0 ▸ hx))]; exact hf.1 x hx
      ·rw [mg (EV b5 x (hH0 x hx))]; exact hf.2 x hx
      ·cases hk'
       refine ⟨rj, par, b, by simp [hoj, hrj], ?_, b1, by rw [hself, uA]⟩
       rw [fc, hlk]; simp [AV.val]
     ·cases h6
    ·cases h6
   ·cases h6
theorem Ao {d : Option Tmp} : {T : Tbl} → jr d T = true → ∀ x, x ∈ T → ∀ (g : GK) (v : AV) (E F : al), cC (bH d g v E) F x.2.2.1 = cC E F x.2.2.1
 | [], _, x, h => by cases h
 | y :: T, h, x, hx => fun g v E F => by
  simp only [jr, Bool.and_eq_true] at h
  rcases List.mem_cons.1 hx with rfl | hx
  ·cases d with
   | none => rfl
   | some d =>
    have h1 := h.1
    simp only [Bool.not_eq_true'] at h1
    unfold cC
    simp only [bH, aG, h1]
  ·exact Ao h.2 x hx g v E F
theorem dB.out {T : Tbl} {E F : al} (h : dB T E F) {d : Option Tmp} (ha : jr d T = true) (g : GK) (v : AV) : dB T (bH d g v E) F := fun x hx => by
 rw [Ao ha x hx]; exact h x hx
theorem mJ {ρ : Nms} {T : Tbl} {d : Option Tmp} {g : GK} {v : AV} {E F : al} : ai ρ T (bH d g v E) F = jN d (T.get g) (v.val ρ) (ai ρ T E F) := by
 cases d <;> rfl
section
variable {X : Cx} {tb : List Ent} {σ : Option Nat} {Q : aI} {D : List Deferred} {ops : List Oper} {rest : List Oper} {R : Type} {r : R} {T : Tbl} {fr : Fr} {st : StB} {ρ : Nms} {Φ : Ctx} {w : World}
theorem CK {fr0 : Fr} {o : Oper} {K : Tbl → Go_ R} (h1 : dB T st.E fr.F) (h2 : iX ops fr.n T) (hF0 : fr0.F = fr.F) (hH0 : ∀ r, r ∈ fr0.H → r ∈ fr.H) (hf : FT T fr0) (hs : Sat (items ρ T st.G ++ (items ρ T fr.H ++ Φ)) w) (hΓ : ∀ it ∈ X.Γ, it ∈ Φ) (htb : ∀ e ∈ tb, e.Ok X.P X.Γ)
  (h : stepG ops T fr st o (fun T g => opD X tb T fr st g o (K T)) = some r)
  (next : ∀ T' st' ρ' w', dB T' st'.E fr.F → iX ops fr.n T' → FT T' fr0 → aw st.c ρ ρ' → st.c ≤ st'.c → K T' st' = some r → items ρ' T' fr.H = items ρ T fr.H → Sat (items ρ' T' st'.G ++ (items ρ' T' fr.H ++ Φ)) w' → WL X.P σ ops.toArray Q fr.n D rest (ai ρ' T' st'.E fr.F) w') :
  WL X.P σ ops.toArray Q fr.n D (o :: rest) (ai ρ T st.E fr.F) w := by
 obtain ⟨T', g, hk, so⟩ := BO (ρ := ρ) h1 h2 hF0 hH0 hf h
 have hs' : Sat (items ρ T' st.G ++ (items ρ T' fr.H ++ Φ)) w := by rw [so.eg, so.eh]; exact hs
 have he : ai ρ T st.E fr.F = ai ρ T' st.E fr.F := by rw [ai, ai, so.ee, so.ef]
 rw [he]
 have hop := OJ so.t1 hs' hΓ htb hk
 have fin : ∀ v w', aB r (K T') T' fr st g o.dst ρ Φ v w' → WL X.P σ ops.toArray Q fr.n D rest (jN o.dst (T'.get g) v (ai ρ T' st.E fr.F)) w' := fun v w' hv => by
  obtain ⟨ρ', st', av, k1, k2, k3, k4, k5, k6, k7, k8⟩ := hv
  have := next T' st' ρ' w' (by rw [k4]; exact so.t1.out so.ak g av) so.t2 so.ft k2 k3 k1 (k7.trans so.eh) k8
  rw [k4, mJ, k5, k6] at this
  exact this
 cases hg : g with
 | none =>
  subst hg
  have := fin
  rw [Tbl.get_none] at this
  exact Mf (hop.1 Tbl.get_none) so.pl so.gg so.ds this
 | some k =>
  obtain ⟨rj, par, b, g1, g2, g3, g4⟩ := so.gk k hg
  subst hg
  exact JT hop.1 hop.2 so.pl so.gg (by simpa using g1) g2 g3 g4 so.ds fin
end
/-! regions in their order -/
def jQ {α : Type} : Option α → Bool
 | none => true
 | some _ => false
def iB (E0 : al) : al → al
 | [] => []
 | x :: E => (match aG E0 x.1 with
  | some (none, _) => ifS (jQ x.2.1) (x :: iB E0 E) (iB E0 E)
  | _ => iB E0 E)
def gI : List Row → List Row
 | [] => []
 | r :: G => ifS (jQ r.gd) (r :: gI G) (gI G)
def mM (T : Tbl) (st : StB) : StB := match T with
 | [] => st
 | _ :: _ => { st with E := iB st.E st.E, G := gI st.G }
theorem ej {t' t : Nat} {g : GK} {v : AV} {E : al} (h : Nat.beq t' t = true) : aG ((t', g, v) :: E) t = some (g, v) := by simp only [aG, h]
theorem cI {t' t : Nat} {g : GK} {v : AV} {E : al} (h : Nat.beq t' t = false) : aG ((t', g, v) :: E) t = aG E t := by simp only [aG, h]
theorem qo {E0 : al} {t : Nat} : {E : al} → {x : GK × AV} → aG (iB E0 E) t = some x → x.1 = none ∧ (∃ v, aG E0 t = some (none, v)) ∧ ((∃ v, aG E t = some (none, v)) → aG E t = some x)
 | [], x, h => by cases h
 | (t', g', v') :: E, x, h => by
  unfold iB at h
  have bq : aG (iB E0 E) t = some x → (∀ v, Nat.beq t' t = true → aG E0 t' ≠ some (none, v) ∨ g' ≠ none) → x.1 = none ∧ (∃ v, aG E0 t = some (none, v)) ∧ ((∃ v, aG ((t', g', v') :: E) t = some (none, v)) → aG ((t', g', v') :: E) t = some x) := fun h' hn => by
   obtain ⟨h1, h2, h3⟩ := qo h'
   refine ⟨h1, h2, fun hv => ?_⟩
   cases hb : Nat.beq t' t
   ·rw [cI hb] at hv ⊢; exact h3 hv
   ·exfalso
    obtain ⟨v0, hv0⟩ := h2
    obtain ⟨v1, hv1⟩ := hv
    rw [ej hb] at hv1
    simp only [Option.some.injEq, Prod.mk.injEq] at hv1
    have e := Nat.eq_of_beq_eq_true hb
    rcases hn v0 hb with h4 | h4
    ·rw [e] at h4; exact h4 hv0
    ·exact h4 hv1.1
  dsimp only at h
  split at h
  ·rename_i v hv
   cases h1 : jQ g'
   ·rw [h1] at h
    exact bq h (fun v _ => .inr (fun e => by rw [e] at h1; cases h1))
   ·rw [h1] at h
    have h2 : aG ((t', g', v') :: iB E0 E) t = some x := h
    cases hb : Nat.beq t' t
    ·rw [cI hb] at h2 ⊢
     exact qo (E := E) h2
    ·rw [ej hb] at h2 ⊢
     cases h2
     have e := Nat.eq_of_beq_eq_true hb
     refine ⟨?_, ⟨v, by rw [← e]; exact hv⟩, fun _ => rfl⟩
     cases hy : g' with
     | none => rfl
     | some _ => rw [hy] at h1; cases h1
  ·rename_i hn
   exact bq h (fun v hb => .inl (fun e => hn v e))
theorem vH {E0 : al} {t : Nat} {v0 : AV} (h0 : aG E0 t = some (none, v0)) : {E : al} → {v : AV} → aG E t = some (none, v) → aG (iB E0 E) t = some (none, v)
 | [], v, h => by cases h
 | (t', g', v') :: E, v, h => by
  unfold iB
  cases hb : Nat.beq t' t
  ·rw [cI hb] at h
   have ih := vH h0 h
   dsimp only
   split
   ·cases jQ g'
    ·exact ih
    ·show aG ((t', g', v') :: iB E0 E) t = _
     rw [cI hb]; exact ih
   ·exact ih
  ·rw [ej hb] at h
   cases h
   have e := Nat.eq_of_beq_eq_true hb
   subst e
   dsimp only
   rw [h0]
   exact ej hb
def A6 (F E0 : al) : al → Bool
 | [] => true
 | x :: E => (match aG E0 x.1 with
  | some (none, _) => true
  | _ => jQ (aG F x.1)) && A6 F E0 E
theorem Cc {F E0 : al} {t : Nat} : {E : al} → {x : GK × AV} → A6 F E0 E = true → aG E t = some x → (∃ v, aG E0 t = some (none, v)) ∨ aG F t = none
 | [], x, _, h => by cases h
 | (t', g', v') :: E, x, hb, h => by
  simp only [A6, Bool.and_eq_true] at hb
  cases hq : Nat.beq t' t
  ·rw [cI hq] at h; exact Cc hb.2 h
  ·have e := Nat.eq_of_beq_eq_true hq
   subst e
   have h1 := hb.1
   split at h1
   ·rename_i v hv; exact .inl ⟨v, hv⟩
   ·cases hF : aG F t' with
    | none => exact .inr rfl
    | some y => rw [hF] at h1; cases h1
def tU (T : Tbl) (fr : Fr) (st : StB) : Bool := match T with
 | [] => true
 | _ :: _ => A6 fr.F st.E st.E
theorem K3 {ρ : Nms} {T : Tbl} {E : al} (h : ∀ x, x ∈ E → T.get x.2.1 = Tbl.get [] x.2.1) : al.env ρ T E = al.env ρ [] E := by
 induction E with
 | nil => rfl
 | cons x E ih =>
  obtain ⟨t, g, v⟩ := x
  simp only [al.env]
  rw [h _ (List.mem_cons_self ..), ih (fun x hx => h x (List.mem_cons_of_mem _ hx))]
theorem xr {ρ : Nms} {T : Tbl} {G : List Row} (h : ∀ r, r ∈ G → T.get r.gd = Tbl.get [] r.gd) : items ρ T G = items ρ [] G :=
 List.map_congr_left fun r hr => Row.oy (h r hr)
theorem mN : {G : List Row} → ∀ r, r ∈ gI G → r.gd = none
 | [], r, h => by cases h
 | y :: G, r, h => by
  unfold gI at h
  cases hy : jQ y.gd
  ·rw [hy] at h; exact mN r h
  ·rw [hy] at h
   rcases List.mem_cons.1 h with rfl | h
   ·cases hg : r.gd with
    | none => rfl
    | some _ => rw [hg] at hy; cases hy
   ·exact mN r h
theorem nM {ρ : Nms} {T : Tbl} {w : World} {B : Ctx} : ∀ {G : List Row} {A : Ctx}, Sat (A ++ (items ρ T G ++ B)) w → Sat (A ++ (items ρ T (gI G) ++ B)) w
 | [], _, h => h
 | r :: G, A, h => by
  unfold gI
  cases jQ r.gd
  ·exact nM (G := G) (Sat.uy h)
  ·have h' : Sat ((A ++ [r.item ρ T]) ++ (items ρ T G ++ B)) w := by simpa [items] using h
   have := nM (G := G) h'
   simpa [items] using this
theorem rI {ρ : Nms} {T : Tbl} {fr : Fr} {st : StB} {Φ : Ctx} {w : World} (hB : tU T fr st = true) (hf : FT T fr) (hs : Sat (items ρ T st.G ++ (items ρ T fr.H ++ Φ)) w) :
  (mM T st).c = st.c ∧ fE (ai ρ [] (mM T st).E fr.F) (ai ρ T st.E fr.F) ∧ Sat (items ρ [] (mM T st).G ++ (items ρ [] fr.H ++ Φ)) w := by
 cases T with
 | nil => exact ⟨rfl, fE.refl, hs⟩
 | cons x T =>
  refine ⟨rfl, fun t p hp => ?_, ?_⟩
  ·have eF : al.env ρ (x :: T) fr.F = al.env ρ [] fr.F := K3 hf.1
   rw [ai, qn] at hp ⊢
   rw [eF]
   cases hl : look (al.env ρ [] (mM (x :: T) st).E) t with
   | none =>
    rw [hl] at hp
    -- nothing kept: nothing told, or under a guard
    have : look (al.env ρ (x :: T) st.E) t = none := by
     rw [ku] at hl hp ⊢
     cases hE : aG st.E t with
     | none => rfl
     | some y =>
      exfalso
      have hk : aG (iB st.E st.E) t = none := by
       cases hk : aG (iB st.E st.E) t with
       | none => rfl
       | some z =>
        have : aG (mM (x :: T) st).E t = some z := hk
        rw [this] at hl; cases hl
      rcases Cc hB hE with ⟨v, hv⟩ | hF
      ·rw [vH hv hv] at hk; cases hk
      ·rw [hF] at hp; cases hp
    rw [this]; exact hp
   | some q =>
    rw [hl] at hp
    cases hp
    rw [ku] at hl
    cases hk : aG (mM (x :: T) st).E t with
    | none => rw [hk] at hl; cases hl
    | some y =>
     rw [hk] at hl
     obtain ⟨h1, h2, h3⟩ := qo hk
     have h4 := h3 h2
     rw [ku, h4]
     simp only [Option.map_some, Option.some.injEq] at hl ⊢
     rw [← hl, h1, Tbl.get_none, Tbl.get_none]
  ·have h1 := nM (A := []) hs
   have e1 : items ρ (x :: T) (gI st.G) = items ρ [] (gI st.G) := xr fun r hr => by rw [mN r hr, Tbl.get_none, Tbl.get_none]
   have e2 : items ρ (x :: T) fr.H = items ρ [] fr.H := xr hf.2
   rw [List.nil_append, e1, e2] at h1
   exact h1
end Go.Proofs.YtpnogcmollnjeaaGreatDoor
namespace Go.Proofs.YtpnogcmollnjeaaGreatDoor
open Go.Lib
def OkT : Bool → Pt → List (Bool × Nat × Pt) → Type
 | true, _, _ => Empty
 | false, r, os => Tup (hol r ++ ek os)
abbrev OG {R : Type} : (nv : Bool) → (r : Pt) → (os : List (Bool × Nat × Pt)) → OkT nv r os → (Tup (hol r ++ ek os) → Option R) → Option R
 | true, _, _, x, _ => Empty.elim x
 | false, _, _, x, K => K x
def isOk : (nv : Bool) → (r : Pt) → (os : List (Bool × Nat × Pt)) → OkT nv r os → Tup (hol r ++ ek os) → Prop
 | true, _, _, _, _ => False
 | false, _, _, x, q => x = q
theorem Nn {R : Type} {r' : R} : {nv : Bool} → {r : Pt} → {os : List (Bool × Nat × Pt)} → {x : OkT nv r os} → {q : Tup (hol r ++ ek os)} → {K : Tup (hol r ++ ek os) → Option R} → isOk nv r os x q → OG nv r os x K = some r' → K q = some r'
 | true, _, _, _, _, _, h, _ => h.elim
 | false, _, _, _, _, _, rfl, h => h
structure bK where
 f : FuncId
 ps : List Pt
 pp : Pt
 nv : Bool
 r : Pt
 os : List (Bool × Nat × Pt)
 m : Tup (jU ps) → Option (Except (Tup (hol pp)) (OkT nv r os))
def bK.oe (e : bK) : Ent := ⟨e.f, e.ps, e.r, e.os, fun _ => none⟩
def bK.S (e : bK) (vs : List Value) (N : List Nm) (I : Its) (X : Bxs) (Φ : Ctx) (r : Except (Tup (hol e.pp)) (OkT e.nv e.r e.os)) (v : Value) (w' : World) : Prop :=
 ∃ x q, r = .ok x ∧ isOk e.nv e.r e.os x q ∧ ∃ (N1 N2 : List Nm) (D1 D2 : List Dyn) (I1 I2 : Its) (X1 X2 : Bxs), Sem e.r v none none N D1 I1 X1 N1 ∧ qj (fxS e.ps vs X) (fun i => vs[i]?) e.os N1 D2 I2 X2 N2 ∧ D1 ++ D2 = unt _ q ∧
  Sat ((ca I1 ++ ca I2) ++ (dY I ++ Φ)) w'
def bK.Sp (e : bK) (I : Its) (Φ : Ctx) (r : Except (Tup (hol e.pp)) (OkT e.nv e.r e.os)) (c : List PanicEntry) (w' : World) : Prop :=
 ∃ p, r = .error p ∧ ∃ (v : Value) (N1 : List Nm) (I1 : Its) (X1 : Bxs), c = pan v ∧ Sem e.pp v none none [] (unt _ p) I1 X1 N1 ∧ Sat (ca I1 ++ (dY I ++ Φ)) w'
def bK.Ok (P : Program) (Γg : Ctx) (e : bK) : Prop := Enters P e.f ∧ ∀ s r, e.m s = some r → ∀ (vs : List Value) (N : List Nm) (I : Its) (X : Bxs) (Φ : Ctx) (w : World),
 lP e.ps vs [] [] (unt _ s) I X N → Sat (ca I ++ Φ) w → (∀ it ∈ Γg, it ∈ Φ) → gL P e.f vs w (e.S vs N I X Φ r) (e.Sp I Φ r)
def By {R : Type} (st : StB) (e : bK) (G1 : List Row) (KP : AV → StB → Option R) (p : Tup (hol e.pp)) : Option R :=
 match fill (j8 [] st.c) e.pp none none 0 (unt _ p) with
 | ⟨v, R1, k, _, _⟩ => KP v { st with c := st.c + k, G := R1.map (·.2) ++ G1 }
def Cr {R : Type} (fr : Fr) (st : StB) (d : Option Tmp) (args : List AV) (e : bK) (KP : AV → StB → Option R) (K : Go_ R) : Option (Option R) :=
 match mts (frz (cu st.G fr.H e.ps args) st.G) fr.H e.ps args [] [] with
  | some mr => ifS (ph (mr.S.map fun x => bL (frz (cu st.G fr.H e.ps args) st.G) fr.H x.2) && ltT (frz (cu st.G fr.H e.ps args) st.G).length (o7 (frz (cu st.G fr.H e.ps args) st.G) fr.H mr.S) && ltB st.c mr.B && AV.aY st.c args && wT st.c mr.X) (match tup (jU e.ps) mr.D with
   | some s => some (Lz (e.m s) (By st e (gG (kc (o7 (frz (cu st.G fr.H e.ps args) st.G) fr.H mr.S) 0 (frz (cu st.G fr.H e.ps args) st.G))) KP)
     (fun x => OG e.nv e.r e.os x (uR fr st none d args e.oe mr (gG (kc (o7 (frz (cu st.G fr.H e.ps args) st.G) fr.H mr.S) 0 (frz (cu st.G fr.H e.ps args) st.G))) K)))
   | none => none) none
  | none => none
def ud {R : Type} (fr : Fr) (st : StB) (d : Option Tmp) (f : FuncId) (args : List AV) (KP : AV → StB → Option R) (K : Go_ R) : List bK → Option (Option R)
 | [] => none
 | e :: tp => ifS (Nat.beq e.f f) (match Cr fr st d args e KP K with
   | some r => some r
   | none => ud fr st d f args KP K tp) (ud fr st d f args KP K tp)
def F0 {R : Type} (tp : List bK) (T : Tbl) (fr : Fr) (st : StB) (o : Oper) (KP : AV → StB → Option R) (K : Go_ R) : Option (Option R) := match o.guard with
 | some _ => none
 | none => (match o.op with
  | .panic x => (match opA T st.E fr.F none x with
   | some (.ifc t v) => some (KP (.ifc t v) st)
   | _ => none)
  | .call c => (match c.callee with
   | .value fo => (match opA T st.E fr.F none fo with
    | some (.fn f a b) => (match nz T st.E fr.F none c.args.toList with
     | some vs => ifS (jr o.dst T && ub fr.n o.dst && st.low fr) (ud fr st o.dst f (a ++ vs ++ b) KP K tp) none
     | none => none)
    | _ => none)
   | _ => none)
  | _ => none)
section
variable {P : Program} {R : Type} {r : R} {K : Go_ R} {KP : AV → StB → Option R} {T : Tbl} {fr : Fr} {st : StB} {d : Option Tmp} {ρ : Nms} {Φ Γg : Ctx} {w : World}
def Fz (r : R) (KP : AV → StB → Option R) (T : Tbl) (fr : Fr) (st : StB) (ρ : Nms) (Φ : Ctx) (v : Value) (w' : World) : Prop :=
 ∃ (ρ' : Nms) (st' : StB) (av : AV), KP av st' = some r ∧ aw st.c ρ ρ' ∧ st.c ≤ st'.c ∧ st'.E = st.E ∧ av.val ρ' = v ∧ Sat (items ρ' T st'.G ++ (items ρ' T fr.H ++ Φ)) w' ∧ ai ρ' T st.E fr.F = ai ρ T st.E fr.F
theorem Gq {e : bK} {G1 : List Row} {p : Tup (hol e.pp)} {v : Value} {w' : World} {N1 : List Nm} {I1 : Its} {X1 : Bxs}
  (hl : st.low fr = true) (hG1 : aS st.c G1 = true) (h1 : Sem e.pp v none none [] (unt _ p) I1 X1 N1)
  (hs : Sat (ca I1 ++ (items ρ T G1 ++ (items ρ T fr.H ++ Φ))) w') (h : By st e G1 KP p = some r) : Fz r KP T fr st ρ Φ v w' := by
 have hp1 := my _ _ _ _ _ _ _ _ _ h1
 have hnm := Ad (ρ := ρ) (c := st.c) (N := []) (B := []) (N2 := N1) .nil hp1 rfl
 have hag : aw st.c ρ (fun i => ifS (Nat.blt i st.c) (ρ i) ((N1[i - st.c]?).getD nm0)) := fun j hj => by
  have : Nat.blt j st.c = true := by simpa using hj
  simp only [this]
 generalize hρ : (fun i => ifS (Nat.blt i st.c) (ρ i) ((N1[i - st.c]?).getD nm0)) = ρ' at hnm hag
 obtain ⟨a1, a2, a3, a4, a5⟩ := qK (T := T) e.pp v none none [] (unt _ p) I1 X1 N1 h1 hnm (by simp) []
 rw [List.append_nil, List.length_nil] at a1 a2 a3 a4 a5
 unfold By at h
 generalize fill (j8 [] st.c) e.pp none none 0 (unt _ p) = L at a1 a2 a3 a4 a5 h
 obtain ⟨v', R1, k, DD, XX⟩ := L
 simp only at a1 a2 a3 a4 a5
 dsimp only at h
 have e3 := aH (T := T) hag hG1
 have e4 := aH (T := T) hag (StB.bJ.1 hl).2.2.2
 refine ⟨ρ', _, v', h, hag, Nat.le_add_right _ _, rfl, a1, ?_, iL hl hag⟩
 show Sat (items ρ' T (R1.map (·.2) ++ G1) ++ (items ρ' T fr.H ++ Φ)) w'
 rw [aF, e3, e4, List.append_assoc]
 exact Sat.leL (A := []) (B := ca I1) (C := items ρ T G1 ++ (items ρ T fr.H ++ Φ)) (by simpa using hs) a5.rw
theorem H3 {e : bK} {args : List AV} (hl : st.low fr = true) (hs : Sat (items ρ T st.G ++ (items ρ T fr.H ++ Φ)) w) (he : e.Ok P Γg) (hΓ : ∀ it ∈ Γg, it ∈ Φ) (h : Cr fr st d args e KP K = some (some r)) :
  gL P e.f (AV.ae ρ args) w (aB r K T fr st none d ρ Φ) (fun c w' => ∃ v, c = pan v ∧ Fz r KP T fr st ρ Φ v w') := by
 have hGl := ml (ids := cu st.G fr.H e.ps args) (StB.bJ.1 hl).2.2.1
 replace hs := iS (ids := cu st.G fr.H e.ps args) hs
 unfold Cr at h
 generalize frz (cu st.G fr.H e.ps args) st.G = Gu at hGl hs h
 split at h
 ·rename_i mr hm
  obtain ⟨h1, h2⟩ := ar h
  simp only [Bool.and_eq_true] at h1
  obtain ⟨⟨⟨⟨h3, h4⟩, h5⟩, h6⟩, h7⟩ := h1
  split at h2
  ·rename_i s htup
   simp only [Option.some.injEq] at h2
   obtain ⟨N, I, s1, n1, a1⟩ := nd hs e.ps args [] [] mr [] hm .nil
   rw [← qV _ htup] at s1
   obtain ⟨p1, p2⟩ := xD hs a1
   have hnd' := oh h3
   obtain ⟨q1, _⟩ := oq hs p1 hnd'
   have key2 : ∀ (L : List (Option Nat)) (G : List Row) (k : Nat), aS st.c G = true → aS st.c (gG (kc L k G)) = true := fun L G => by
    induction G with
    | nil => intro k _; rfl
    | cons r G ih =>
     intro k hG
     simp only [aS, Bool.and_eq_true] at hG
     show aS st.c (gG ((ifS (fX k L) .gone r) :: kc L (k + 1) G)) = true
     cases fX k L
     ·cases r <;> first | exact ih (k + 1) hG.2 | (simp only [gG, aS, Bool.and_eq_true]; exact ⟨hG.1, ih (k + 1) hG.2⟩)
     ·exact ih (k + 1) hG.2
   have hlow := key2 (o7 Gu fr.H mr.S) Gu 0 hGl
   have hsub : ∀ it ∈ Γg, it ∈ mkP (mr.S.map fun x => bL Gu fr.H x.2) (items ρ T Gu ++ (items ρ T fr.H ++ Φ)) := fun it hit => by
    obtain ⟨k, hk⟩ := List.mem_iff_getElem?.1 (hΓ it hit)
    have hk2 : (items ρ T Gu ++ (items ρ T fr.H ++ Φ))[Gu.length + fr.H.length + k]? = some it := by
     rw [List.getElem?_append_right (by simp [items]; omega), List.getElem?_append_right (by simp [items]; omega)]
     have : Gu.length + fr.H.length + k - (items ρ T Gu).length - (items ρ T fr.H).length = k := by simp [items]; omega
     rw [this]; exact hk
    refine List.mem_of_getElem? (i := Gu.length + fr.H.length + k) ?_
    rw [od, hk2]
    intro hmem
    obtain ⟨x, _, hx⟩ := List.mem_map.1 hmem
    have := Cj hx
    omega
   have call := fun rr hr => he.2 s rr hr (AV.ae ρ args) N I (bZ ρ mr.X) _ w (by simpa only [AV.ae] using s1) q1 hsub
   have backs : ∀ {A : Ctx} {w' : World}, Sat (A ++ (dY I ++ mkP (mr.S.map fun x => bL Gu fr.H x.2) (items ρ T Gu ++ (items ρ T fr.H ++ Φ)))) w' → Sat (A ++ (items ρ T (gG (kc (o7 Gu fr.H mr.S) 0 Gu)) ++ (items ρ T fr.H ++ Φ))) w' := fun {A w'} c4 => by
    have c5 := rb p2 hnd' c4
    rw [vV a1, rz h4] at c5
    exact pT c5
   rcases GO h2 with ⟨p, hq, hk⟩ | ⟨q, hq, hk⟩
   ·refine (call _ hq).mono (fun v w' hv => ?_) (fun c w' hv => ?_)
    ·obtain ⟨x', q', hq', _⟩ := hv; cases hq'
    ·obtain ⟨p', hp', v, N1, I1, X1, c1, c2, c3⟩ := hv
     cases hp'
     exact ⟨v, c1, Gq hl hlow c2 (backs c3) hk⟩
   ·refine (call _ hq).mono (fun v w' hv => ?_) (fun c w' hv => ?_)
    ·obtain ⟨x', q', hq', hi, N1, N2, D1, D2, I1, I2, X1, X2, c1, c2, c3, c4⟩ := hv
     cases hq'
     exact sK (e := e.oe) hl hlow n1 h5 h6 h7 c1 c2 c3 Tbl.get_none (backs c4) (.inl rfl) (Nn hi hk)
    ·obtain ⟨p', hp', _⟩ := hv; cases hp'
  ·cases h2
 ·cases h
theorem ue {f : FuncId} {args : List AV} (hl : st.low fr = true) (hs : Sat (items ρ T st.G ++ (items ρ T fr.H ++ Φ)) w) (hΓ : ∀ it ∈ Γg, it ∈ Φ) : ∀ {tp : List bK}, (∀ e ∈ tp, e.Ok P Γg) → ud fr st d f args KP K tp = some (some r) →
  Enters P f ∧ gL P f (AV.ae ρ args) w (aB r K T fr st none d ρ Φ) (fun c w' => ∃ v, c = pan v ∧ Fz r KP T fr st ρ Φ v w')
 | [], _, h => by cases h
 | e :: tp, htp, h => by
  unfold ud at h
  rcases cm h with ⟨h1, h2⟩ | ⟨_, h2⟩
  ·split at h2
   ·rename_i r' hr'
    cases h2
    have := Nat.eq_of_beq_eq_true h1
    subst this
    exact ⟨(htp e (List.mem_cons_self ..)).1, H3 hl hs (htp e (List.mem_cons_self ..)) hΓ hr'⟩
   ·exact ue hl hs hΓ (fun e he => htp e (List.mem_cons_of_mem _ he)) h2
  ·exact ue hl hs hΓ (fun e he => htp e (List.mem_cons_of_mem _ he)) h2
variable {σ : Option Nat} {Q : aI} {D : List Deferred} {ops rest : List Oper} {tp : List bK}
theorem Lw {o : Oper} (h1 : dB T st.E fr.F) (hs : Sat (items ρ T st.G ++ (items ρ T fr.H ++ Φ)) w) (hΓ : ∀ it ∈ Γg, it ∈ Φ) (htp : ∀ e ∈ tp, e.Ok P Γg)
  (h : F0 tp T fr st o KP K = some (some r))
  (next : ∀ st' ρ' w', dB T st'.E fr.F → aw st.c ρ ρ' → st.c ≤ st'.c → K st' = some r → items ρ' T fr.H = items ρ T fr.H → Sat (items ρ' T st'.G ++ (items ρ' T fr.H ++ Φ)) w' → WL P σ ops.toArray Q fr.n D rest (ai ρ' T st'.E fr.F) w')
  (pnext : ∀ v st' ρ' w', aw st.c ρ ρ' → st.c ≤ st'.c → KP v st' = some r → st'.E = st.E → ai ρ' T st.E fr.F = ai ρ T st.E fr.F → Sat (items ρ' T st'.G ++ (items ρ' T fr.H ++ Φ)) w' → At Q (.panic (pan (v.val ρ'))) fr.n D (ai ρ' T st'.E fr.F) w') :
  WL P σ ops.toArray Q fr.n D (o :: rest) (ai ρ T st.E fr.F) w := by
 obtain ⟨dst, op, ty, pos, af, gd⟩ := o
 unfold F0 at h
 split at h
 ·cases h
 rename_i hgd
 simp only at hgd
 subst hgd
 split at h
 ·rename_i x hop
  simp only at hop
  subst hop
  split at h
  ·rename_i t v hx
   have hk := Option.some.inj h
   have hx' := ax (ρ := ρ) hx
   rw [Tbl.get_none] at hx'
   simp only [AV.val] at hx'
   refine KB hx' ?_
   have := pnext (.ifc t v) st ρ w .refl (Nat.le_refl _) hk rfl rfl hs
   simp only [AV.val] at this
   exact this
  ·cases h
 ·rename_i c hop
  simp only at hop
  subst hop
  obtain ⟨callee, xs, tys⟩ := c
  obtain ⟨xs⟩ := xs
  simp only at h
  split at h
  ·rename_i fo
   split at h
   ·rename_i f a b hfo
    split at h
    ·rename_i vs hxs
     obtain ⟨h2, h3⟩ := ar h
     simp only [Bool.and_eq_true] at h2
     obtain ⟨⟨hak, hd⟩, hl⟩ := h2
     obtain ⟨hen, hc⟩ := ue hl hs hΓ htp h3
     have hfo' := ax (ρ := ρ) hfo
     have hxs' := iH (ρ := ρ) hxs
     rw [Tbl.get_none] at hfo' hxs'
     simp only [AV.val] at hfo'
     have hargs : AV.ae ρ (a ++ vs ++ b) = AV.ae ρ a ++ AV.ae ρ vs ++ AV.ae ρ b := by rw [bS, bS]
     have fin : ∀ v w', aB r K T fr st none dst ρ Φ v w' → WL P σ ops.toArray Q fr.n D rest (jN dst true v (ai ρ T st.E fr.F)) w' := fun v w' hv => by
      obtain ⟨ρ', st', av, k1, k2, k3, k4, k5, k6, k7, k8⟩ := hv
      have := next st' ρ' w' (by rw [k4]; exact h1.out hak none av) k2 k3 k1 k7 k8
      rw [k4, mJ, k5, k6, Tbl.get_none] at this
      exact this
     have pfin : ∀ c w', (∃ v, c = pan v ∧ Fz r KP T fr st ρ Φ v w') → At Q (.panic c) fr.n D (ai ρ T st.E fr.F) w' := fun c w' hv => by
      obtain ⟨v, rfl, ρ', st', av, k1, k2, k3, k4, k5, k6, k7⟩ := hv
      have := pnext av st' ρ' w' k2 k3 k1 k4 k7 k6
      rw [k5, k4, k7] at this
      exact this
     cases dst with
     | none => exact H8 hen hfo' hxs' hargs hc fin pfin
     | some dd => exact J0 hen hfo' hxs' hargs hd hc fin pfin
    ·cases h
   ·cases h
  ·cases h
 ·cases h
end
end Go.Proofs.YtpnogcmollnjeaaGreatDoor
