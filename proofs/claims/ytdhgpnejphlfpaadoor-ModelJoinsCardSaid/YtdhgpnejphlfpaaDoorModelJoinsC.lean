/-
  Own texts for the statement ModelJoins, cut down to what it needs: B11, B12, B13, B14, B15, B16, B24, B25, B30, B17, B23, B31. (cut and joined by a program)
-/
import Derived.Test.YtdhgpnejphlfpaaDoorModelJoinsA
import Derived.Test.YtdhgpnejphlfpaaDoorModelJoinsB
namespace Go.Proofs.YtdhgpnejphlfpaaDoor
open Go.Lib
noncomputable def both {R : Type} (a b : Option R) : Option R := open Classical in if a = b then a else none
theorem BL {R : Type} {a b : Option R} {r : R} (h : both a b = some r) : a = some r ∧ b = some r := by
 unfold both at h
 split at h
 ·rename_i e; exact ⟨h, e ▸ h⟩
 ·cases h
inductive Sh where
 | l
 | b (x y : Sh)
noncomputable def duE : Sh → (R : Type) → Option R → Option R
 | .l, _, a => a
 | .b x y, R, a => both (duE x R a) (duE y R a)
theorem DG {R : Type} {a : Option R} : (s : Sh) → duE s R a = a
 | .l => rfl
 | .b x y => by
  show both (duE x R a) (duE y R a) = a
  rw [DG x, DG y]
  unfold both
  simp
theorem aT : duE = fun _ _ a => a := funext fun s => funext fun _ => funext fun _ => DG s
noncomputable def GL {α R : Type} (l : List α) (k1 k0 : Option R) : Option R := match l with
 | [] => both k1 k0
 | _ :: _ => k0
theorem BR {α R : Type} {l : List α} {k1 k0 : Option R} {r : R} (h : GL l k1 k0 = some r) : k0 = some r ∧ (l = [] → k1 = some r) := by
 unfold GL at h
 split at h
 ·obtain ⟨h1, h2⟩ := BL h; exact ⟨h2, fun _ => h1⟩
 ·exact ⟨h, fun e => by cases e⟩
section
variable {X : Cx} {R : Type} {r : R} {K : Go_ R} {T : Tbl} {fr : Fr} {st : StB} {g : GK} {d : Tmp} {ρ : Nms} {Φ : Ctx} {w : World} {ty : TypeId} {pos : String} {af : Array Edge} {gd : Option (Nat × Bool)}
def Ht (X : Cx) (st : StB) (d : Tmp) (t : TypeId) (K : Go_ R) : Option R := match AT X.P t with
 | some p => (match vd X.tys p.1 with
  | some k => (match vd X.tys p.2 with
   | some v => K { st with c := st.c + 1, E := bT (some d) none (.mp st.c) st.E, G := .mp st.c k v (some []) :: st.G }
   | none => none)
  | none => none)
 | none => none
theorem Lf {t : TypeId} (hl : st.low fr = true) (hs : Sat (items ρ T st.G ++ (items ρ T fr.H ++ Φ)) w) (h : Ht X st d t K = some r) :
  Ok2 X.P T none (ai ρ T st.E fr.F) ⟨some d, .makeMap t none, ty, pos, af, gd⟩ w (aA r K T fr st none (some d) ρ Φ) := by
 unfold Ht at h
 split at h
 ·rename_i p hp
  split at h
  ·rename_i k hk
   split at h
   ·rename_i v hv
    have hrun : ky X.P (ai ρ T st.E fr.F) ⟨some d, .makeMap t none, ty, pos, af, none⟩ w (.map (some w.heap.size)) (w.alloc (.map #[] 0)) := fun n a hf => by simp [execOp, Instr.makeMap]
    refine .none_ (aN.gd (aN.kZ hrun (aA.push (x := { nm0 with m := some w.heap.size }) hl h (by simp only [AV.val, Nms.aV]) ?_)))
    simp only [Row.item, Nms.aV]
    exact hs.push (dO _ _) (fun b hb => by
     have : b = w.heap.size := by simpa [omap, uE] using hb
     subst this
     exact ⟨by show _ < (w.heap.push _).size; simp, Nat.le_refl _⟩) (fun M' m => .inr ⟨_, #[], 0, [], rfl, rfl, by show (w.heap.push _)[w.heap.size]? = _; simp, rfl⟩)
   ·cases h
  ·cases h
 ·cases h
def GX (X : Cx) (T : Tbl) (fr : Fr) (st : StB) (t : TypeId) (x y z : Operand) (K : Go_ R) : Option R := match AT X.P t with
 | some p => (match opA T st.E fr.F none x with
  | some (.mp id) => (match lx (H8 id) st.G with
   | some (j, .mp _ k v md) => (match opA T st.E fr.F none y with
    | some kv => (match opA T st.E fr.F none z with
     | some vv => (match Ey k kv with
      | some key => (match Ey v vv with
       | some val => ifS ( GQ X.P p.1 k ) ( md.bind fun l => K { st with G := st.G.set j (.mp id k v (some (sU l key val))) } ) none
       | none => none)
      | none => none)
     | none => none)
    | none => none)
   | _ => none)
  | _ => none)
 | none => none
theorem Lr {t : TypeId} {x y z : Operand} (hs : Sat (items ρ T st.G ++ (items ρ T fr.H ++ Φ)) w) (h : GX X T fr st t x y z K = some r) :
  Ok2 X.P T none (ai ρ T st.E fr.F) ⟨none, .mapUpdate t x y z, ty, pos, af, gd⟩ w (aA r K T fr st none none ρ Φ) := by
 unfold GX at h
 split at h
 ·rename_i p hp
  split at h
  ·rename_i id hx
   split at h
   ·rename_i j id' k v md hf
    split at h
    ·rename_i kv hy
     split at h
     ·rename_i vv hz
      split at h
      ·rename_i key hkey
       split at h
       ·rename_i val hval
        obtain ⟨h1, h2⟩ := al h
        obtain ⟨l, hmd, h3⟩ := pS h2
        subst hmd
        obtain ⟨f1, f2⟩ := jz hf
        have : id' = id := Nat.eq_of_beq_eq_true f2
        subst this
        have hx' := bp (ρ := ρ) hx
        have hy' := bp (ρ := ρ) hy
        have hz' := bp (ρ := ρ) hz
        simp only [AV.val] at hx'
        rw [AD hkey] at hy'
        rw [AD hval] at hz'
        have hi := fc (ρ := ρ) (T := T) (Φ := items ρ T fr.H ++ Φ) f1
        obtain ⟨w', hr, hC, hsz, hm⟩ := AH (P := X.P) (E := ai ρ T st.E fr.F) (w := w) (ty := ty) (pos := pos) (af := af) (Au h1) (om hp) hx' hy' hz' (hs.omap hi)
        refine .none_ (aN.gd (aN.Ho hr (aA.old (av := .raw undef) h3 (Nat.le_refl _) rfl (by simp only [AV.val]) ?_)))
        have hj : j < st.G.length := (List.getElem?_eq_some_iff.1 f1).1
        show Sat (items ρ T (st.G.set j _) ++ _) _
        rw [ei hj]
        exact hs.upd hi hC (fun b hb => ⟨hm.lt b hb, .inl hb⟩) (fun M' m _ => hm)
       ·cases h
      ·cases h
     ·cases h
    ·cases h
   ·cases h
  ·cases h
 ·cases h
def L8 (X : Cx) (T : Tbl) (fr : Fr) (st : StB) (d : Tmp) (t : TypeId) (x : Operand) (K : Go_ R) : Option R := match opA T st.E fr.F none x with
 | some (.str s) => ifS ( isStr X.P t ) ( K { st with c := st.c + 1, E := bT (some d) none (.ptr st.c 0) st.E, G := .it st.c s 0 :: st.G } ) none
 | _ => none
theorem OB {t : TypeId} {x : Operand} (hl : st.low fr = true) (hs : Sat (items ρ T st.G ++ (items ρ T fr.H ++ Φ)) w) (h : L8 X T fr st d t x K = some r) :
  Ok2 X.P T none (ai ρ T st.E fr.F) ⟨some d, .range t x, ty, pos, af, gd⟩ w (aA r K T fr st none (some d) ρ Φ) := by
 unfold L8 at h
 split at h
 ·rename_i s hx
  obtain ⟨h1, h2⟩ := al h
  have hx' := bp (ρ := ρ) hx
  simp only [AV.val] at hx'
  have hrun : ky X.P (ai ρ T st.E fr.F) ⟨some d, .range t x, ty, pos, af, none⟩ w (.pointer (some ⟨w.heap.size, 0, none⟩)) (w.alloc (.stringIter ⟨s.toArray⟩ 0)) := fun n' a hf => by
   simp [execOp, hx' n' a hf rfl, Instr.range, run_underlying (ku h1), S]
  refine .none_ (aN.gd (aN.kZ hrun (aA.push (x := { nm0 with b := w.heap.size }) hl h2 (by simp only [AV.val, Nms.aV]) ?_)))
  simp only [Row.item, Nms.aV]
  exact hs.push (dO _ _) (fun b hb => by
   have : b = w.heap.size := by simpa [iter] using hb
   subst this; simp) (fun _ _ => heap_alloc_new w _)
 ·cases h
def Km (T : Tbl) (fr : Fr) (st : StB) (d : Tmp) (x : Operand) (K : Go_ R) : Option R := match opA T st.E fr.F none x with
 | some (.ptr id 0) => (match lx (Po id) st.G with
  | some (j, .it _ s p) => cond (decide (p < s.length)) (K { st with E := bT (some d) none (.tuple [.bool true, .int .i64 (p : Int), .int .i32 (lS s p)]) st.E, G := st.G.set j (.it id s (ij s p)) })
   (K { st with E := bT (some d) none (.tuple [.bool false]) st.E })
  | _ => none)
 | _ => none
theorem Nx {x : Operand} (hs : Sat (items ρ T st.G ++ (items ρ T fr.H ++ Φ)) w) (h : Km T fr st d x K = some r) :
  Ok2 X.P T none (ai ρ T st.E fr.F) ⟨some d, .next x true, ty, pos, af, gd⟩ w (aA r K T fr st none (some d) ρ Φ) := by
 unfold Km at h
 split at h
 ·rename_i id hx
  split at h
  ·rename_i j id' s p hf
   obtain ⟨f1, f2⟩ := jz hf
   have : id' = id := Nat.eq_of_beq_eq_true f2
   subst this
   have hx' := bp (ρ := ρ) hx
   simp only [AV.val] at hx'
   have hi := fc (ρ := ρ) (T := T) (Φ := items ρ T fr.H ++ Φ) f1
   have hI : z9 w (ρ id').b s p := hs.iter hi
   have hg : (getObj (ρ id').b).run X.P w = .ok (.stringIter ⟨s.toArray⟩ p) w := by
    simp only [getObj, Sem.run]; rw [hI]
   rcases qQ h with ⟨hq, h2⟩ | ⟨hq, h2⟩
   ·have hq' : p < s.length := by simpa using hq
    have hlt := (Array.getElem?_eq_some_iff.1 hI).1
    have hIt : z9 { w with heap := w.heap.setIfInBounds (ρ id').b (.stringIter ⟨s.toArray⟩ (ij s p)) } (ρ id').b s (ij s p) := by
     show (w.heap.setIfInBounds (ρ id').b _)[(ρ id').b]? = _
     rw [Array.getElem?_setIfInBounds_self_of_lt hlt]
    have hC : Chg [(ρ id').b] w { w with heap := w.heap.setIfInBounds (ρ id').b (.stringIter ⟨s.toArray⟩ (ij s p)) } := ⟨rfl, rfl, rfl, by show w.heap.size ≤ (w.heap.setIfInBounds (ρ id').b _).size; simp, fun c _ hcb => by
     show (w.heap.setIfInBounds (ρ id').b _)[c]? = _
     have hne : c ≠ (ρ id').b := by simpa using hcb
     rw [Array.getElem?_setIfInBounds_ne (Ne.symm hne)]⟩
    have hst : (setObj (ρ id').b (.stringIter ⟨s.toArray⟩ (ij s p))).run X.P w = .ok () { w with heap := w.heap.setIfInBounds (ρ id').b (.stringIter ⟨s.toArray⟩ (ij s p)) } := by
     simp only [setObj, Sem.run]; rw [hI]
    have hsz : p < (⟨s.toArray⟩ : ByteArray).size := by rw [iD]; exact hq'
    have e1 : ij s p = p + (Utf8.decode ⟨s.toArray⟩ p).2 := rfl
    have hrun : ky X.P (ai ρ T st.E fr.F) ⟨some d, .next x true, ty, pos, af, none⟩ w (.tuple #[.bool true, .int .i64 (p : Int), .int .i32 (lS s p)]) { w with heap := w.heap.setIfInBounds (ρ id').b (.stringIter ⟨s.toArray⟩ (ij s p)) } := fun n' a hf => by
     rw [e1] at hst ⊢
     simp only [execOp, hx' n' a hf rfl, Instr.next, Sem.run_bind, hg, Result.andThen_ok, if_pos hsz, Sem.run_pure, hst, goInt]
     rfl
    refine .none_ (aN.gd (aN.kZ hrun (aA.old (av := .tuple [.bool true, .int .i64 (p : Int), .int .i32 (lS s p)]) h2 (Nat.le_refl _) rfl (by simp only [AV.val, AV.ae]) ?_)))
    have hj : j < st.G.length := (List.getElem?_eq_some_iff.1 f1).1
    show Sat (items ρ T (st.G.set j _) ++ _) _
    rw [ei hj]
    exact hs.upd hi hC (fun c hc => by
     have : c = (ρ id').b := by simpa [Row.item, Go.Proofs.YtdhgpnejphlfpaaDoor.iter] using hc
     subst this; exact ⟨(Array.getElem?_eq_some_iff.1 hIt).1, .inl (by simp [Row.item, Go.Proofs.YtdhgpnejphlfpaaDoor.iter])⟩) (fun _ _ _ => hIt)
   ·have hq' : ¬ p < s.length := by simpa using hq
    have hrun : ky X.P (ai ρ T st.E fr.F) ⟨some d, .next x true, ty, pos, af, none⟩ w (.tuple #[.bool false]) w := fun n' a hf => by
     have hsz : ¬ p < (⟨s.toArray⟩ : ByteArray).size := by rw [iD]; exact hq'
     simp only [execOp, hx' n' a hf rfl, Instr.next, Sem.run_bind, hg, Result.andThen_ok, if_neg hsz, Sem.run_pure]
    exact .none_ (aN.gd (aN.kZ hrun (aA.old (av := .tuple [.bool false]) h2 (Nat.le_refl _) rfl (by simp only [AV.val, AV.ae]) hs)))
  ·cases h
 ·cases h
def La (X : Cx) (T : Tbl) (fr : Fr) (st : StB) (g : GK) (d : Tmp) (s dt : TypeId) (x : Operand) (K : Go_ R) : Option R := match opA T st.E fr.F g x with
 | some (.str l) => ifS ( isStr X.P s ) ( match fF X.P dt with
  | some e => (match tyK X.P e with
   | some .u8 => K { st with c := st.c + 1, E := bT (some d) g (.sl st.c) st.E, G := .sli g st.c (.i .u8) (bytesOf l) false :: st.G }
   | _ => none)
  | none => none ) none
 | _ => none
theorem NJ {s dt : TypeId} {x : Operand} (hl : st.low fr = true) (hs : Sat (items ρ T st.G ++ (items ρ T fr.H ++ Φ)) w) (h : La X T fr st g d s dt x K = some r) :
  Ok2 X.P T g (ai ρ T st.E fr.F) ⟨some d, .convert s dt x, ty, pos, af, gd⟩ w (aA r K T fr st g (some d) ρ Φ) := by
 unfold La at h
 split at h
 ·rename_i l hx
  obtain ⟨h1, h2⟩ := al h
  split at h2
  ·rename_i e he
   split at h2
   ·rename_i hk
    have hx' := ay (ρ := ρ) hx
    simp only [AV.val] at hx'
    refine ⟨fun hg => ?_, fun hg => ?_⟩
    ·rw [hg] at hx'
     obtain ⟨v', w', hr, hE, hlt, hO⟩ := Kn (P := X.P) (E := ai ρ T st.E fr.F) (w := w) (dst := some d) (ty := ty) (pos := pos) (af := af) (ku h1) (bw he) (Ak hk) hx'
     have hf := hO (Ctx.M (items ρ T st.G ++ (items ρ T fr.H ++ Φ))) (fun hm => by have := hs.lt hm; omega)
     obtain ⟨p, rfl⟩ := hf.j9
     refine aN.gd (aN.kZ hr (aA.push (x := { nm0 with v := p }) hl h2 (by simp only [AV.val, Nms.aV]) ((hs.ext hE).add rfl ?_)))
     simp only [Row.item, Nms.aV]
     exact fun _ => ⟨hf, fun hb => by cases hb⟩
    ·exact ⟨_, aA.push (x := nm0) hl h2 rfl (hs.add rfl fun h => by rw [hg] at h; cases h)⟩
   ·cases h2
  ·cases h2
 ·cases h
noncomputable def Li (X : Cx) (T : Tbl) (fr : Fr) (st : StB) (d : Tmp) (op : BinOp) (t : TypeId) (x y : Operand) (K : Go_ R) : Option R := match fF X.P t with
 | some _ => (match opA T st.E fr.F none x with
  | some (.sl id) => (match opA T st.E fr.F none y with
   | some (.raw (.slice none 0 0)) => (match slA st.G fr.H id with
    | some ⟨none, _, l⟩ => (match op with
     | .eql => GL l (K { st with E := bT (some d) none (.bool true) st.E }) (K { st with E := bT (some d) none (.bool false) st.E })
     | .neq => GL l (K { st with E := bT (some d) none (.bool false) st.E }) (K { st with E := bT (some d) none (.bool true) st.E })
     | _ => none)
    | _ => none)
   | _ => none)
  | _ => none)
 | none => none
theorem NX {op : BinOp} {t t' : TypeId} {x y : Operand} (hs : Sat (items ρ T st.G ++ (items ρ T fr.H ++ Φ)) w) (h : Li X T fr st d op t x y K = some r) :
  Ok2 X.P T none (ai ρ T st.E fr.F) ⟨some d, .binOp op t x y t', ty, pos, af, gd⟩ w (aA r K T fr st none (some d) ρ Φ) := by
 unfold Li at h
 split at h
 ·rename_i e he
  split at h
  ·rename_i id hx
   split at h
   ·rename_i hy
    split at h
    ·rename_i u l hsl
     have hx' := bp (ρ := ρ) hx
     have hy' := bp (ρ := ρ) hy
     simp only [AV.val] at hx' hy'
     have hlen := AS hs hsl Tbl.get_none
     have hcase : (lZ (sl (ρ id).v) = true ∧ l = []) ∨ lZ (sl (ρ id).v) = false := by
      rcases Du hs hsl Tbl.get_none with hS | ⟨e', hO⟩
      ·rcases EU hS with ⟨h1, h2⟩ | h1
       ·exact .inl ⟨by rw [h1]; rfl, h2⟩
       ·exact .inr h1
      ·exact E9 hO
     have mk : ∀ b : Bool, K { st with E := bT (some d) none (.bool b) st.E } = some r → aA r K T fr st none (some d) ρ Φ (.bool b) w := fun b hb => aA.old (av := .bool b) hb (Nat.le_refl _) rfl (by simp only [AV.val]) hs
     split at h
     ·obtain ⟨k0, k1⟩ := BR h
      refine .none_ (aN.gd (aN.run (E7 (bw he) hx' hlen hy') ?_))
      rcases hcase with ⟨c1, c2⟩ | c1
      ·rw [c1]; exact mk _ (k1 c2)
      ·rw [c1]; exact mk _ k0
     ·obtain ⟨k0, k1⟩ := BR h
      refine .none_ (aN.gd (aN.run (EP (bw he) hx' hlen hy') ?_))
      rcases hcase with ⟨c1, c2⟩ | c1
      ·rw [c1]; exact mk _ (k1 c2)
      ·rw [c1]; exact mk _ k0
     ·cases h
    ·cases h
   ·cases h
  ·cases h
 ·cases h
def HM (i : Int) (m : Nat) (k : Nat → Option R) : Nat → Nat → Option R
 | 0, _ => none
 | n + 1, j => cond (i == (j : Int)) (k (j * m)) (HM i m k n (j + 1))
theorem Bw {i : Int} {m : Nat} {k : Nat → Option R} : ∀ {n j : Nat}, HM i m k n j = some r → ∃ q, j ≤ q ∧ q < j + n ∧ i = (q : Int) ∧ k (q * m) = some r
 | 0, j, h => by cases h
 | n + 1, j, h => by
  unfold HM at h
  rcases qQ h with ⟨h1, h2⟩ | ⟨_, h2⟩
  ·exact ⟨j, Nat.le_refl _, by omega, by simpa using h1, h2⟩
  ·obtain ⟨q, q1, q2, q3, q4⟩ := Bw h2
   exact ⟨q, by omega, by omega, q3, q4⟩
def Lt (X : Cx) (T : Tbl) (fr : Fr) (st : StB) (d : Tmp) (t : TypeId) (x y : Operand) (K : Go_ R) : Option R := match X.P.underlying t with
 | some (.array n e) => (match tiA X.P e with
  | some z => (match opA T st.E fr.F none x with
   | some (.ptr id off) => (match opA T st.E fr.F none y with
    | some (.int _ i) => HM i z.1 (fun k => K { st with E := bT (some d) none (.ptr id (off + k)) st.E }) n 0
    | _ => none)
   | _ => none)
  | none => none)
 | _ => none
theorem NY {t : TypeId} {x y : Operand} (hs : Sat (items ρ T st.G ++ (items ρ T fr.H ++ Φ)) w) (h : Lt X T fr st d t x y K = some r) :
  Ok2 X.P T none (ai ρ T st.E fr.F) ⟨some d, .indexAddr t x y, ty, pos, af, gd⟩ w (aA r K T fr st none (some d) ρ Φ) := by
 unfold Lt at h
 split at h
 ·rename_i n e ht
  split at h
  ·rename_i z hz
   obtain ⟨m, bytes, z⟩ := z
   split at h
   ·rename_i id off hx
    split at h
    ·rename_i k i hy
     obtain ⟨q, _, q2, q3, q4⟩ := Bw h
     have hx' := bp (ρ := ρ) hx
     have hy' := bp (ρ := ρ) hy
     simp only [AV.val] at hx' hy'
     have hout : aA r K T fr st none (some d) ρ Φ (.pointer (some ⟨(ρ id).b, off + q * m, none⟩)) w := aA.old (av := .ptr id (off + q * m)) q4 (Nat.le_refl _) rfl (by simp only [AV.val]) hs
     have hrun := qt (P := X.P) (w := w) (dst := some d) (ty := ty) (pos := pos) (af := af) (gd := none) ht (cH hz) hx' hy' (by
      intro _; subst q3; exact ob.2 ⟨by omega, by omega⟩)
     have e1 : ((⟨(ρ id).b, off, none⟩ : Addr).add (i.toNat * m)) = ⟨(ρ id).b, off + q * m, none⟩ := by rw [add_plain, q3]; rfl
     rw [e1] at hrun
     exact .none_ (aN.gd (aN.run hrun hout))
    ·cases h
   ·cases h
  ·cases h
 ·cases h
end
end Go.Proofs.YtdhgpnejphlfpaaDoor
namespace Go.Proofs.YtdhgpnejphlfpaaDoor
open Go.Lib
/-! tuples of holes -/
def Tup : List Ty → Type
 | [] => Unit
 | [t] => t.T
 | t :: u :: ts => t.T × Tup (u :: ts)
def unt : (ts : List Ty) → Tup ts → List Dyn
 | [], _ => []
 | [t], x => [⟨t, x⟩]
 | t :: u :: ts, x => ⟨t, x.1⟩ :: unt (u :: ts) x.2
def tup : (ts : List Ty) → List Dyn → Option (Tup ts)
 | [], D => (match D with
  | [] => some ()
  | _ => none)
 | [t], D => (match D with
  | [d] => d.as t
  | _ => none)
 | t :: u :: ts, D => (match D with
  | d :: D => (match d.as t with
   | some x => (match tup (u :: ts) D with
    | some y => some (x, y)
    | none => none)
   | none => none)
  | _ => none)
theorem oH : (ts : List Ty) → {D : List Dyn} → {s : Tup ts} → tup ts D = some s → unt ts s = D
 | [], D, s, h => by
  unfold tup at h
  split at h
  ·rfl
  ·cases h
 | [t], D, s, h => by
  match D, h with
  | [d], h => rw [Dyn.xw (t := t) (d := d) (x := s) h]; rfl
  | [], h => cases h
  | _ :: _ :: _, h => cases h
 | t :: u :: ts, D, s, h => by
  unfold tup at h
  split at h
  ·rename_i d D'
   split at h
   ·rename_i x hx
    split at h
    ·rename_i y hy
     cases h
     show ⟨t, x⟩ :: unt (u :: ts) y = _
     rw [oH (u :: ts) hy, Dyn.xw hx]
    ·cases h
   ·cases h
  ·cases h
def HC : (ts : List Ty) → Tup ts
 | [] => ()
 | [t] => t.lh
 | t :: u :: ts => (t.lh, HC (u :: ts))
mutual
def hol : Pt → List Ty
 | .int k => [.i k]
 | .bool => [.bo]
 | .str => [.s]
 | .sli t => [.l t]
 | .own t _ _ => [.l t]
 | .bx _ _ _ vs => lr vs
 | .mp k v _ => [.mp k v]
 | .it => [.s, .n]
 | .agg l => lr l
 | .tup l => lr l
 | .fn _ a b => lr a ++ lr b
 | .ifc _ p => hol p
 | .dat t _ => [t]
 | .sfp => [.bo]
 | _ => []
def lr : List Pt → List Ty
 | [] => []
 | p :: l => hol p ++ lr l
end
def eK : List (Bool × Nat × Pt) → List Ty
 | [] => []
 | x :: l => hol x.2.2 ++ eK l
/-! what forms say -/
abbrev Fx := Option (Value × List Value)
def wI (fx : Fx) (v : Value) : Prop := ∀ p, fx = some p → v = p.1
def fxC (fx : Fx) : List Value := match fx with
 | some p => p.2
 | none => []
abbrev Its := List (Bool × Item)
abbrev Bxs := List (Nat × List Value)
def oe (e : Nat) : Nat := e / 2
def ow (e : Nat) : Bool := Nat.beq (e % 2) 1
def yt : (t : Ty) → t.T → List Value → List (Option TypeId) → List Nm → Its → List Nm → List (Option TypeId) → Prop
 | .i k, x, cs, o, N, I, N', o' => cs = [.int k x] ∧ I = [] ∧ N' = N ∧ o' = o
 | .bo, x, cs, o, N, I, N', o' => cs = [.bool x] ∧ I = [] ∧ N' = N ∧ o' = o
 | .s, x, cs, o, N, I, N', o' => cs = [S x] ∧ I = [] ∧ N' = N ∧ o' = o
 | .un, _, cs, o, N, I, N', o' => cs = [] ∧ I = [] ∧ N' = N ∧ o' = o
 | .p a b, x, cs, o, N, I, N', o' => ∃ c1 c2 N1 I1 I2 o1, yt a x.1 c1 o N I1 N1 o1 ∧ yt b x.2 c2 o1 N1 I2 N' o' ∧ cs = c1 ++ c2 ∧ I = I1 ++ I2
 | .l t, x, cs, o, N, I, N', o' => ∃ a : Nm, cs = [sl a.v] ∧ N' = N ++ [a] ∧ ((o = none :: o' ∧ I = [(false, vQ true t.rep a.v x false)]) ∨ ∃ e, o = some e :: o' ∧ I = [(ow e, qI t.rep (oe e) a.v x True)] ∧ a.y = ⟨.l t, x⟩)
 | .ex, x, cs, o, N, I, N', o' => ∃ a : Nm, cs = [.int .i64 x.op, .int .i64 x.n, .int .i64 x.at_, sl a.v] ∧ N' = N ++ [a] ∧ ((o = none :: o' ∧ I = [(false, vQ true uy a.v x.l false)]) ∨ ∃ e, o = some e :: o' ∧ I = [(ow e, qI uy (oe e) a.v x.l True)] ∧ a.y = ⟨.l .ex, x.l⟩)
 | _, _, _, _, _, _, _, _ => False
mutual
def Sem : Pt → Value → Fx → Option Value → List Nm → List Dyn → Its → Bxs → List Nm → Prop
 | .int k, v, _, _, N, D, I, X, N' => ∃ x, v = .int k x ∧ D = [⟨.i k, x⟩] ∧ I = [] ∧ X = [] ∧ N' = N
 | .bool, v, _, _, N, D, I, X, N' => ∃ x, v = .bool x ∧ D = [⟨.bo, x⟩] ∧ I = [] ∧ X = [] ∧ N' = N
 | .str, v, _, _, N, D, I, X, N' => ∃ x, v = S x ∧ D = [⟨.s, x⟩] ∧ I = [] ∧ X = [] ∧ N' = N
 | .sli t, v, _, _, N, D, I, X, N' => ∃ (a : Nm) (l : List t.T), v = sl a.v ∧ D = [⟨.l t, l⟩] ∧ I = [(false, vQ true t.rep a.v l false)] ∧ X = [] ∧ N' = N ++ [a]
 | .own t e m, v, fx, _, N, D, I, X, N' => ∃ (a : Nm) (l : List t.T), v = sl a.v ∧ wI fx v ∧ D = [⟨.l t, l⟩] ∧ I = [(m, qI t.rep e a.v l True)] ∧ X = [] ∧ N' = N ++ [a] ∧ a.y = ⟨.l t, l⟩
 | .slr n, v, _, _, N, D, I, X, N' => ∃ a : Nm, N[n]? = some a ∧ v = sl a.v ∧ D = [] ∧ I = [] ∧ X = [] ∧ N' = N
 | .bx t off m vs, v, fx, _, N, D, I, X, N' => ∃ (a : Nm) (cs : List Value) (I' : Its) (X' : Bxs), v = .pointer (some ⟨a.b, off, none⟩) ∧ wI fx v ∧ nO vs cs (fxC fx) (N ++ [a]) D I' X' N' ∧ I = (m, box a.b t cs) :: I' ∧ X = (ifS m [(N.length, cs)] []) ++ X'
 | .ptr n off, v, _, _, N, D, I, X, N' => ∃ a : Nm, N[n]? = some a ∧ v = .pointer (some ⟨a.b, off, none⟩) ∧ D = [] ∧ I = [] ∧ X = [] ∧ N' = N
 | .mp k u m, v, fx, _, N, D, I, X, N' => ∃ (a : Nm) (d : Option (List (k.T × u.T))), v = .map a.m ∧ wI fx v ∧ D = [⟨.mp k u, d⟩] ∧ I = [(m, omap (ta k) (ta u) (.map a.m) d)] ∧ X = [] ∧ N' = N ++ [a]
 | .it, v, fx, _, N, D, I, X, N' => ∃ (a : Nm) (s : Str) (p : Nat), v = .pointer (some ⟨a.b, 0, none⟩) ∧ wI fx v ∧ D = [⟨.s, s⟩, ⟨.n, p⟩] ∧ I = [(true, iter a.b s p)] ∧ X = [] ∧ N' = N ++ [a]
 | .agg l, v, _, _, N, D, I, X, N' => ∃ cs : List Value, v = .agg cs.toArray ∧ nO l cs [] N D I X N'
 | .tup l, v, _, _, N, D, I, X, N' => ∃ cs : List Value, v = .tuple cs.toArray ∧ nO l cs [] N D I X N'
 | .fn f a b, v, _, _, N, D, I, X, N' => ∃ (us vs : List Value) (D1 D2 : List Dyn) (I1 I2 : Its) (X1 X2 : Bxs) (N1 : List Nm), v = .func (.func f) us.toArray vs.toArray ∧ nO a us [] N D1 I1 X1 N1 ∧ nO b vs [] N1 D2 I2 X2 N' ∧ D = D1 ++ D2 ∧ I = I1 ++ I2 ∧ X = X1 ++ X2
 | .ifc t p, v, _, _, N, D, I, X, N' => ∃ u, v = .iface t u ∧ Sem p u none none N D I X N'
 | .cst c, v, _, _, N, D, I, X, N' => (v = c.val (fun _ => nm0) ∧ ∀ ρ, c.val ρ = c.val (fun _ => nm0)) ∧ D = [] ∧ I = [] ∧ X = [] ∧ N' = N
 | .dat t o, v, _, _, N, D, I, X, N' => ∃ (cs : List Value) (x : t.T) (o' : List (Option TypeId)), v = .agg cs.toArray ∧ D = [⟨t, x⟩] ∧ yt t x cs o N I N' o' ∧ X = []
 | .sfp, v, _, _, N, D, I, X, N' => ∃ (a : Nm) (f : Bool), N[N.length - 1]? = some a ∧ v = pY f a.b ∧ D = [⟨.bo, f⟩] ∧ I = [] ∧ X = [] ∧ N' = N
 | .same, v, fx, sm, N, D, I, X, N' => ((∃ p, fx = some p ∧ v = p.1) ∨ (fx = none ∧ sm = some v)) ∧ D = [] ∧ I = [] ∧ X = [] ∧ N' = N
def nO : List Pt → List Value → List Value → List Nm → List Dyn → Its → Bxs → List Nm → Prop
 | [], vs, _, N, D, I, X, N' => vs = [] ∧ D = [] ∧ I = [] ∧ X = [] ∧ N' = N
 | p :: l, vs, sms, N, D, I, X, N' => ∃ (v : Value) (vs' : List Value) (D1 D2 : List Dyn) (I1 I2 : Its) (X1 X2 : Bxs) (N1 : List Nm), vs = v :: vs' ∧ Sem p v none sms.head? N D1 I1 X1 N1 ∧ nO l vs' sms.tail N1 D2 I2 X2 N' ∧ D = D1 ++ D2 ∧ I = I1 ++ I2 ∧ X = X1 ++ X2
end
def sX (fix : Nat → Fx) (val : Nat → Option Value) : List (Bool × Nat × Pt) → List Nm → List Dyn → Its → Bxs → List Nm → Prop
 | [], N, D, I, X, N' => D = [] ∧ I = [] ∧ X = [] ∧ N' = N
 | x :: l, N, D, I, X, N' => ∃ (v : Value) (D1 D2 : List Dyn) (I1 I2 : Its) (X1 X2 : Bxs) (N1 : List Nm), (ifS x.1 ((fix x.2.1).map (·.1)) (val x.2.1)) = some v ∧ Sem x.2.2 v (ifS x.1 (fix x.2.1) none) none N D1 I1 X1 N1 ∧ sX fix val l N1 D2 I2 X2 N' ∧ D = D1 ++ D2 ∧ I = I1 ++ I2 ∧ X = X1 ++ X2
/-! matching -/
mutual
def AV.same : AV → AV → Bool
 | .fn f a b, v => (match v with
  | .fn f' a' b' => Nat.beq f f' && AV.xq a a' && AV.xq b b'
  | _ => false)
 | .tuple l, v => (match l with
  | [] => (match v with
   | .tuple l => l.isEmpty
   | _ => false)
  | _ => false)
 | .raw u, v => (match v with
  | .raw u' => (match u, u' with
   | .slice none m n, .slice none m' n' => Nat.beq m m' && Nat.beq n n'
   | .pointer none, .pointer none => true
   | .nilFunc, .nilFunc => true
   | .nilIface, .nilIface => true
   | .map none, .map none => true
   | _, _ => false)
  | _ => false)
 | _, _ => false
def AV.xq : List AV → List AV → Bool
 | [], l' => l'.isEmpty
 | v :: l, l' => (match l' with
  | v' :: l' => AV.same v v' && AV.xq l l'
  | [] => false)
end
mutual
theorem AV.vr {ρ ρ' : Nms} : (v : AV) → (v' : AV) → AV.same v v' = true → v'.val ρ' = v.val ρ
 | .fn f a b, v', h => by
  unfold AV.same at h
  split at h
  ·rename_i f' a' b'
   simp only [Bool.and_eq_true] at h
   simp only [AV.val]
   rw [Nat.eq_of_beq_eq_true h.1.1, AV.v5 a a' h.1.2, AV.v5 b b' h.2]
  ·cases h
 | .tuple l, v', h => by
  unfold AV.same at h
  split at h
  ·split at h
   ·rename_i l'
    have : l' = [] := by simpa using h
    subst this; simp only [AV.val, AV.ae]
   ·cases h
  ·cases h
 | .raw u, v', h => by
  unfold AV.same at h
  split at h
  ·rename_i u'
   split at h
   ·simp only [Bool.and_eq_true] at h
    simp only [AV.val]; rw [Nat.eq_of_beq_eq_true h.1, Nat.eq_of_beq_eq_true h.2]
   ·simp only [AV.val]
   ·simp only [AV.val]
   ·simp only [AV.val]
   ·simp only [AV.val]
   ·cases h
  ·cases h
 | .int _ _, v', h | .bool _, v', h | .str _, v', h | .agg _, v', h | .ptr _ _, v', h | .sl _, v', h | .adr _ _, v', h | .ifc _ _, v', h | .mp _, v', h | .gp _, v', h | .nv _, v', h | .sfp _ _, v', h => by unfold AV.same at h; cases h
theorem AV.v5 {ρ ρ' : Nms} : (l : List AV) → (l' : List AV) → AV.xq l l' = true → AV.ae ρ' l' = AV.ae ρ l
 | [], l', h => by
  unfold AV.xq at h
  have : l' = [] := by simpa using h
  subst this; rfl
 | v :: l, l', h => by
  unfold AV.xq at h
  split at h
  ·rename_i v' l'
   simp only [Bool.and_eq_true] at h
   simp only [AV.ae]
   rw [AV.vr v v' h.1, AV.v5 l l' h.2]
  ·cases h
end
structure MR where
 B : List (Option Nat)
 S : List (Bool × Src)
 D : List Dyn
 X : List (Nat × List AV)
def CR (G H : List Row) (t : Ty) (v : AV) : Option (Option Nat × Src × List t.T) := match v with
 | .sl j => (match cX G H (j9 j) with
  | some (s, .sli none _ t' l _) => (match ny.Dyn.asL t ⟨.l t', l⟩ with
   | some l => some (some j, s, l)
   | none => none)
  | _ => none)
 | .raw (.slice none 0 0) => some (none, .nilI t, [])
 | _ => none
def Df (G H : List Row) (t : Ty) (e : TypeId) (v : AV) : Option (Option Nat × Src × List t.T) := match v with
 | .sl j => (match cX G H (j9 j) with
  | some (s, .own _ t' e' l _) => ifS ( Nat.beq e e' ) ( match ny.Dyn.asL t ⟨.l t', l⟩ with
   | some l => some (some j, s, l)
   | none => none
   ) none
  | _ => none)
 | .raw (.slice none 0 0) => some (none, .nilO t e, [])
 | _ => none
structure DR (t : Ty) where
 x : t.T
 vs : List AV
 o : List (Option TypeId)
 B : List (Option Nat)
 S : List (Bool × Src)
def ox (G H : List Row) : (t : Ty) → List AV → List (Option TypeId) → List (Option Nat) → Option (DR t)
 | .i k, vs, o, B => (match vs with
  | .int k' x :: vs => ifS ( eZ k k' ) ( some ⟨x, vs, o, B, []⟩ ) none
  | _ => none)
 | .bo, vs, o, B => (match vs with
  | .bool x :: vs => some ⟨x, vs, o, B, []⟩
  | _ => none)
 | .s, vs, o, B => (match vs with
  | .str x :: vs => some ⟨x, vs, o, B, []⟩
  | _ => none)
 | .un, vs, o, B => some ⟨(), vs, o, B, []⟩
 | .p a b, vs, o, B => (match ox G H a vs o B with
  | some d => (match ox G H b d.vs d.o d.B with
   | some e => some ⟨(d.x, e.x), e.vs, e.o, e.B, d.S ++ e.S⟩
   | none => none)
  | none => none)
 | .l t, vs, o, B => (match vs with
  | v :: vs => (match o with
   | none :: o => (match CR G H t v with
    | some q => some ⟨q.2.2, vs, o, B ++ [q.1], [(false, q.2.1)]⟩
    | none => none)
   | some e :: o => (match Df G H t (oe e) v with
    | some q => some ⟨q.2.2, vs, o, B ++ [q.1], [(ow e, q.2.1)]⟩
    | none => none)
   | [] => none)
  | [] => none)
 | .ex, vs, o, B => (match vs with
  | .int .i64 a :: .int .i64 b :: .int .i64 c :: v :: vs => (match o with
   | none :: o => (match CR G H .ex v with
    | some q => some ⟨Ex.mk a b c q.2.2, vs, o, B ++ [q.1], [(false, q.2.1)]⟩
    | none => none)
   | some e :: o => (match Df G H .ex (oe e) v with
    | some q => some ⟨Ex.mk a b c q.2.2, vs, o, B ++ [q.1], [(ow e, q.2.1)]⟩
    | none => none)
   | [] => none)
  | _ => none)
 | _, _, _, _ => none
def yE : Option Nat → Option Nat → Bool
 | some a, some b => Nat.beq a b
 | none, none => true
 | _, _ => false
theorem M7 {a b : Option Nat} (h : yE a b = true) : a = b := by
 unfold yE at h
 split at h
 ·rw [Nat.eq_of_beq_eq_true h]
 ·rfl
 ·cases h
abbrev FxA := Option (AV × List AV)
def vh (fx : FxA) : List AV := match fx with
 | some p => p.2
 | none => []
def nvs (v : AV) (fx : FxA) (sm : Option AV) : Bool := match fx with
 | some _ => true
 | none => (match sm with
  | some (.nv u) => (match v with
   | .nv w => Nat.beq u w
   | _ => false)
  | _ => false)
def CQ : Pt → Bool
 | .same => true
 | _ => false
mutual
def mt (G H : List Row) : Pt → AV → FxA → Option AV → List (Option Nat) → Option MR
 | .int k, v, _, _, B => (match v with
  | .int k' x => ifS (eZ k k') (some ⟨B, [], [⟨.i k, x⟩], []⟩) none
  | _ => none)
 | .bool, v, _, _, B => (match v with
  | .bool x => some ⟨B, [], [⟨.bo, x⟩], []⟩
  | _ => none)
 | .str, v, _, _, B => (match v with
  | .str x => some ⟨B, [], [⟨.s, x⟩], []⟩
  | _ => none)
 | .sli t, v, _, _, B => (match CR G H t v with
  | some q => some ⟨B ++ [q.1], [(false, q.2.1)], [⟨.l t, q.2.2⟩], []⟩
  | none => none)
 | .own t e m, v, _, _, B => (match Df G H t e v with
  | some q => some ⟨B ++ [q.1], [(m, q.2.1)], [⟨.l t, q.2.2⟩], []⟩
  | none => none)
 | .slr n, v, _, _, B => (match v with
  | .sl j => ifS (yE ((B[n]?).getD none) (some j)) (some ⟨B, [], [], []⟩) none
  | _ => none)
 | .bx t off m vs, v, fx, _, B => (match v with
  | .ptr j off' => ifS (Nat.beq off off') (match cX G H (sN j) with
   | some (s, .box _ t' cs) => ifS (Nat.beq t t') (match mts G H vs cs (vh fx) (B ++ [some j]) with
     | some r => some ⟨r.B, (m, s) :: r.S, r.D, (ifS m [(B.length, cs)] []) ++ r.X⟩
     | none => none) none
   | _ => none) none
  | _ => none)
 | .ptr n off, v, _, _, B => (match v with
  | .ptr j off' => ifS (Nat.beq off off' && yE ((B[n]?).getD none) (some j)) (some ⟨B, [], [], []⟩) none
  | _ => none)
 | .mp k u m, v, _, _, B => (match v with
  | .mp j => (match cX G H (H8 j) with
   | some (s, .mp _ k' u' d) => (match Dyn.as (.mp k u) ⟨.mp k' u', d⟩ with
    | some d => some ⟨B ++ [some j], [(m, s)], [⟨.mp k u, d⟩], []⟩
    | none => none)
   | _ => none)
  | .raw (.map none) => some ⟨B ++ [none], [(m, .nilM k u)], [⟨.mp k u, (none : Option (List (k.T × u.T)))⟩], []⟩
  | _ => none)
 | .it, v, _, _, B => (match v with
  | .ptr j 0 => (match cX G H (Po j) with
   | some (s, .it _ x p) => some ⟨B ++ [some j], [(true, s)], [⟨.s, x⟩, ⟨.n, p⟩], []⟩
   | _ => none)
  | _ => none)
 | .agg l, v, _, _, B => (match v with
  | .agg vs => mts G H l vs [] B
  | _ => none)
 | .tup l, v, _, _, B => (match v with
  | .tuple vs => mts G H l vs [] B
  | _ => none)
 | .fn f a b, v, _, _, B => (match v with
  | .fn f' a' b' => ifS (Nat.beq f f') (match mts G H a a' [] B with
   | some r => (match mts G H b b' [] r.B with
    | some q => some ⟨q.B, r.S ++ q.S, r.D ++ q.D, r.X ++ q.X⟩
    | none => none)
   | none => none) none
  | _ => none)
 | .ifc t p, v, _, _, B => (match v with
  | .ifc t' u => ifS (Nat.beq t t') (mt G H p u none none B) none
  | _ => none)
 | .cst c, v, _, _, B => ifS (AV.same c v) (some ⟨B, [], [], []⟩) none
 | .dat t o, v, _, _, B => (match v with
  | .agg cs => (match ox G H t cs o B with
   | some ⟨x, [], _, B', S⟩ => some ⟨B', S, [⟨t, x⟩], []⟩
   | _ => none)
  | _ => none)
 | .sfp, v, _, _, B => (match v with
  | .raw (.pointer none) => (match B[B.length - 1]? with
   | some _ => some ⟨B, [], [⟨.bo, false⟩], []⟩
   | none => none)
  | .sfp j f => ifS (yE ((B[B.length - 1]?).getD none) (some j)) (some ⟨B, [], [⟨.bo, f⟩], []⟩) none
  | .ptr j 0 => ifS (yE ((B[B.length - 1]?).getD none) (some j)) (some ⟨B, [], [⟨.bo, true⟩], []⟩) none
  | _ => none)
 | .same, v, fx, sm, B => ifS (nvs v fx sm) (some ⟨B, [], [], []⟩) none
def mts (G H : List Row) : List Pt → List AV → List AV → List (Option Nat) → Option MR
 | [], vs, _, B => (match vs with
  | [] => some ⟨B, [], [], []⟩
  | _ => none)
 | p :: l, vs, sms, B => (match vs with
  | v :: vs => (match mt G H p (ifS (CQ p) v (nw G H v)) none sms.head? B with
   | some r => (match mts G H l vs sms.tail r.B with
    | some q => some ⟨q.B, r.S ++ q.S, r.D ++ q.D, r.X ++ q.X⟩
    | none => none)
   | none => none)
  | [] => none)
end
def mtV (G H : List Row) (look : Nat → Option AV) (fix : Nat → FxA) : List (Bool × Nat × Pt) → List (Option Nat) → Option MR
 | [], B => some ⟨B, [], [], []⟩
 | x :: l, B => (match (ifS x.1 ((fix x.2.1).map (·.1)) (look x.2.1)) with
  | some v => (match mt G H x.2.2 v (ifS x.1 (fix x.2.1) none) none B with
   | some r => (match mtV G H look fix l r.B with
    | some q => some ⟨q.B, r.S ++ q.S, r.D ++ q.D, r.X ++ q.X⟩
    | none => none)
   | none => none)
  | none => none)
end Go.Proofs.YtdhgpnejphlfpaaDoor
namespace Go.Proofs.YtdhgpnejphlfpaaDoor
open Go.Lib
def aU (a b : Item) : Prop := (∀ x, x ∈ b.own → x ∈ a.own) ∧ ∀ M w, a.P M w → b.P M w
theorem aU.refl {a : Item} : aU a a := ⟨fun _ h => h, fun _ _ h => h⟩
def HO (ρ : Nms) (T : Tbl) (G H : List Row) (s : Src) (it : Item) : Prop :=
 (it.own = [] ∧ (∀ M w, it.P M w) ∧ ∀ r, ¬ s.at_ G H r) ∨ ∃ r, s.at_ G H r ∧ aU (r.item ρ T) it ∧ (r.cC = true → it.own = []) ∧ (r.cC = false → aU it (r.item ρ T))
def SI (ρ : Nms) (T : Tbl) (G H : List Row) (a : Bool × Src) (b : Bool × Item) : Prop := a.1 = b.1 ∧ HO ρ T G H a.2 b.2
inductive dy {α β : Type} (R : α → β → Prop) : List α → List β → Prop
 | nil : dy R [] []
 | cons {a b l m} : R a b → dy R l m → dy R (a :: l) (b :: m)
theorem dy.length {α β : Type} {R : α → β → Prop} {l : List α} {m : List β} (h : dy R l m) : l.length = m.length := by
 induction h with
 | nil => rfl
 | cons _ _ ih => simp [ih]
theorem dy.append {α β : Type} {R : α → β → Prop} {l l' : List α} {m m' : List β} (h : dy R l m) (k : dy R l' m') : dy R (l ++ l') (m ++ m') := by
 induction h with
 | nil => exact k
 | cons h1 _ ih => exact .cons h1 ih
theorem dy.get {α β : Type} {R : α → β → Prop} {l : List α} {m : List β} (h : dy R l m) : ∀ {i : Nat} {a : α}, l[i]? = some a → ∃ b, m[i]? = some b ∧ R a b := by
 induction h with
 | nil => intro i a h; simp at h
 | cons h1 _ ih =>
  intro i a h
  cases i with
  | zero => simp at h; subst h; exact ⟨_, rfl, h1⟩
  | succ i => exact ih (by simpa using h)
def NBr (ρ : Nms) (o : Option Nat) (a : Nm) : Prop := match o with
 | some j => a.b = (ρ j).b ∧ a.v = (ρ j).v ∧ a.m = (ρ j).m
 | none => a.v = (none, 0, 0) ∧ a.m = none
abbrev NB (ρ : Nms) (B : List (Option Nat)) (N : List Nm) : Prop := dy (NBr ρ) B N
theorem NB.at_ {ρ : Nms} {B : List (Option Nat)} {N : List Nm} (h : NB ρ B N) {n j : Nat} (hb : yE ((B[n]?).getD none) (some j) = true) : ∃ a, N[n]? = some a ∧ a.b = (ρ j).b ∧ a.v = (ρ j).v := by
 have e := M7 hb
 cases hn : B[n]? with
 | none => rw [hn] at e; cases e
 | some o =>
  rw [hn] at e
  simp only [Option.getD_some] at e
  subst e
  obtain ⟨a, h1, h2⟩ := h.get hn
  exact ⟨a, h1, h2.1, h2.2.1⟩
section
variable {ρ : Nms} {T : Tbl} {G H : List Row} {Φ : Ctx} {w : World}
theorem A7 (_hs : Sat (items ρ T G ++ (items ρ T H ++ Φ)) w) {t : Ty} {v : AV} {q : Option Nat × Src × List t.T} (h : CR G H t v = some q) : ∃ a : Nm, NBr ρ q.1 a ∧ v.val ρ = sl a.v ∧ HO ρ T G H q.2.1 (vQ true t.rep a.v q.2.2 false) := by
 unfold CR at h
 split at h
 ·rename_i j
  split at h
  ·rename_i s j' t' l b hf
   split at h
   ·rename_i l' hl
    cases h
    obtain ⟨rfl, rfl⟩ := mu hl
    obtain ⟨f1, f2⟩ := bk hf
    have : j' = j := Nat.eq_of_beq_eq_true f2
    subst this
    refine ⟨ρ j', ⟨rfl, rfl, rfl⟩, by simp only [AV.val], .inr ⟨_, f1, ⟨fun _ h => h, fun M w h _ => ⟨(h Tbl.get_none).1, fun hb => by cases hb⟩⟩, fun _ => rfl, fun h => by cases h⟩⟩
   ·cases h
  ·cases h
 ·cases h
  exact ⟨nm0, ⟨rfl, rfl⟩, by simp only [AV.val]; rfl, .inl ⟨rfl, fun M w _ => ⟨SRd.nil, fun hb => by cases hb⟩, fun r h => h⟩⟩
 ·cases h
theorem A8 (hs : Sat (items ρ T G ++ (items ρ T H ++ Φ)) w) {t : Ty} {e : TypeId} {v : AV} {q : Option Nat × Src × List t.T} (h : Df G H t e v = some q) : ∃ a : Nm, NBr ρ q.1 a ∧ v.val ρ = sl a.v ∧ a.y = ⟨.l t, q.2.2⟩ ∧ HO ρ T G H q.2.1 (qI t.rep e a.v q.2.2 True) := by
 unfold Df at h
 split at h
 ·rename_i j
  split at h
  ·rename_i s j' t' e' l ver hf
   obtain ⟨h1, h2⟩ := al h
   have e1 := Nat.eq_of_beq_eq_true h1
   subst e1
   split at h2
   ·rename_i l' hl
    cases h2
    obtain ⟨rfl, rfl⟩ := mu hl
    obtain ⟨f1, f2⟩ := bk hf
    have : j' = j := Nat.eq_of_beq_eq_true f2
    subst this
    have hfact := (Src.holds hs f1).2
    refine ⟨{ ρ j' with y := ⟨.l t', l⟩ }, ⟨rfl, rfl, rfl⟩, by simp only [AV.val], rfl, .inr ⟨_, f1, ⟨fun _ h => h, fun M w h => ⟨h.1, trivial⟩⟩, fun h => (by cases h), fun _ => ⟨fun _ h => h, fun M w h => ⟨h.1, hfact⟩⟩⟩⟩
   ·cases h2
  ·cases h
 ·cases h
  exact ⟨{ nm0 with y := ⟨.l t, ([] : List t.T)⟩ }, ⟨rfl, rfl⟩, by simp only [AV.val]; rfl, rfl, .inl ⟨rfl, fun M w => ⟨Own.nil, trivial⟩, fun r h => h⟩⟩
 ·cases h
theorem AI (hs : Sat (items ρ T G ++ (items ρ T H ++ Φ)) w) : (t : Ty) → (vs : List AV) → (o : List (Option TypeId)) → (B : List (Option Nat)) → (d : DR t) → (N : List Nm) → ox G H t vs o B = some d → NB ρ B N →
  ∃ us N' I, vs = us ++ d.vs ∧ yt t d.x (AV.ae ρ us) o N I N' d.o ∧ NB ρ d.B N' ∧ dy (SI ρ T G H) d.S I
 | .i k, vs, o, B, d, N, h, hN => by
  unfold ox at h
  split at h
  ·rename_i k' x us
   obtain ⟨h1, h2⟩ := al h
   have := ja h1; subst this
   cases h2
   exact ⟨[.int k x], N, [], rfl, ⟨by simp only [AV.ae, AV.val], rfl, rfl, rfl⟩, hN, .nil⟩
  ·cases h
 | .bo, vs, o, B, d, N, h, hN => by
  unfold ox at h
  split at h
  ·rename_i x us
   cases h
   exact ⟨[.bool x], N, [], rfl, ⟨by simp only [AV.ae, AV.val], rfl, rfl, rfl⟩, hN, .nil⟩
  ·cases h
 | .s, vs, o, B, d, N, h, hN => by
  unfold ox at h
  split at h
  ·rename_i x us
   cases h
   exact ⟨[.str x], N, [], rfl, ⟨by simp only [AV.ae, AV.val], rfl, rfl, rfl⟩, hN, .nil⟩
  ·cases h
 | .un, vs, o, B, d, N, h, hN => by
  unfold ox at h
  cases h
  exact ⟨[], N, [], rfl, ⟨by simp only [AV.ae], rfl, rfl, rfl⟩, hN, .nil⟩
 | .n, vs, o, B, d, N, h, hN => by unfold ox at h; cases h
 | .mp _ _, vs, o, B, d, N, h, hN => by unfold ox at h; cases h
 | .p a b, vs, o, B, d, N, h, hN => by
  unfold ox at h
  split at h
  ·rename_i d1 h1
   split at h
   ·rename_i d2 h2
    cases h
    obtain ⟨us1, N1, I1, e1, s1, n1, a1⟩ := AI hs a vs o B d1 N h1 hN
    obtain ⟨us2, N2, I2, e2, s2, n2, a2⟩ := AI hs b d1.vs d1.o d1.B d2 N1 h2 n1
    refine ⟨us1 ++ us2, N2, I1 ++ I2, by rw [e1, e2, List.append_assoc], ?_, n2, a1.append a2⟩
    rw [cE]
    exact ⟨_, _, N1, I1, I2, d1.o, s1, s2, rfl, rfl⟩
   ·cases h
  ·cases h
 | .l t, vs, o, B, d, N, h, hN => by
  unfold ox at h
  split at h
  ·rename_i v us
   split at h
   ·rename_i o'
    split at h
    ·rename_i q hq
     cases h
     obtain ⟨a, n1, e1, s1⟩ := A7 hs hq
     refine ⟨[v], N ++ [a], _, rfl, ⟨a, by simp only [AV.ae]; rw [e1], rfl, .inl ⟨rfl, rfl⟩⟩, hN.append (.cons n1 .nil), .cons ⟨rfl, s1⟩ .nil⟩
    ·cases h
   ·rename_i e o'
    split at h
    ·rename_i q hq
     cases h
     obtain ⟨a, n1, e1, y1, s1⟩ := A8 hs hq
     refine ⟨[v], N ++ [a], _, rfl, ⟨a, by simp only [AV.ae]; rw [e1], rfl, .inr ⟨e, rfl, rfl, y1⟩⟩, hN.append (.cons n1 .nil), .cons ⟨rfl, s1⟩ .nil⟩
    ·cases h
   ·cases h
  ·cases h
 | .ex, vs, o, B, d, N, h, hN => by
  unfold ox at h
  split at h
  ·rename_i xa xb xc v us
   split at h
   ·rename_i o'
    split at h
    ·rename_i q hq
     cases h
     obtain ⟨a, n1, e1, s1⟩ := A7 hs hq
     refine ⟨[.int .i64 xa, .int .i64 xb, .int .i64 xc, v], N ++ [a], _, rfl, ⟨a, by simp only [AV.ae, AV.val]; rw [e1]; rfl, rfl, .inl ⟨rfl, rfl⟩⟩, hN.append (.cons n1 .nil), .cons ⟨rfl, s1⟩ .nil⟩
    ·cases h
   ·rename_i e o'
    split at h
    ·rename_i q hq
     cases h
     obtain ⟨a, n1, e1, y1, s1⟩ := A8 hs hq
     refine ⟨[.int .i64 xa, .int .i64 xb, .int .i64 xc, v], N ++ [a], _, rfl, ⟨a, by simp only [AV.ae, AV.val]; rw [e1]; rfl, rfl, .inr ⟨e, rfl, rfl, y1⟩⟩, hN.append (.cons n1 .nil), .cons ⟨rfl, s1⟩ .nil⟩
    ·cases h
   ·cases h
  ·cases h
abbrev cK (ρ : Nms) (X : List (Nat × List AV)) : Bxs := X.map fun x => (x.1, AV.ae ρ x.2)
abbrev iU (ρ : Nms) (fx : FxA) : Fx := fx.map fun q => (q.1.val ρ, AV.ae ρ q.2)
theorem F9 {fx : FxA} : fxC (iU ρ fx) = AV.ae ρ (vh fx) := by
 cases fx with
 | none => simp [fxC, vh, AV.ae]
 | some q => rfl
theorem tR {fx : FxA} {v : AV} (h : ∀ q, fx = some q → q.1.val ρ = v.val ρ) : wI (iU ρ fx) (v.val ρ) := by
 intro p hp
 cases fx with
 | none => cases hp
 | some q => cases hp; exact (h q rfl).symm
theorem I5 (hs : Sat (items ρ T G ++ (items ρ T H ++ Φ)) w) {p : Pt} {v : AV} : (ifS (CQ p) v (nw G H v)).val ρ = v.val ρ := by
 cases CQ p
 ·exact Eu hs
 ·rfl
theorem BK {l : List AV} : (AV.ae ρ l).head? = l.head?.map (AV.val ρ) := by cases l <;> simp [AV.ae]
theorem BJ {l : List AV} : (AV.ae ρ l).tail = AV.ae ρ l.tail := by cases l <;> simp [AV.ae]
mutual
theorem uJ (hs : Sat (items ρ T G ++ (items ρ T H ++ Φ)) w) : (p : Pt) → (v : AV) → (fx : FxA) → (sm : Option AV) → (B : List (Option Nat)) → (r : MR) → (N : List Nm) → mt G H p v fx sm B = some r → NB ρ B N → (∀ q, fx = some q → q.1.val ρ = v.val ρ) →
  ∃ N' I, Sem p (v.val ρ) (iU ρ fx) (sm.map (AV.val ρ)) N r.D I (cK ρ r.X) N' ∧ NB ρ r.B N' ∧ dy (SI ρ T G H) r.S I
 | .int k, v, fx, sm, B, r, N, h, hN, hf => by
  unfold mt at h
  split at h
  ·rename_i k' x
   obtain ⟨h1, h2⟩ := al h
   have := ja h1; subst this
   cases h2
   exact ⟨N, [], ⟨x, by simp only [AV.val], rfl, rfl, rfl, rfl⟩, hN, .nil⟩
  ·cases h
 | .bool, v, fx, sm, B, r, N, h, hN, hf => by
  unfold mt at h
  split at h
  ·rename_i x
   cases h
   exact ⟨N, [], ⟨x, by simp only [AV.val], rfl, rfl, rfl, rfl⟩, hN, .nil⟩
  ·cases h
 | .str, v, fx, sm, B, r, N, h, hN, hf => by
  unfold mt at h
  split at h
  ·rename_i x
   cases h
   exact ⟨N, [], ⟨x, by simp only [AV.val], rfl, rfl, rfl, rfl⟩, hN, .nil⟩
  ·cases h
 | .sli t, v, fx, sm, B, r, N, h, hN, hf => by
  unfold mt at h
  split at h
  ·rename_i q hq
   cases h
   obtain ⟨a, n1, e1, s1⟩ := A7 hs hq
   exact ⟨N ++ [a], _, ⟨a, q.2.2, e1, rfl, rfl, rfl, rfl⟩, hN.append (.cons n1 .nil), .cons ⟨rfl, s1⟩ .nil⟩
  ·cases h
 | .own t e m, v, fx, sm, B, r, N, h, hN, hf => by
  unfold mt at h
  split at h
  ·rename_i q hq
   cases h
   obtain ⟨a, n1, e1, y1, s1⟩ := A8 hs hq
   exact ⟨N ++ [a], _, ⟨a, q.2.2, e1, tR hf, rfl, rfl, rfl, rfl, y1⟩, hN.append (.cons n1 .nil), .cons ⟨rfl, s1⟩ .nil⟩
  ·cases h
 | .slr n, v, fx, sm, B, r, N, h, hN, hf => by
  unfold mt at h
  split at h
  ·rename_i j
   obtain ⟨h1, h2⟩ := al h
   cases h2
   obtain ⟨a, a1, a2, a3⟩ := hN.at_ h1
   exact ⟨N, [], ⟨a, a1, by simp only [AV.val]; rw [a3], rfl, rfl, rfl, rfl⟩, hN, .nil⟩
  ·cases h
 | .bx t off m vs, v, fx, sm, B, r, N, h, hN, hf => by
  unfold mt at h
  split at h
  ·rename_i j off'
   obtain ⟨h1, h2⟩ := al h
   have e1 := Nat.eq_of_beq_eq_true h1
   subst e1
   split at h2
   ·rename_i s j' t' cs hfi
    obtain ⟨h3, h4⟩ := al h2
    have e2 := Nat.eq_of_beq_eq_true h3
    subst e2
    split at h4
    ·rename_i q hq
     cases h4
     obtain ⟨f1, f2⟩ := bk hfi
     have : j' = j := Nat.eq_of_beq_eq_true f2
     subst this
     obtain ⟨N', I, s1, n1, a1⟩ := pd hs vs cs (vh fx) (B ++ [some j']) q (N ++ [ρ j']) hq (hN.append (.cons ⟨rfl, rfl, rfl⟩ .nil))
     refine ⟨N', _, ⟨ρ j', AV.ae ρ cs, I, cK ρ q.X, by simp only [AV.val], tR hf, by rw [F9]; exact s1, rfl, ?_⟩, n1, .cons ⟨rfl, .inr ⟨_, f1, aU.refl, (fun h => by cases h), fun _ => aU.refl⟩⟩ a1⟩
     rw [← hN.length]
     cases m <;> simp [cK]
    ·cases h4
   ·cases h2
  ·cases h
 | .ptr n off, v, fx, sm, B, r, N, h, hN, hf => by
  unfold mt at h
  split at h
  ·rename_i j off'
   obtain ⟨h1, h2⟩ := al h
   simp only [Bool.and_eq_true] at h1
   cases h2
   have e1 := Nat.eq_of_beq_eq_true h1.1
   subst e1
   obtain ⟨a, a1, a2, a3⟩ := hN.at_ h1.2
   exact ⟨N, [], ⟨a, a1, by simp only [AV.val]; rw [a2], rfl, rfl, rfl, rfl⟩, hN, .nil⟩
  ·cases h
 | .mp k u m, v, fx, sm, B, r, N, h, hN, hf => by
  unfold mt at h
  split at h
  ·rename_i j
   split at h
   ·rename_i s j' k' u' d hfi
    split at h
    ·rename_i d' hd
     cases h
     have := Dyn.xw hd
     cases this
     obtain ⟨f1, f2⟩ := bk hfi
     have : j' = j := Nat.eq_of_beq_eq_true f2
     subst this
     exact ⟨N ++ [ρ j'], _, ⟨ρ j', d', by simp only [AV.val], tR hf, rfl, rfl, rfl, rfl⟩, hN.append (.cons ⟨rfl, rfl, rfl⟩ .nil), .cons ⟨rfl, .inr ⟨_, f1, aU.refl, (fun h => by cases h), fun _ => aU.refl⟩⟩ .nil⟩
    ·cases h
   ·cases h
  ·cases h
   exact ⟨N ++ [nm0], _, ⟨nm0, none, by simp only [AV.val]; rfl, tR hf, rfl, rfl, rfl, rfl⟩, hN.append (.cons ⟨rfl, rfl⟩ .nil), .cons ⟨rfl, .inl ⟨rfl, fun M w => gM.nil, fun r h => h⟩⟩ .nil⟩
  ·cases h
 | .it, v, fx, sm, B, r, N, h, hN, hf => by
  unfold mt at h
  split at h
  ·rename_i j
   split at h
   ·rename_i s j' x p hfi
    cases h
    obtain ⟨f1, f2⟩ := bk hfi
    have : j' = j := Nat.eq_of_beq_eq_true f2
    subst this
    exact ⟨N ++ [ρ j'], _, ⟨ρ j', x, p, by simp only [AV.val], tR hf, rfl, rfl, rfl, rfl⟩, hN.append (.cons ⟨rfl, rfl, rfl⟩ .nil), .cons ⟨rfl, .inr ⟨_, f1, aU.refl, (fun h => by cases h), fun _ => aU.refl⟩⟩ .nil⟩
   ·cases h
  ·cases h
 | .agg l, v, fx, sm, B, r, N, h, hN, hf => by
  unfold mt at h
  split at h
  ·rename_i vs
   obtain ⟨N', I, s1, n1, a1⟩ := pd hs l vs [] B r N h hN
   exact ⟨N', I, ⟨AV.ae ρ vs, by simp only [AV.val], by simpa only [AV.ae] using s1⟩, n1, a1⟩
  ·cases h
 | .tup l, v, fx, sm, B, r, N, h, hN, hf => by
  unfold mt at h
  split at h
  ·rename_i vs
   obtain ⟨N', I, s1, n1, a1⟩ := pd hs l vs [] B r N h hN
   exact ⟨N', I, ⟨AV.ae ρ vs, by simp only [AV.val], by simpa only [AV.ae] using s1⟩, n1, a1⟩
  ·cases h
 | .fn f a b, v, fx, sm, B, r, N, h, hN, hf => by
  unfold mt at h
  split at h
  ·rename_i f' a' b'
   obtain ⟨h1, h2⟩ := al h
   have e1 := Nat.eq_of_beq_eq_true h1
   subst e1
   split at h2
   ·rename_i q1 hq1
    split at h2
    ·rename_i q2 hq2
     cases h2
     obtain ⟨N1, I1, s1, n1, a1⟩ := pd hs a a' [] B q1 N hq1 hN
     obtain ⟨N2, I2, s2, n2, a2⟩ := pd hs b b' [] q1.B q2 N1 hq2 n1
     exact ⟨N2, I1 ++ I2, ⟨AV.ae ρ a', AV.ae ρ b', q1.D, q2.D, I1, I2, cK ρ q1.X, cK ρ q2.X, N1, by simp only [AV.val], by simpa only [AV.ae] using s1, by simpa only [AV.ae] using s2, rfl, rfl, by simp [cK]⟩, n2, a1.append a2⟩
    ·cases h2
   ·cases h2
  ·cases h
 | .ifc t p, v, fx, sm, B, r, N, h, hN, hf => by
  unfold mt at h
  split at h
  ·rename_i t' u
   obtain ⟨h1, h2⟩ := al h
   have e1 := Nat.eq_of_beq_eq_true h1
   subst e1
   obtain ⟨N', I, s1, n1, a1⟩ := uJ hs p u none none B r N h2 hN (fun q hq => by cases hq)
   exact ⟨N', I, ⟨_, by simp only [AV.val], s1⟩, n1, a1⟩
  ·cases h
 | .cst c, v, fx, sm, B, r, N, h, hN, hf => by
  unfold mt at h
  obtain ⟨h1, h2⟩ := al h
  cases h2
  exact ⟨N, [], ⟨⟨AV.vr c v h1, fun ρ' => (AV.vr (ρ' := ρ) (ρ := ρ') c v h1).symm.trans (AV.vr c v h1)⟩, rfl, rfl, rfl, rfl⟩, hN, .nil⟩
 | .dat t o, v, fx, sm, B, r, N, h, hN, hf => by
  unfold mt at h
  split at h
  ·rename_i cs
   split at h
   ·rename_i x o' B' S hd
    cases h
    obtain ⟨us, N', I, e1, s1, n1, a1⟩ := AI hs t cs o B _ N hd hN
    simp only [List.append_nil] at e1
    subst e1
    exact ⟨N', I, ⟨_, x, o', by simp only [AV.val], rfl, s1, rfl⟩, n1, a1⟩
   ·cases h
  ·cases h
 | .sfp, v, fx, sm, B, r, N, h, hN, hf => by
  have hl := hN.length
  unfold mt at h
  split at h
  ·split at h
   ·rename_i o ho
    cases h
    obtain ⟨a, h1, _⟩ := hN.get ho
    exact ⟨N, [], ⟨a, false, by rw [← hl]; exact h1, by simp only [AV.val, pY, cond_false], rfl, rfl, rfl, rfl⟩, hN, .nil⟩
   ·cases h
  ·rename_i j f
   obtain ⟨h1, h2⟩ := al h
   cases h2
   obtain ⟨a, a1, a2, _⟩ := hN.at_ h1
   exact ⟨N, [], ⟨a, f, by rw [← hl]; exact a1, by simp only [AV.val]; rw [a2], rfl, rfl, rfl, rfl⟩, hN, .nil⟩
  ·rename_i j
   obtain ⟨h1, h2⟩ := al h
   cases h2
   obtain ⟨a, a1, a2, _⟩ := hN.at_ h1
   exact ⟨N, [], ⟨a, true, by rw [← hl]; exact a1, by simp only [AV.val, pY, cond_true]; rw [a2], rfl, rfl, rfl, rfl⟩, hN, .nil⟩
  ·cases h
 | .same, v, fx, sm, B, r, N, h, hN, hf => by
  unfold mt at h
  obtain ⟨h1, h2⟩ := al h
  cases h2
  refine ⟨N, [], ⟨?_, rfl, rfl, rfl, rfl⟩, hN, .nil⟩
  unfold nvs at h1
  split at h1
  ·rename_i q
   exact .inl ⟨_, rfl, (hf q rfl).symm⟩
  ·split at h1
   ·split at h1
    ·rename_i u u'
     rw [Nat.eq_of_beq_eq_true h1]
     exact .inr ⟨rfl, rfl⟩
    ·cases h1
   ·cases h1
theorem pd (hs : Sat (items ρ T G ++ (items ρ T H ++ Φ)) w) : (l : List Pt) → (vs : List AV) → (sms : List AV) → (B : List (Option Nat)) → (r : MR) → (N : List Nm) → mts G H l vs sms B = some r → NB ρ B N →
  ∃ N' I, nO l (AV.ae ρ vs) (AV.ae ρ sms) N r.D I (cK ρ r.X) N' ∧ NB ρ r.B N' ∧ dy (SI ρ T G H) r.S I
 | [], vs, sms, B, r, N, h, hN => by
  unfold mts at h
  split at h
  ·cases h
   exact ⟨N, [], ⟨by simp only [AV.ae], rfl, rfl, rfl, rfl⟩, hN, .nil⟩
  ·cases h
 | p :: l, vs, sms, B, r, N, h, hN => by
  unfold mts at h
  split at h
  ·rename_i v us
   split at h
   ·rename_i q1 hq1
    split at h
    ·rename_i q2 hq2
     cases h
     obtain ⟨N1, I1, s1, n1, a1⟩ := uJ hs p _ none sms.head? B q1 N hq1 hN (fun q hq => by cases hq)
     obtain ⟨N2, I2, s2, n2, a2⟩ := pd hs l us sms.tail q1.B q2 N1 hq2 n1
     rw [I5 hs] at s1
     refine ⟨N2, I1 ++ I2, ⟨v.val ρ, AV.ae ρ us, q1.D, q2.D, I1, I2, cK ρ q1.X, cK ρ q2.X, N1, by simp only [AV.ae], by rw [BK]; exact s1, by rw [BJ]; exact s2, rfl, rfl, by simp [cK]⟩, n2, a1.append a2⟩
    ·cases h
   ·cases h
  ·cases h
end
theorem An (hs : Sat (items ρ T G ++ (items ρ T H ++ Φ)) w) {lk : Nat → Option AV} {fix : Nat → FxA} : (l : List (Bool × Nat × Pt)) → (B : List (Option Nat)) → (r : MR) → (N : List Nm) → mtV G H lk fix l B = some r → NB ρ B N →
  ∃ N' I, sX (fun i => iU ρ (fix i)) (fun i => (lk i).map (AV.val ρ)) l N r.D I (cK ρ r.X) N' ∧ NB ρ r.B N' ∧ dy (SI ρ T G H) r.S I
 | [], B, r, N, h, hN => by
  unfold mtV at h
  cases h
  exact ⟨N, [], ⟨rfl, rfl, rfl, rfl⟩, hN, .nil⟩
 | (b, t, p) :: l, B, r, N, h, hN => by
  unfold mtV at h
  split at h
  ·rename_i v hv
   split at h
   ·rename_i q1 hq1
    split at h
    ·rename_i q2 hq2
     cases h
     cases b
     ·simp only at hv hq1
      obtain ⟨N1, I1, s1, n1, a1⟩ := uJ hs p v none none B q1 N hq1 hN (fun q hq => by cases hq)
      obtain ⟨N2, I2, s2, n2, a2⟩ := An hs l q1.B q2 N1 hq2 n1
      exact ⟨N2, I1 ++ I2, ⟨v.val ρ, q1.D, q2.D, I1, I2, cK ρ q1.X, cK ρ q2.X, N1, by simp only [hv, Option.map_some], s1, s2, rfl, rfl, by simp [cK]⟩, n2, a1.append a2⟩
     ·simp only at hv hq1
      cases hfx : fix t with
      | none => rw [hfx] at hv; cases hv
      | some q =>
       rw [hfx] at hv hq1
       cases hv
       obtain ⟨N1, I1, s1, n1, a1⟩ := uJ hs p q.1 (some q) none B q1 N hq1 hN (fun q' hq => by cases hq; rfl)
       obtain ⟨N2, I2, s2, n2, a2⟩ := An hs l q1.B q2 N1 hq2 n1
       exact ⟨N2, I1 ++ I2, ⟨q.1.val ρ, q1.D, q2.D, I1, I2, cK ρ q1.X, cK ρ q2.X, N1, by simp only [hfx]; rfl, by simp only [hfx]; exact s1, s2, rfl, rfl, by simp [cK]⟩, n2, a1.append a2⟩
    ·cases h
   ·cases h
  ·cases h
end
end Go.Proofs.YtdhgpnejphlfpaaDoor
namespace Go.Proofs.YtdhgpnejphlfpaaDoor
open Go.Lib
structure FR where
 v : AV
 R : List (Bool × Row)
 k : Nat
 D : List Dyn
 X : List (Nat × List AV)
structure FRs where
 vs : List AV
 R : List (Bool × Row)
 k : Nat
 D : List Dyn
 X : List (Nat × List AV)
def ec (t : Ty) (D : List Dyn) : t.T := match D with
 | d :: _ => (d.as t).getD t.lh
 | [] => t.lh
theorem lf {t : Ty} {x : t.T} {D : List Dyn} : ec t (⟨t, x⟩ :: D) = x := by
 simp [ec, Dyn.NP]
theorem O0 {k : IntKind} {x : Int} {D : List Dyn} : ec (.i k) (⟨.i k, x⟩ :: D) = x := lf (t := .i k)
theorem PR {x : Bool} {D : List Dyn} : ec .bo (⟨.bo, x⟩ :: D) = x := lf (t := .bo)
theorem Iy {x : Str} {D : List Dyn} : ec .s (⟨.s, x⟩ :: D) = x := lf (t := .s)
theorem Pl {x : Nat} {D : List Dyn} : ec .n (⟨.n, x⟩ :: D) = x := lf (t := .n)
theorem Io {t : Ty} {x : List t.T} {D : List Dyn} : ec (.l t) (⟨.l t, x⟩ :: D) = x := lf (t := .l t)
theorem M8 {k v : Ty} {x : Option (List (k.T × v.T))} {D : List Dyn} : ec (.mp k v) (⟨.mp k v, x⟩ :: D) = x := lf (t := .mp k v)
structure LR where
 vs : List AV
 R : List (Bool × Row)
 k : Nat
 o : List (Option TypeId)
def ed (nm : Nat → Nat) : (t : Ty) → t.T → Nat → List (Option TypeId) → LR
 | .i k, x, n, o => ⟨[.int k x], [], n, o⟩
 | .bo, x, n, o => ⟨[.bool x], [], n, o⟩
 | .s, x, n, o => ⟨[.str x], [], n, o⟩
 | .un, _, n, o => ⟨[], [], n, o⟩
 | .p a b, x, n, o => match ed nm a x.1 n o with
  | ⟨u, p, n, o⟩ => match ed nm b x.2 n o with
   | ⟨v, q, n, o⟩ => ⟨u ++ v, p ++ q, n, o⟩
 | .l t, x, n, o => match o with
  | none :: o => ⟨[.sl (nm n)], [(false, .sli none (nm n) t x false)], n + 1, o⟩
  | some e :: o => ⟨[.sl (nm n)], [(ow e, .own (nm n) t (oe e) x (nm n))], n + 1, o⟩
  | [] => ⟨[], [], n, []⟩
 | .ex, x, n, o => match o with
  | none :: o => ⟨[.int .i64 x.op, .int .i64 x.n, .int .i64 x.at_, .sl (nm n)], [(false, .sli none (nm n) .ex x.l false)], n + 1, o⟩
  | some e :: o => ⟨[.int .i64 x.op, .int .i64 x.n, .int .i64 x.at_, .sl (nm n)], [(ow e, .own (nm n) .ex (oe e) x.l (nm n))], n + 1, o⟩
  | [] => ⟨[], [], n, []⟩
 | _, _, n, o => ⟨[], [], n, o⟩
def nmS (nm : Nat → Nat) (fx : FxA) (n : Nat) : Nat := match fx with
 | some (.sl j, _) => j
 | _ => nm n
def nmP (nm : Nat → Nat) (fx : FxA) (n : Nat) : Nat := match fx with
 | some (.ptr j _, _) => j
 | _ => nm n
def nmM (nm : Nat → Nat) (fx : FxA) (n : Nat) : Nat := match fx with
 | some (.mp j, _) => j
 | _ => nm n
def MY (fx : FxA) (sm : Option AV) : AV := match fx with
 | some p => p.1
 | none => match sm with
  | some x => x
  | none => .bool false
def reS (id : Nat) : List Pt → List AV → List AV
 | .sfp :: _, .sfp _ f :: us => .sfp id f :: us
 | _, us => us
mutual
def fill (nm : Nat → Nat) : Pt → FxA → Option AV → Nat → List Dyn → FR
 | .int k, _, _, n, D => ⟨.int k (ec (.i k) D), [], n, D.tail, []⟩
 | .bool, _, _, n, D => ⟨.bool (ec .bo D), [], n, D.tail, []⟩
 | .str, _, _, n, D => ⟨.str (ec .s D), [], n, D.tail, []⟩
 | .sli t, _, _, n, D => ⟨.sl (nm n), [(false, .sli none (nm n) t (ec (.l t) D) false)], n + 1, D.tail, []⟩
 | .own t e m, fx, _, n, D => ⟨.sl (nmS nm fx n), [(m, .own (nmS nm fx n) t e (ec (.l t) D) (nm n))], n + 1, D.tail, []⟩
 | .slr k, _, _, n, D => ⟨.sl (nm k), [], n, D, []⟩
 | .bx t off m vs, fx, _, n, D => match cZ nm vs (vh fx) (n + 1) D with
  | ⟨cs, R, k, D, X⟩ => ⟨.ptr (nmP nm fx n) off, (m, .box (nmP nm fx n) t (reS (nmP nm fx n) vs cs)) :: R, k, D, (ifS m [(n, reS (nmP nm fx n) vs cs)] []) ++ X⟩
 | .ptr k off, _, _, n, D => ⟨.ptr (nm k) off, [], n, D, []⟩
 | .mp k v m, fx, _, n, D => ⟨.mp (nmM nm fx n), [(m, .mp (nmM nm fx n) k v (ec (.mp k v) D))], n + 1, D.tail, []⟩
 | .it, fx, _, n, D => ⟨.ptr (nmP nm fx n) 0, [(true, .it (nmP nm fx n) (ec .s D) (ec .n D.tail))], n + 1, D.tail.tail, []⟩
 | .agg l, _, _, n, D => match cZ nm l [] n D with
  | ⟨cs, R, k, D, X⟩ => ⟨.agg cs, R, k, D, X⟩
 | .tup l, _, _, n, D => match cZ nm l [] n D with
  | ⟨cs, R, k, D, X⟩ => ⟨.tuple cs, R, k, D, X⟩
 | .fn f a b, _, _, n, D => match cZ nm a [] n D with
  | ⟨cs, R, k, D, X⟩ => match cZ nm b [] k D with
   | ⟨cs', R', k, D, X'⟩ => ⟨.fn f cs cs', R ++ R', k, D, X ++ X'⟩
 | .ifc t p, _, _, n, D => match fill nm p none none n D with
  | ⟨v, R, k, D, X⟩ => ⟨.ifc t v, R, k, D, X⟩
 | .cst v, _, _, n, D => ⟨v, [], n, D, []⟩
 | .dat t o, _, _, n, D => match ed nm t (ec t D) n o with
  | ⟨cs, R, k, _⟩ => ⟨.agg cs, R, k, D.tail, []⟩
 | .sfp, _, _, n, D => ⟨.sfp (nm (n - 1)) (ec .bo D), [], n, D.tail, []⟩
 | .same, fx, sm, n, D => ⟨MY fx sm, [], n, D, []⟩
def cZ (nm : Nat → Nat) : List Pt → List AV → Nat → List Dyn → FRs
 | [], _, n, D => ⟨[], [], n, D, []⟩
 | p :: l, sms, n, D => match fill nm p none sms.head? n D with
  | ⟨v, R, k, D, X⟩ => match cZ nm l sms.tail k D with
   | ⟨vs, R', k, D, X'⟩ => ⟨v :: vs, R ++ R', k, D, X ++ X'⟩
end
structure FV where
 E : aj
 R : List (Bool × Row)
 k : Nat
 D : List Dyn
def dE (nm : Nat → Nat) (fix : Nat → FxA) : List (Bool × Nat × Pt) → Nat → List Dyn → FV
 | [], n, D => ⟨[], [], n, D⟩
 | x :: l, n, D => match fill nm x.2.2 (ifS x.1 (fix x.2.1) none) none n D with
  | ⟨v, R, k, D, _⟩ => match dE nm fix l k D with
   | ⟨E, R', k, D⟩ => ⟨ifS x.1 E ((x.2.1, none, v) :: E), R ++ R', k, D⟩
/-! names come one behind the other -/
def Pre (N N' : List Nm) : Prop := ∃ E, N' = N ++ E
theorem Pre.refl {N : List Nm} : Pre N N := ⟨[], by simp⟩
theorem Pre.trans {A B C : List Nm} (h : Pre A B) (k : Pre B C) : Pre A C := by
 obtain ⟨E, rfl⟩ := h
 obtain ⟨F, rfl⟩ := k
 exact ⟨E ++ F, by simp⟩
theorem Pre.one {N : List Nm} {a : Nm} : Pre N (N ++ [a]) := ⟨[a], rfl⟩
theorem Pre.len {A B : List Nm} (h : Pre A B) : A.length ≤ B.length := by
 obtain ⟨E, rfl⟩ := h
 simp
theorem Pre.at_ {A B : List Nm} (h : Pre A B) {i : Nat} {a : Nm} (ha : A[i]? = some a) : B[i]? = some a := by
 obtain ⟨E, rfl⟩ := h
 rw [List.getElem?_append_left (List.getElem?_eq_some_iff.1 ha).1]; exact ha
theorem rv : (t : Ty) → (x : t.T) → (cs : List Value) → (o : List (Option TypeId)) → (N : List Nm) → (I : Its) → (N' : List Nm) → (o' : List (Option TypeId)) → yt t x cs o N I N' o' → Pre N N'
 | .i _, _, _, _, _, _, _, _, h | .bo, _, _, _, _, _, _, _, h | .s, _, _, _, _, _, _, _, h | .un, _, _, _, _, _, _, _, h => by obtain ⟨_, _, rfl, _⟩ := h; exact .refl
 | .n, _, _, _, _, _, _, _, h | .mp _ _, _, _, _, _, _, _, _, h => h.elim
 | .p a b, x, cs, o, N, I, N', o', h => by
  obtain ⟨c1, c2, N1, I1, I2, o1, h1, h2, _⟩ := h
  exact (rv a _ _ _ _ _ _ _ h1).trans (rv b _ _ _ _ _ _ _ h2)
 | .l t, x, cs, o, N, I, N', o', h => by obtain ⟨a, _, rfl, _⟩ := h; exact .one
 | .ex, x, cs, o, N, I, N', o', h => by obtain ⟨a, _, rfl, _⟩ := h; exact .one
mutual
theorem oG : (p : Pt) → (v : Value) → (fx : Fx) → (sm : Option Value) → (N : List Nm) → (D : List Dyn) → (I : Its) → (X : Bxs) → (N' : List Nm) → Sem p v fx sm N D I X N' → Pre N N'
 | .int _, v, fx, sm, N, D, I, X, N', h | .bool, v, fx, sm, N, D, I, X, N', h | .str, v, fx, sm, N, D, I, X, N', h => by obtain ⟨_, _, _, _, _, rfl⟩ := h; exact .refl
 | .sli t, v, fx, sm, N, D, I, X, N', h => by obtain ⟨a, l, _, _, _, _, rfl⟩ := h; exact .one
 | .own t e m, v, fx, sm, N, D, I, X, N', h => by obtain ⟨a, l, _, _, _, _, _, rfl, _⟩ := h; exact .one
 | .slr n, v, fx, sm, N, D, I, X, N', h | .ptr n _, v, fx, sm, N, D, I, X, N', h => by obtain ⟨a, _, _, _, _, _, rfl⟩ := h; exact .refl
 | .bx t off m vs, v, fx, sm, N, D, I, X, N', h => by
  obtain ⟨a, cs, I', X', _, _, h1, _⟩ := h
  exact Pre.one.trans (iM vs _ _ _ _ _ _ _ h1)
 | .mp k u m, v, fx, sm, N, D, I, X, N', h => by obtain ⟨a, d, _, _, _, _, _, rfl⟩ := h; exact .one
 | .it, v, fx, sm, N, D, I, X, N', h => by obtain ⟨a, s, p, _, _, _, _, _, rfl⟩ := h; exact .one
 | .agg l, v, fx, sm, N, D, I, X, N', h => by obtain ⟨cs, _, h1⟩ := h; exact iM l _ _ _ _ _ _ _ h1
 | .tup l, v, fx, sm, N, D, I, X, N', h => by obtain ⟨cs, _, h1⟩ := h; exact iM l _ _ _ _ _ _ _ h1
 | .fn f a b, v, fx, sm, N, D, I, X, N', h => by
  obtain ⟨us, vs, D1, D2, I1, I2, X1, X2, N1, _, h1, h2, _⟩ := h
  exact (iM a _ _ _ _ _ _ _ h1).trans (iM b _ _ _ _ _ _ _ h2)
 | .ifc t p, v, fx, sm, N, D, I, X, N', h => by obtain ⟨u, _, h1⟩ := h; exact oG p _ _ _ _ _ _ _ _ h1
 | .cst c, v, fx, sm, N, D, I, X, N', h => by obtain ⟨_, _, _, _, rfl⟩ := h; exact .refl
 | .dat t o, v, fx, sm, N, D, I, X, N', h => by obtain ⟨cs, x, o', _, _, h1, _⟩ := h; exact rv t _ _ _ _ _ _ _ h1
 | .sfp, v, fx, sm, N, D, I, X, N', h => by obtain ⟨_, _, _, _, _, _, _, rfl⟩ := h; exact .refl
 | .same, v, fx, sm, N, D, I, X, N', h => by obtain ⟨_, _, _, _, rfl⟩ := h; exact .refl
theorem iM : (l : List Pt) → (vs : List Value) → (sms : List Value) → (N : List Nm) → (D : List Dyn) → (I : Its) → (X : Bxs) → (N' : List Nm) → nO l vs sms N D I X N' → Pre N N'
 | [], vs, sms, N, D, I, X, N', h => by obtain ⟨_, _, _, _, rfl⟩ := h; exact .refl
 | p :: l, vs, sms, N, D, I, X, N', h => by
  obtain ⟨v, vs', D1, D2, I1, I2, X1, X2, N1, _, h1, h2, _⟩ := h
  exact (oG p _ _ _ _ _ _ _ _ h1).trans (iM l _ _ _ _ _ _ _ h2)
end
theorem yx {fix : Nat → Fx} {val : Nat → Option Value} : (l : List (Bool × Nat × Pt)) → (N : List Nm) → (D : List Dyn) → (I : Its) → (X : Bxs) → (N' : List Nm) → sX fix val l N D I X N' → Pre N N'
 | [], N, D, I, X, N', h => by obtain ⟨_, _, _, rfl⟩ := h; exact .refl
 | x :: l, N, D, I, X, N', h => by
  obtain ⟨v, D1, D2, I1, I2, X1, X2, N1, _, h1, h2, _⟩ := h
  exact (oG _ _ _ _ _ _ _ _ _ h1).trans (yx l _ _ _ _ _ h2)
/-! what is filled is what the form says -/
def RwI (ρ : Nms) (T : Tbl) (a : Bool × Row) (b : Bool × Item) : Prop := a.1 = b.1 ∧ aU b.2 (a.2.item ρ T) ∧ aU (a.2.item ρ T) b.2
section
variable {ρ : Nms} {T : Tbl} {nm : Nat → Nat} {n0 : Nat}
theorem NQ {id : Nat} {vs : List Pt} {us : List AV} {cs sms : List Value} {N N' : List Nm} {a : Nm} {D : List Dyn} {I : Its} {X : Bxs} (h : nO vs cs sms (N ++ [a]) D I X N') (hP : (ρ id).b = a.b) (hv : AV.ae ρ us = cs) : AV.ae ρ (reS id vs us) = cs := by
 unfold reS
 split
 ·rename_i l j f us'
  obtain ⟨v, vs', D1, D3, I1, I2, X1, X2, N1, rfl, h1, _⟩ := h
  obtain ⟨a', f', ha, rfl, _⟩ := h1
  have e : a' = a := by simpa using ha.symm
  subst e
  simp only [AV.ae, AV.val, List.cons.injEq] at hv ⊢
  refine ⟨?_, hv.2⟩
  rw [hP]
  have h2 := hv.1
  cases f <;> cases f' <;> simp [pY] at h2 ⊢
 ·exact hv
def nQ (ρ : Nms) (nm : Nat → Nat) (n0 : Nat) (N : List Nm) : Prop := ∀ i a, N[i]? = some a → (ρ (nm i)).b = a.b ∧ (ρ (nm i)).v = a.v ∧ (ρ (nm i)).m = a.m ∧ (n0 ≤ i → (ρ (nm i)).y = a.y)
theorem nQ.pre {A B : List Nm} (h : nQ ρ nm n0 B) (k : Pre A B) : nQ ρ nm n0 A := fun i a ha => h i a (k.at_ ha)
theorem nQ.last {A : List Nm} {a : Nm} (h : nQ ρ nm n0 (A ++ [a])) : (ρ (nm A.length)).b = a.b ∧ (ρ (nm A.length)).v = a.v ∧ (ρ (nm A.length)).m = a.m ∧ (n0 ≤ A.length → (ρ (nm A.length)).y = a.y) := h _ _ (by simp)
theorem Eg {t : Ty} {a : Nm} {l : List t.T} {j : Nat} (h : (ρ j).v = a.v) : aU (vQ true t.rep a.v l false) ((Row.sli none j t l false).item ρ T) ∧ aU ((Row.sli none j t l false).item ρ T) (vQ true t.rep a.v l false) := by
 simp only [Row.item, h]
 exact ⟨⟨fun _ h => h, fun M w h _ => h rfl⟩, ⟨fun _ h => h, fun M w h _ => h Tbl.get_none⟩⟩
theorem EH {t : Ty} {e : TypeId} {a : Nm} {l : List t.T} {j ver : Nat} (h : (ρ j).v = a.v) (hy : (ρ ver).y = ⟨.l t, l⟩) : aU (qI t.rep e a.v l True) ((Row.own j t e l ver).item ρ T) ∧ aU ((Row.own j t e l ver).item ρ T) (qI t.rep e a.v l True) := by
 simp only [Row.item, h]
 exact ⟨⟨fun _ h => h, fun M w h => ⟨h.1, hy⟩⟩, ⟨fun _ h => h, fun M w h => ⟨h.1, trivial⟩⟩⟩
theorem A4 : (t : Ty) → (x : t.T) → (cs : List Value) → (o : List (Option TypeId)) → (N : List Nm) → (I : Its) → (N' : List Nm) → (o' : List (Option TypeId)) → yt t x cs o N I N' o' → nQ ρ nm n0 N' → n0 ≤ N.length →
  AV.ae ρ (ed nm t x N.length o).vs = cs ∧ (ed nm t x N.length o).k = N'.length ∧ (ed nm t x N.length o).o = o' ∧ dy (RwI ρ T) (ed nm t x N.length o).R I
 | .i k, x, cs, o, N, I, N', o', h, hn, hle => by
  obtain ⟨rfl, rfl, rfl, rfl⟩ := h
  exact ⟨by simp only [ed, AV.ae, AV.val], rfl, rfl, .nil⟩
 | .bo, x, cs, o, N, I, N', o', h, hn, hle => by
  obtain ⟨rfl, rfl, rfl, rfl⟩ := h
  exact ⟨by simp only [ed, AV.ae, AV.val], rfl, rfl, .nil⟩
 | .s, x, cs, o, N, I, N', o', h, hn, hle => by
  obtain ⟨rfl, rfl, rfl, rfl⟩ := h
  exact ⟨by simp only [ed, AV.ae, AV.val], rfl, rfl, .nil⟩
 | .un, x, cs, o, N, I, N', o', h, hn, hle => by
  obtain ⟨rfl, rfl, rfl, rfl⟩ := h
  exact ⟨by simp only [ed, AV.ae], rfl, rfl, .nil⟩
 | .n, x, cs, o, N, I, N', o', h, hn, hle => h.elim
 | .mp _ _, x, cs, o, N, I, N', o', h, hn, hle => h.elim
 | .p a b, x, cs, o, N, I, N', o', h, hn, hle => by
  obtain ⟨c1, c2, N1, I1, I2, o1, h1, h2, rfl, rfl⟩ := h
  have p2 := rv b _ _ _ _ _ _ _ h2
  obtain ⟨a1, a2, a3, a4⟩ := A4 a x.1 c1 o N I1 N1 o1 h1 (hn.pre p2) hle
  obtain ⟨b1, b2, b3, b4⟩ := A4 b x.2 c2 o1 N1 I2 N' o' h2 hn (Nat.le_trans hle (rv a _ _ _ _ _ _ _ h1).len)
  unfold ed
  generalize ed nm a x.1 N.length o = L1 at a1 a2 a3 a4
  obtain ⟨u, p, n, oo⟩ := L1
  simp only at a1 a2 a3 a4
  subst a2; subst a3
  dsimp only
  generalize ed nm b x.2 N1.length oo = L2 at b1 b2 b3 b4
  obtain ⟨u2, p2, n2, oo2⟩ := L2
  simp only at b1 b2 b3 b4
  dsimp only
  exact ⟨by rw [cE, a1, b1], b2, b3, a4.append b4⟩
 | .l t, x, cs, o, N, I, N', o', h, hn, hle => by
  obtain ⟨a, rfl, rfl, h⟩ := h
  have hl := hn.last
  rcases h with ⟨rfl, rfl⟩ | ⟨e, rfl, rfl, hy⟩
  ·exact ⟨by simp only [ed, AV.ae, AV.val, hl.2.1], by simp [ed], rfl, .cons ⟨rfl, Eg hl.2.1⟩ .nil⟩
  ·exact ⟨by simp only [ed, AV.ae, AV.val, hl.2.1], by simp [ed], rfl, .cons ⟨rfl, EH hl.2.1 (by rw [hl.2.2.2 hle]; exact hy)⟩ .nil⟩
 | .ex, x, cs, o, N, I, N', o', h, hn, hle => by
  obtain ⟨a, rfl, rfl, h⟩ := h
  have hl := hn.last
  rcases h with ⟨rfl, rfl⟩ | ⟨e, rfl, rfl, hy⟩
  ·exact ⟨by simp only [ed, AV.ae, AV.val, hl.2.1], by simp [ed], rfl, .cons ⟨rfl, Eg (t := .ex) hl.2.1⟩ .nil⟩
  ·exact ⟨by simp only [ed, AV.ae, AV.val, hl.2.1], by simp [ed], rfl, .cons ⟨rfl, EH (t := .ex) hl.2.1 (by rw [hl.2.2.2 hle]; exact hy)⟩ .nil⟩
theorem OZ {p q : SLV} (h : sl p = sl q) : p = q := by
 obtain ⟨a, b, c⟩ := p
 obtain ⟨a', b', c'⟩ := q
 simp only [sl, Value.slice.injEq] at h
 rw [h.1, h.2.1, h.2.2]
theorem PY {fx : FxA} {N : List Nm} {a : Nm} (hn : nQ ρ nm n0 (N ++ [a])) (hf : wI (iU ρ fx) (sl a.v)) : (ρ (nmS nm fx N.length)).v = a.v := by
 unfold nmS
 split
 ·have := hf _ rfl
  simp only [AV.val] at this
  exact (OZ this).symm
 ·rw [hn.last.2.1]
theorem JK {fx : FxA} {N : List Nm} {a : Nm} {off : Nat} (hn : (ρ (nm N.length)).b = a.b) (hf : wI (iU ρ fx) (.pointer (some ⟨a.b, off, none⟩))) : (ρ (nmP nm fx N.length)).b = a.b := by
 unfold nmP
 split
 ·have := hf _ rfl
  simp only [AV.val, Value.pointer.injEq, Option.some.injEq, Addr.mk.injEq] at this
  exact this.1.symm
 ·rw [hn]
theorem PT {fx : FxA} {N : List Nm} {a : Nm} (hn : nQ ρ nm n0 (N ++ [a])) (hf : wI (iU ρ fx) (.map a.m)) : (ρ (nmM nm fx N.length)).m = a.m := by
 unfold nmM
 split
 ·have := hf _ rfl
  simp only [AV.val, Value.map.injEq] at this
  exact this.symm
 ·rw [hn.last.2.2.1]
mutual
theorem uc : (p : Pt) → (v : Value) → (fx : FxA) → (sm : Option AV) → (N : List Nm) → (D : List Dyn) → (I : Its) → (X : Bxs) → (N' : List Nm) → Sem p v (iU ρ fx) (sm.map (AV.val ρ)) N D I X N' → nQ ρ nm n0 N' → n0 ≤ N.length → (D2 : List Dyn) →
  (fill nm p fx sm N.length (D ++ D2)).v.val ρ = v ∧ (fill nm p fx sm N.length (D ++ D2)).k = N'.length ∧ (fill nm p fx sm N.length (D ++ D2)).D = D2 ∧ X = cK ρ (fill nm p fx sm N.length (D ++ D2)).X ∧ dy (RwI ρ T) (fill nm p fx sm N.length (D ++ D2)).R I
 | .int k, v, fx, sm, N, D, I, X, N', h, hn, hle, D2 => by
  obtain ⟨x, rfl, rfl, rfl, rfl, rfl⟩ := h
  exact ⟨by simp only [fill, List.singleton_append, O0, AV.val], rfl, rfl, rfl, .nil⟩
 | .bool, v, fx, sm, N, D, I, X, N', h, hn, hle, D2 => by
  obtain ⟨x, rfl, rfl, rfl, rfl, rfl⟩ := h
  exact ⟨by simp only [fill, List.singleton_append, PR, AV.val], rfl, rfl, rfl, .nil⟩
 | .str, v, fx, sm, N, D, I, X, N', h, hn, hle, D2 => by
  obtain ⟨x, rfl, rfl, rfl, rfl, rfl⟩ := h
  exact ⟨by simp only [fill, List.singleton_append, Iy, AV.val], rfl, rfl, rfl, .nil⟩
 | .sli t, v, fx, sm, N, D, I, X, N', h, hn, hle, D2 => by
  obtain ⟨a, l, rfl, rfl, rfl, rfl, rfl⟩ := h
  have hl := hn.last
  refine ⟨by simp only [fill, AV.val, hl.2.1], by simp [fill], rfl, rfl, .cons ⟨rfl, ?_⟩ .nil⟩
  show aU _ ((Row.sli none (nm N.length) t (ec (.l t) (⟨.l t, l⟩ :: D2)) false).item ρ T) ∧ aU ((Row.sli none (nm N.length) t (ec (.l t) (⟨.l t, l⟩ :: D2)) false).item ρ T) _
  rw [Io]
  exact Eg hl.2.1
 | .own t e m, v, fx, sm, N, D, I, X, N', h, hn, hle, D2 => by
  obtain ⟨a, l, rfl, hf, rfl, rfl, rfl, rfl, hy⟩ := h
  have hS := PY hn hf
  refine ⟨by simp only [fill, AV.val, hS], by simp [fill], rfl, rfl, .cons ⟨rfl, ?_⟩ .nil⟩
  show aU _ ((Row.own (nmS nm fx N.length) t e (ec (.l t) (⟨.l t, l⟩ :: D2)) (nm N.length)).item ρ T) ∧ aU ((Row.own (nmS nm fx N.length) t e (ec (.l t) (⟨.l t, l⟩ :: D2)) (nm N.length)).item ρ T) _
  rw [Io]
  exact EH hS (by rw [hn.last.2.2.2 hle]; exact hy)
 | .slr n, v, fx, sm, N, D, I, X, N', h, hn, hle, D2 => by
  obtain ⟨a, ha, rfl, rfl, rfl, rfl, rfl⟩ := h
  exact ⟨by simp only [fill, AV.val, (hn _ _ ha).2.1], rfl, rfl, rfl, .nil⟩
 | .bx t off m vs, v, fx, sm, N, D, I, X, N', h, hn, hle, D2 => by
  obtain ⟨a, cs, I', X', rfl, hf, h1, rfl, rfl⟩ := h
  rw [F9] at h1
  have p1 := iM vs _ _ _ _ _ _ _ h1
  have hl := hn.pre p1
  have hP := JK hl.last.1 hf
  have hlen : (N ++ [a]).length = N.length + 1 := by simp
  obtain ⟨b1, b2, b3, b4, b5⟩ := mm vs cs (vh fx) (N ++ [a]) D I' X' N' h1 hn (by simp; omega) D2
  rw [hlen] at b1 b2 b3 b4 b5
  unfold fill
  generalize cZ nm vs (vh fx) (N.length + 1) (D ++ D2) = L at b1 b2 b3 b4 b5
  obtain ⟨us, R, k, DD, XX⟩ := L
  simp only at b1 b2 b3 b4 b5
  dsimp only
  have b6 : AV.ae ρ (reS (nmP nm fx N.length) vs us) = cs := NQ h1 hP b1
  refine ⟨by simp only [AV.val, hP], b2, b3, ?_, .cons ⟨rfl, ?_⟩ b5⟩
  ·rw [b4]; cases m <;> simp [cK, b6]
  ·simp only [Row.item, hP, b6]; exact ⟨aU.refl, aU.refl⟩
 | .ptr n off, v, fx, sm, N, D, I, X, N', h, hn, hle, D2 => by
  obtain ⟨a, ha, rfl, rfl, rfl, rfl, rfl⟩ := h
  exact ⟨by simp only [fill, AV.val, (hn _ _ ha).1], rfl, rfl, rfl, .nil⟩
 | .mp k u m, v, fx, sm, N, D, I, X, N', h, hn, hle, D2 => by
  obtain ⟨a, d, rfl, hf, rfl, rfl, rfl, rfl⟩ := h
  have hM := PT hn hf
  refine ⟨by simp only [fill, AV.val, hM], by simp [fill], rfl, rfl, .cons ⟨rfl, ?_⟩ .nil⟩
  show aU _ ((Row.mp (nmM nm fx N.length) k u (ec (.mp k u) (⟨.mp k u, d⟩ :: D2))).item ρ T) ∧ aU ((Row.mp (nmM nm fx N.length) k u (ec (.mp k u) (⟨.mp k u, d⟩ :: D2))).item ρ T) _
  rw [M8]
  simp only [Row.item, hM]; exact ⟨aU.refl, aU.refl⟩
 | .it, v, fx, sm, N, D, I, X, N', h, hn, hle, D2 => by
  obtain ⟨a, s, p, rfl, hf, rfl, rfl, rfl, rfl⟩ := h
  have hP := JK hn.last.1 hf
  refine ⟨by simp only [fill, AV.val, hP], by simp [fill], rfl, rfl, .cons ⟨rfl, ?_⟩ .nil⟩
  show aU _ ((Row.it (nmP nm fx N.length) (ec .s (⟨.s, s⟩ :: ⟨.n, p⟩ :: D2)) (ec .n (⟨.n, p⟩ :: D2))).item ρ T) ∧ aU ((Row.it (nmP nm fx N.length) (ec .s (⟨.s, s⟩ :: ⟨.n, p⟩ :: D2)) (ec .n (⟨.n, p⟩ :: D2))).item ρ T) _
  rw [Iy, Pl]
  simp only [Row.item, hP]; exact ⟨aU.refl, aU.refl⟩
 | .agg l, v, fx, sm, N, D, I, X, N', h, hn, hle, D2 => by
  obtain ⟨cs, rfl, h1⟩ := h
  obtain ⟨b1, b2, b3, b4, b5⟩ := mm l cs [] N D I X N' (by simpa only [AV.ae] using h1) hn hle D2
  unfold fill
  generalize cZ nm l [] N.length (D ++ D2) = L at b1 b2 b3 b4 b5
  obtain ⟨us, R, k, DD, XX⟩ := L
  simp only at b1 b2 b3 b4 b5
  dsimp only
  exact ⟨by simp only [AV.val, b1], b2, b3, b4, b5⟩
 | .tup l, v, fx, sm, N, D, I, X, N', h, hn, hle, D2 => by
  obtain ⟨cs, rfl, h1⟩ := h
  obtain ⟨b1, b2, b3, b4, b5⟩ := mm l cs [] N D I X N' (by simpa only [AV.ae] using h1) hn hle D2
  unfold fill
  generalize cZ nm l [] N.length (D ++ D2) = L at b1 b2 b3 b4 b5
  obtain ⟨us, R, k, DD, XX⟩ := L
  simp only at b1 b2 b3 b4 b5
  dsimp only
  exact ⟨by simp only [AV.val, b1], b2, b3, b4, b5⟩
 | .fn f a b, v, fx, sm, N, D, I, X, N', h, hn, hle, D2 => by
  obtain ⟨us, vs, D1, D3, I1, I2, X1, X2, N1, rfl, h1, h2, rfl, rfl, rfl⟩ := h
  have p2 := iM b _ _ _ _ _ _ _ h2
  obtain ⟨b1, b2, b3, b4, b5⟩ := mm a us [] N D1 I1 X1 N1 (by simpa only [AV.ae] using h1) (hn.pre p2) hle (D3 ++ D2)
  obtain ⟨c1, c2, c3, c4, c5⟩ := mm b vs [] N1 D3 I2 X2 N' (by simpa only [AV.ae] using h2) hn (Nat.le_trans hle (iM a _ _ _ _ _ _ _ h1).len) D2
  unfold fill
  rw [List.append_assoc]
  generalize cZ nm a [] N.length (D1 ++ (D3 ++ D2)) = L at b1 b2 b3 b4 b5
  obtain ⟨us', R, k, DD, XX⟩ := L
  simp only at b1 b2 b3 b4 b5
  subst b2; subst b3
  dsimp only
  generalize cZ nm b [] N1.length (D3 ++ D2) = L at c1 c2 c3 c4 c5
  obtain ⟨us2, R2, k2, DD2, XX2⟩ := L
  simp only at c1 c2 c3 c4 c5
  dsimp only
  exact ⟨by simp only [AV.val, b1, c1], c2, c3, by rw [b4, c4]; simp [cK], b5.append c5⟩
 | .ifc t p, v, fx, sm, N, D, I, X, N', h, hn, hle, D2 => by
  obtain ⟨u, rfl, h1⟩ := h
  obtain ⟨b1, b2, b3, b4, b5⟩ := uc p u none none N D I X N' h1 hn hle D2
  unfold fill
  generalize fill nm p none none N.length (D ++ D2) = L at b1 b2 b3 b4 b5
  obtain ⟨us, R, k, DD, XX⟩ := L
  simp only at b1 b2 b3 b4 b5
  dsimp only
  exact ⟨by simp only [AV.val, b1], b2, b3, b4, b5⟩
 | .cst c, v, fx, sm, N, D, I, X, N', h, hn, hle, D2 => by
  obtain ⟨⟨h1, h0⟩, rfl, rfl, rfl, rfl⟩ := h
  exact ⟨by rw [h1]; exact h0 ρ, rfl, rfl, rfl, .nil⟩
 | .dat t o, v, fx, sm, N, D, I, X, N', h, hn, hle, D2 => by
  obtain ⟨cs, x, o', rfl, rfl, h1, rfl⟩ := h
  obtain ⟨b1, b2, b3, b5⟩ := A4 (T := T) t x cs o N I N' o' h1 hn hle
  unfold fill
  rw [List.singleton_append, lf]
  generalize ed nm t x N.length o = L at b1 b2 b3 b5
  obtain ⟨us, R, k, oo⟩ := L
  simp only at b1 b2 b3 b5
  dsimp only
  exact ⟨by simp only [AV.val, b1], b2, rfl, rfl, b5⟩
 | .sfp, v, fx, sm, N, D, I, X, N', h, hn, hle, D2 => by
  obtain ⟨a, f, ha, rfl, rfl, rfl, rfl, rfl⟩ := h
  refine ⟨?_, rfl, rfl, rfl, .nil⟩
  simp only [fill, AV.val, (hn _ _ ha).1, List.singleton_append]
  rfl
 | .same, v, fx, sm, N, D, I, X, N', h, hn, hle, D2 => by
  obtain ⟨h1, rfl, rfl, rfl, rfl⟩ := h
  refine ⟨?_, rfl, rfl, rfl, .nil⟩
  simp only [fill, MY]
  rcases h1 with ⟨p, hp, rfl⟩ | ⟨hs0, h1⟩
  ·cases fx with
   | none => cases hp
   | some q => cases hp; rfl
  ·cases fx with
   | some q => cases hs0
   | none =>
    cases sm with
    | none => cases h1
    | some y => cases h1; rfl
theorem mm : (l : List Pt) → (vs : List Value) → (sms : List AV) → (N : List Nm) → (D : List Dyn) → (I : Its) → (X : Bxs) → (N' : List Nm) → nO l vs (AV.ae ρ sms) N D I X N' → nQ ρ nm n0 N' → n0 ≤ N.length → (D2 : List Dyn) →
  AV.ae ρ (cZ nm l sms N.length (D ++ D2)).vs = vs ∧ (cZ nm l sms N.length (D ++ D2)).k = N'.length ∧ (cZ nm l sms N.length (D ++ D2)).D = D2 ∧ X = cK ρ (cZ nm l sms N.length (D ++ D2)).X ∧ dy (RwI ρ T) (cZ nm l sms N.length (D ++ D2)).R I
 | [], vs, sms, N, D, I, X, N', h, hn, hle, D2 => by
  obtain ⟨rfl, rfl, rfl, rfl, rfl⟩ := h
  exact ⟨by simp only [cZ, AV.ae], rfl, rfl, rfl, .nil⟩
 | p :: l, vs, sms, N, D, I, X, N', h, hn, hle, D2 => by
  obtain ⟨v, vs', D1, D3, I1, I2, X1, X2, N1, rfl, h1, h2, rfl, rfl, rfl⟩ := h
  rw [BK] at h1
  rw [BJ] at h2
  have p2 := iM l _ _ _ _ _ _ _ h2
  obtain ⟨b1, b2, b3, b4, b5⟩ := uc p v none sms.head? N D1 I1 X1 N1 h1 (hn.pre p2) hle (D3 ++ D2)
  obtain ⟨c1, c2, c3, c4, c5⟩ := mm l vs' sms.tail N1 D3 I2 X2 N' h2 hn (Nat.le_trans hle (oG p _ _ _ _ _ _ _ _ h1).len) D2
  unfold cZ
  rw [List.append_assoc]
  generalize fill nm p none sms.head? N.length (D1 ++ (D3 ++ D2)) = L at b1 b2 b3 b4 b5
  obtain ⟨us', R, k, DD, XX⟩ := L
  simp only at b1 b2 b3 b4 b5
  subst b2; subst b3
  dsimp only
  generalize cZ nm l sms.tail N1.length (D3 ++ D2) = L at c1 c2 c3 c4 c5
  obtain ⟨us2, R2, k2, DD2, XX2⟩ := L
  simp only at c1 c2 c3 c4 c5
  dsimp only
  exact ⟨by simp only [AV.ae, b1, c1], c2, c3, by rw [b4, c4]; simp [cK], b5.append c5⟩
end
def MT : List (Bool × Nat × Pt) → List Nat
 | [] => []
 | x :: l => ifS x.1 (MT l) (x.2.1 :: MT l)
theorem yI {fix : Nat → FxA} {lk : Nat → Option Value} : (l : List (Bool × Nat × Pt)) → (N : List Nm) → (D : List Dyn) → (I : Its) → (X : Bxs) → (N' : List Nm) → sX (fun i => iU ρ (fix i)) lk l N D I X N' → nQ ρ nm n0 N' → n0 ≤ N.length → (D2 : List Dyn) →
  (∀ t p, look (aj.env ρ [] (dE nm fix l N.length (D ++ D2)).E) t = some p → p.1 = true ∧ lk t = some p.2) ∧ (dE nm fix l N.length (D ++ D2)).k = N'.length ∧ (dE nm fix l N.length (D ++ D2)).D = D2 ∧ dy (RwI ρ T) (dE nm fix l N.length (D ++ D2)).R I
 | [], N, D, I, X, N', h, hn, hle, D2 => by
  obtain ⟨rfl, rfl, rfl, rfl⟩ := h
  exact ⟨(fun t p h => by cases h), rfl, rfl, .nil⟩
 | (b, t, p) :: l, N, D, I, X, N', h, hn, hle, D2 => by
  obtain ⟨v, D1, D3, I1, I2, X1, X2, N1, hv, h1, h2, rfl, rfl, rfl⟩ := h
  have p2 := yx l _ _ _ _ _ h2
  have h1' : Sem p v (iU ρ (ifS b (fix t) none)) ((none : Option AV).map (AV.val ρ)) N D1 I1 X1 N1 := by
   cases b <;> exact h1
  obtain ⟨b1, b2, b3, b4, b5⟩ := uc (T := T) p v _ none N D1 I1 X1 N1 h1' (hn.pre p2) hle (D3 ++ D2)
  obtain ⟨c1, c2, c3, c5⟩ := yI l N1 D3 I2 X2 N' h2 hn (Nat.le_trans hle (oG p _ _ _ _ _ _ _ _ h1).len) D2
  unfold dE
  rw [List.append_assoc]
  dsimp only
  generalize fill nm p (ifS b (fix t) none) none N.length (D1 ++ (D3 ++ D2)) = L at b1 b2 b3 b4 b5
  obtain ⟨us', R, k, DD, XX⟩ := L
  simp only at b1 b2 b3 b4 b5
  subst b2; subst b3
  dsimp only
  generalize dE nm fix l N1.length (D3 ++ D2) = L at c1 c2 c3 c5
  obtain ⟨E2, R2, k2, DD2⟩ := L
  simp only at c1 c2 c3 c5
  dsimp only
  refine ⟨fun t' q hq => ?_, c2, c3, b5.append c5⟩
  cases b
  ·simp only [aj.env, look] at hq
   cases hb : Nat.beq t t'
   ·rw [hb] at hq; exact c1 t' q hq
   ·rw [hb] at hq
    simp only [cond_true, Option.some.injEq] at hq
    subst hq
    have := Nat.eq_of_beq_eq_true hb
    subst this
    refine ⟨Tbl.get_none, ?_⟩
    have hv' : lk t = some v := hv
    rw [hv', b1]
  ·exact c1 t' q hq
end
end Go.Proofs.YtdhgpnejphlfpaaDoor
namespace Go.Proofs.YtdhgpnejphlfpaaDoor
open Go.Lib
section
variable {Γ Γ' : Ctx} {w : World}
theorem Sat.qi (h : Sat Γ w) (Rl : Nat → Nat → Prop) (h1 : ∀ (j : Nat) (jt : Item), Γ'[j]? = some jt → (jt.own = [] ∧ ∀ M w, jt.P M w) ∨ ∃ (i : Nat) (it : Item), Rl j i ∧ Γ[i]? = some it ∧ aU it jt)
  (h2 : ∀ (j k i : Nat), j ≠ k → Rl j i → Rl k i → False) : Sat Γ' w := by
 have mv : Mv Γ.M w (Ctx.M Γ') w := Mv.weaken w fun b hb => by
  obtain ⟨it, hi, hb⟩ := hb
  obtain ⟨k, hk⟩ := List.mem_iff_getElem?.1 hi
  rcases h1 k it hk with ⟨h3, _⟩ | ⟨i, jt, _, h4, h5⟩
  ·rw [h3] at hb; cases hb
  ·exact Ctx.iz h4 (h5.1 b hb)
 refine ⟨fun jt hj => ?_, fun j k jt kt hj hk hjk b hb hb' => ?_⟩
 ·obtain ⟨k, hk⟩ := List.mem_iff_getElem?.1 hj
  rcases h1 k jt hk with ⟨_, h3⟩ | ⟨i, it, _, h4, h5⟩
  ·exact h3 _ _
  ·exact h5.2 _ _ (it.bC (h.at_ h4) mv (fun _ _ => rfl) (dF.refl w))
 ·rcases h1 j jt hj with ⟨h3, _⟩ | ⟨i, it, r1, h4, h5⟩
  ·rw [h3] at hb; cases hb
  ·rcases h1 k kt hk with ⟨h3, _⟩ | ⟨i', it', r2, h4', h5'⟩
   ·rw [h3] at hb'; cases hb'
   ·by_cases e : i = i'
    ·subst e; exact h2 j k i hjk r1 r2
    ·exact h.sep i i' it it' h4 h4' e b (h5.1 b hb) (h5'.1 b hb')
def gZ : Item := Ci True
theorem Sat.pull (h : Sat Γ w) {i : Nat} {it jt : Item} (hi : Γ[i]? = some it) (hl : aU it jt) : Sat (jt :: Γ.set i gZ) w := by
 refine h.qi (fun j k => (j = 0 ∧ k = i) ∨ (j = k + 1 ∧ k ≠ i)) (fun j kt hj => ?_) (fun j k q hjk h1 h2 => by omega)
 cases j with
 | zero => simp at hj; subst hj; exact .inr ⟨i, it, .inl ⟨rfl, rfl⟩, hi, hl⟩
 | succ j =>
  simp only [List.getElem?_cons_succ] at hj
  by_cases e : j = i
  ·subst e
   rw [List.getElem?_set_self (List.getElem?_eq_some_iff.1 hi).1] at hj
   cases hj
   exact .inl ⟨rfl, fun _ _ => trivial⟩
  ·rw [List.getElem?_set_ne (fun h => e h.symm)] at hj
   exact .inr ⟨j, kt, .inr ⟨rfl, e⟩, hj, aU.refl⟩
theorem Sat.sf {A B : Ctx} {x : Item} (h : Sat (A ++ x :: B) w) : Sat (A ++ B) w := by
 refine h.qi (fun j k => (j < A.length ∧ k = j) ∨ (A.length ≤ j ∧ k = j + 1)) (fun j jt hj => ?_) (fun j k q hjk h1 h2 => by omega)
 by_cases e : j < A.length
 ·rw [List.getElem?_append_left e] at hj
  exact .inr ⟨j, jt, .inl ⟨e, rfl⟩, by rw [List.getElem?_append_left e]; exact hj, aU.refl⟩
 ·have e' : A.length ≤ j := by omega
  rw [List.getElem?_append_right e'] at hj
  refine .inr ⟨j + 1, jt, .inr ⟨e', rfl⟩, ?_, aU.refl⟩
  rw [List.getElem?_append_right (by omega)]
  have : j + 1 - A.length = (j - A.length) + 1 := by omega
  rw [this]
  simpa using hj
theorem Sat.NW {A B : Ctx} {x jt : Item} {k : Nat} (h : Sat (A ++ x :: B.set k gZ) w) (hk : B[k]? = some jt) (hl : aU x jt) : Sat (A ++ B) w := by
 have hlt := (List.getElem?_eq_some_iff.1 hk).1
 refine h.qi (fun j q => (j < A.length ∧ q = j) ∨ (j = A.length + k ∧ q = A.length) ∨ (A.length ≤ j ∧ j ≠ A.length + k ∧ q = j + 1)) (fun j kt hj => ?_) (fun j k q hjk h1 h2 => by omega)
 by_cases e : j < A.length
 ·rw [List.getElem?_append_left e] at hj
  exact .inr ⟨j, kt, .inl ⟨e, rfl⟩, by rw [List.getElem?_append_left e]; exact hj, aU.refl⟩
 ·have e' : A.length ≤ j := by omega
  rw [List.getElem?_append_right e'] at hj
  by_cases e2 : j = A.length + k
  ·subst e2
   rw [show A.length + k - A.length = k by omega, hk] at hj
   cases hj
   exact .inr ⟨A.length, x, .inr (.inl ⟨rfl, rfl⟩), by simp, hl⟩
  ·refine .inr ⟨j + 1, kt, .inr (.inr ⟨e', e2, rfl⟩), ?_, aU.refl⟩
   rw [List.getElem?_append_right (by omega)]
   have : j + 1 - A.length = (j - A.length) + 1 := by omega
   rw [this, List.getElem?_cons_succ, List.getElem?_set_ne (by omega)]
   exact hj
theorem Sat.le2 {A B : Ctx} {x y : Item} (h : Sat (A ++ x :: B) w) (hl : aU x y) : Sat (A ++ y :: B) w := by
 refine h.qi (fun j k => j = k) (fun j jt hj => ?_) (fun j k q hjk h1 h2 => by omega)
 by_cases e : j < A.length
 ·rw [List.getElem?_append_left e] at hj
  exact .inr ⟨j, jt, rfl, by rw [List.getElem?_append_left e]; exact hj, aU.refl⟩
 ·have e' : A.length ≤ j := by omega
  rw [List.getElem?_append_right e'] at hj
  by_cases e2 : j = A.length
  ·subst e2
   simp at hj
   subst hj
   exact .inr ⟨A.length, x, rfl, by simp, hl⟩
  ·refine .inr ⟨j, jt, rfl, ?_, aU.refl⟩
   rw [List.getElem?_append_right e']
   have : j - A.length = (j - A.length - 1) + 1 := by omega
   rw [this, List.getElem?_cons_succ] at hj ⊢
   exact hj
theorem Sat.leL {A B C : Ctx} (h : Sat (A ++ (B ++ C)) w) {B' : Ctx} (hl : dy aU B B') : Sat (A ++ (B' ++ C)) w := by
 induction hl generalizing A with
 | nil => exact h
 | @cons a b l m h1 _ ih =>
  have h2 : Sat (A ++ b :: (l ++ C)) w := h.le2 h1
  have h3 : Sat ((A ++ [b]) ++ (l ++ C)) w := by simpa using h2
  have := ih h3
  simpa using this
/-! things by places -/
def mkP : List (Option Nat) → Ctx → Ctx
 | [], Γ => Γ
 | none :: l, Γ => mkP l Γ
 | some i :: l, Γ => (mkP l Γ).set i gZ
def Ndp : List (Option Nat) → Prop
 | [] => True
 | none :: l => Ndp l
 | some i :: l => some i ∉ l ∧ Ndp l
theorem A6 : ∀ {l : List (Option Nat)} {Γ : Ctx}, (mkP l Γ).length = Γ.length
 | [], _ => rfl
 | none :: l, Γ => A6 (l := l)
 | some j :: l, Γ => by
  show ((mkP l Γ).set j gZ).length = _
  rw [List.length_set, A6]
theorem qw : ∀ {l : List (Option Nat)} {Γ : Ctx} {i : Nat}, some i ∉ l → (mkP l Γ)[i]? = Γ[i]?
 | [], _, _, _ => rfl
 | none :: l, Γ, i, h => qw (l := l) (fun h' => h (List.mem_cons_of_mem _ h'))
 | some j :: l, Γ, i, h => by
  have e : j ≠ i := fun e => h (by rw [e]; exact List.mem_cons_self ..)
  show ((mkP l Γ).set j gZ)[i]? = _
  rw [List.getElem?_set_ne e]
  exact qw (fun h' => h (List.mem_cons_of_mem _ h'))
theorem uR {x : Item} : ∀ {l : List (Option Nat)} {Γ : Ctx} {i : Nat}, some i ∉ l → (mkP l Γ).set i x = mkP l (Γ.set i x)
 | [], _, _, _ => rfl
 | none :: l, Γ, i, h => uR (l := l) (fun h' => h (List.mem_cons_of_mem _ h'))
 | some j :: l, Γ, i, h => by
  have e : j ≠ i := fun e => h (by rw [e]; exact List.mem_cons_self ..)
  show ((mkP l Γ).set j gZ).set i x = (mkP l (Γ.set i x)).set j gZ
  rw [List.set_comm _ _ e, uR (fun h' => h (List.mem_cons_of_mem _ h'))]
def PI (Γ : Ctx) (w : World) (o : Option Nat) (x : Bool × Item) : Prop := match o with
 | some i => ∃ jt, Γ[i]? = some jt ∧ aU jt x.2
 | none => x.2.own = [] ∧ x.2.P Γ.M w
abbrev cF (I : Its) : Ctx := I.map (·.2)
def ez (I : Its) : Ctx := I.map fun x => ifS x.1 gZ x.2
theorem mL (h : Sat Γ w) : ∀ {L : List (Option Nat)} {I : Its}, dy (PI Γ w) L I → Ndp L → Sat (cF I ++ mkP L Γ) w ∧ ∀ b, Ctx.M (cF I ++ mkP L Γ) b → Γ.M b
 | _, _, .nil, _ => ⟨h, fun _ h => h⟩
 | _, _, .cons (a := none) (b := x) h1 hr, hd => by
  obtain ⟨ih, ihM⟩ := mL h hr hd
  refine ⟨ih.add h1.1 (x.2.bC h1.2 (Mv.weaken w ihM) (fun _ _ => rfl) (dF.refl w)), fun b hb => ?_⟩
  rcases Ctx.o7.1 hb with hb | hb
  ·rw [h1.1] at hb; cases hb
  ·exact ihM b hb
 | _, _, .cons (a := some i) (b := x) (l := l) (m := m) h1 hr, hd => by
  obtain ⟨ih, ihM⟩ := mL h hr hd.2
  obtain ⟨jt, hj, hl⟩ := h1
  have hi : (cF m ++ mkP l Γ)[(cF m).length + i]? = some jt := by
   rw [List.getElem?_append_right (by omega), show (cF m).length + i - (cF m).length = i by omega, qw hd.1]; exact hj
  have h2 := ih.pull hi hl
  rw [List.set_append_right _ _ (by omega), show (cF m).length + i - (cF m).length = i by omega] at h2
  refine ⟨h2, fun b hb => ?_⟩
  rcases Ctx.o7.1 hb with hb | hb
  ·exact Ctx.iz hj (hl.1 b hb)
  ·obtain ⟨it, h3, h4⟩ := hb
   refine ihM b ?_
   rcases List.mem_append.1 h3 with h3 | h3
   ·exact ⟨it, List.mem_append_left _ h3, h4⟩
   ·rcases List.mem_or_eq_of_mem_set h3 with h3 | h3
    ·exact ⟨it, List.mem_append_right _ h3, h4⟩
    ·subst h3; cases h4
def o9 : List (Option Nat) → Its → List (Option Nat)
 | o :: L, x :: I => (ifS x.1 o none) :: o9 L I
 | _, _ => []
def rE (Γ : Ctx) (o : Option Nat) (x : Bool × Item) : Prop := match o with
 | some i => ∃ jt, Γ[i]? = some jt ∧ (x.1 = false → aU x.2 jt)
 | none => True
theorem rE.set {Γ : Ctx} {i : Nat} {y : Item} : ∀ {L : List (Option Nat)} {I : Its}, dy (rE Γ) L I → some i ∉ L → dy (rE (Γ.set i y)) L I
 | _, _, .nil, _ => .nil
 | _, _, .cons (a := none) h1 hr, hn => .cons trivial (rE.set hr (fun h => hn (List.mem_cons_of_mem _ h)))
 | _, _, .cons (a := some j) h1 hr, hn => by
  obtain ⟨jt, hj, hl⟩ := h1
  have e : i ≠ j := fun e => hn (by rw [e]; exact List.mem_cons_self ..)
  exact .cons ⟨jt, by rw [List.getElem?_set_ne e]; exact hj, hl⟩ (rE.set hr (fun h => hn (List.mem_cons_of_mem _ h)))
theorem zZ {i : Nat} : ∀ {L : List (Option Nat)} {I : Its}, some i ∈ o9 L I → some i ∈ L
 | [], _, h => by cases h
 | o :: L, [], h => by cases h
 | o :: L, x :: I, h => by
  rcases List.mem_cons.1 h with h | h
  ·cases hx : x.1
   ·rw [hx] at h; cases h
   ·rw [hx] at h; exact h ▸ List.mem_cons_self ..
  ·exact List.mem_cons_of_mem _ (zZ h)
theorem tu {A : Ctx} : ∀ {L : List (Option Nat)} {I : Its} {Γ : Ctx}, dy (rE Γ) L I → Ndp L → Sat (A ++ (ez I ++ mkP L Γ)) w → Sat (A ++ mkP (o9 L I) Γ) w
 | _, _, _, .nil, _, h => h
 | _, _, _, .cons (a := none) (b := x) (l := l) (m := m) h1 hr, hd, h => by
  have h2 : Sat (A ++ (ez m ++ mkP l _)) w := Sat.sf h
  have := tu hr hd h2
  cases hx : x.1 <;> simpa [o9, hx, mkP] using this
 | _, _, Γ, .cons (a := some i) (b := x) (l := l) (m := m) h1 hr, hd, h => by
  obtain ⟨jt, hj, hl⟩ := h1
  cases hx : x.1
  ·have e1 : ez (x :: m) ++ mkP (some i :: l) Γ = x.2 :: (ez m ++ mkP l Γ).set (m.length + i) gZ := by
    show (ifS x.1 gZ x.2) :: (ez m ++ (mkP l Γ).set i gZ) = _
    rw [hx, List.set_append_right _ _ (by simp [ez])]
    simp [ez]
   rw [e1] at h
   have h2 := h.NW (jt := jt) (by
    rw [List.getElem?_append_right (by simp [ez])]
    have : m.length + i - (ez m).length = i := by simp [ez]
    rw [this, qw hd.1]; exact hj) (hl hx)
   have := tu hr hd.2 h2
   simpa [o9, hx, mkP] using this
  ·have e1 : ez (x :: m) ++ mkP (some i :: l) Γ = gZ :: (ez m ++ mkP l (Γ.set i gZ)) := by
    show (ifS x.1 gZ x.2) :: (ez m ++ (mkP l Γ).set i gZ) = _
    rw [hx, uR hd.1]
   rw [e1] at h
   have h2 := Sat.sf h
   have := tu (rE.set hr hd.1) hd.2 h2
   rw [← uR (fun h => hd.1 (zZ h))] at this
   simpa [o9, hx, mkP] using this
end
/-! sources by places -/
def cr (G H : List Row) (s : Src) : Option Nat := match s with
 | .top i => (match G[i]? with
  | some r => ifS r.cC none (some i)
  | none => none)
 | .frz i => (match H[i]? with
  | some r => ifS r.cC none (some (G.length + i))
  | none => none)
 | _ => none
def gN (n : Nat) : List (Option Nat) → Bool
 | [] => false
 | o :: l => (match o with
  | some m => Nat.beq n m
  | none => false) || gN n l
theorem yZ {n : Nat} : {l : List (Option Nat)} → (gN n l = true ↔ some n ∈ l)
 | [] => by simp [gN]
 | none :: l => by simp [gN, yZ]
 | some m :: l => by
  simp only [gN, Bool.or_eq_true, List.mem_cons, Option.some.injEq]
  rw [yZ, Nat.beq_eq]
def qS : List (Option Nat) → Bool
 | [] => true
 | o :: l => (match o with
  | some i => !(gN i l)
  | none => true) && qS l
theorem mO : {l : List (Option Nat)} → qS l = true → Ndp l
 | [], _ => trivial
 | none :: l, h => by
  simp only [qS, Bool.true_and] at h
  exact mO (l := l) h
 | some i :: l, h => by
  simp only [qS, Bool.and_eq_true, Bool.not_eq_true'] at h
  exact ⟨(fun h' => by rw [yZ.2 h'] at h; cases h.1), mO h.2⟩
def Qw (n : Nat) : List (Bool × Option Nat) → Bool
 | [] => true
 | (m, o) :: l => (match o with
  | some i => ifS m (Nat.blt i n) true
  | none => true) && Qw n l
section
variable {ρ : Nms} {T : Tbl} {G H : List Row} {Φ : Ctx} {w : World}
theorem Src.pos {s : Src} {r : Row} (h : s.at_ G H r) (hp : r.cC = false) : ∃ i, cr G H s = some i ∧ (items ρ T G ++ (items ρ T H ++ Φ))[i]? = some (r.item ρ T) := by
 cases s with
 | top i =>
  have h : G[i]? = some r := h
  exact ⟨i, by simp only [cr, h, hp], fc h⟩
 | frz i =>
  have h : H[i]? = some r := h
  exact ⟨G.length + i, by simp only [cr, h, hp], BC h⟩
 | nilI => exact h.elim
 | nilO => exact h.elim
 | nilM => exact h.elim
theorem Src.Qo {s : Src} {r : Row} (h : s.at_ G H r) (hp : r.cC = true) : cr G H s = none := by
 cases s with
 | top i =>
  have h : G[i]? = some r := h
  simp only [cr, h, hp]
 | frz i =>
  have h : H[i]? = some r := h
  simp only [cr, h, hp]
 | nilI => exact h.elim
 | nilO => exact h.elim
 | nilM => exact h.elim
theorem Src.Ql {s : Src} (h : ∀ r, ¬ s.at_ G H r) : cr G H s = none := by
 cases s with
 | top i =>
  cases hg : G[i]? with
  | none => simp only [cr, hg]
  | some r => exact (h r hg).elim
 | frz i =>
  cases hg : H[i]? with
  | none => simp only [cr, hg]
  | some r => exact (h r hg).elim
 | nilI => rfl
 | nilO => rfl
 | nilM => rfl
theorem uI (hs : Sat (items ρ T G ++ (items ρ T H ++ Φ)) w) : ∀ {S : List (Bool × Src)} {I : Its}, dy (SI ρ T G H) S I → dy (PI (items ρ T G ++ (items ρ T H ++ Φ)) w) (S.map fun x => cr G H x.2) I ∧ dy (rE (items ρ T G ++ (items ρ T H ++ Φ))) (S.map fun x => cr G H x.2) I
 | _, _, .nil => ⟨.nil, .nil⟩
 | _, _, .cons (a := a) (b := x) h1 hr => by
  obtain ⟨i1, i2⟩ := uI hs hr
  obtain ⟨e, h2⟩ := h1
  rcases h2 with ⟨k1, k2, k3⟩ | ⟨r, k1, k2, k3, k4⟩
  ·have hp := Src.Ql k3
   refine ⟨.cons ?_ i1, .cons ?_ i2⟩
   ·show PI _ _ (cr G H a.2) x; rw [hp]; exact ⟨k1, k2 _ _⟩
   ·show rE _ (cr G H a.2) x; rw [hp]; trivial
  ·cases hpe : r.cC
   ·obtain ⟨i, p1, p2⟩ := Src.pos (ρ := ρ) (T := T) (Φ := Φ) k1 hpe
    refine ⟨.cons ?_ i1, .cons ?_ i2⟩
    ·show PI _ _ (cr G H a.2) x; rw [p1]; exact ⟨_, p2, k2⟩
    ·show rE _ (cr G H a.2) x; rw [p1]; exact ⟨_, p2, fun _ => k4 hpe⟩
   ·have hp := Src.Qo k1 hpe
    refine ⟨.cons ?_ i1, .cons ?_ i2⟩
    ·show PI _ _ (cr G H a.2) x; rw [hp]; exact ⟨k3 hpe, k2.2 _ _ (Src.holds hs k1)⟩
    ·show rE _ (cr G H a.2) x; rw [hp]; trivial
def l6 (is : List (Option Nat)) : Nat → List Row → List Row
 | _, [] => []
 | k, r :: G => (ifS (gN k is) .gone r) :: l6 is (k + 1) G
def iu : List Row → List Row
 | [] => []
 | r :: G => (match r with
  | .gone => iu G
  | r => r :: iu G)
theorem sA {B : Ctx} : ∀ {G : List Row} {A : Ctx}, Sat (A ++ (items ρ T G ++ B)) w → Sat (A ++ (items ρ T (iu G) ++ B)) w
 | [], _, h => h
 | r :: G, A, h => by
  unfold iu
  split
  ·exact sA (G := G) (Sat.sf h)
  ·have h' : Sat ((A ++ [r.item ρ T]) ++ (items ρ T G ++ B)) w := by simpa [items] using h
   have := sA (G := G) h'
   simpa [items] using this
theorem x7 {L : List (Option Nat)} : ∀ {G : List Row} {k : Nat}, items ρ T (l6 L k G) = (items ρ T G).mapIdx fun i it => ifS (gN (k + i) L) gZ it
 | [], _ => rfl
 | r :: G, k => by
  simp only [l6, items, List.map_cons, List.mapIdx_cons]
  have := x7 (L := L) (G := G) (k := k + 1)
  simp only [items] at this
  rw [this]
  congr 1
  ·simp only [Nat.add_zero]; cases gN k L <;> rfl
  ·congr 1
   funext i it
   rw [Nat.add_right_comm, Nat.add_assoc]
theorem CN : ∀ {L : List (Option Nat)} {Γ : Ctx} {j : Nat}, (mkP L Γ)[j]? = (Γ[j]?).map fun it => ifS (gN j L) gZ it
 | [], Γ, j => by
  show Γ[j]? = _
  cases Γ[j]? <;> rfl
 | none :: l, Γ, j => CN (L := l)
 | some i :: l, Γ, j => by
  show ((mkP l Γ).set i gZ)[j]? = _
  by_cases e : i = j
  ·subst e
   rw [List.getElem?_set]
   have hl : (mkP l Γ).length = Γ.length := A6
   have e1 : gN i (some i :: l) = true := by simp [gN]
   rw [e1]
   simp only [if_true, hl]
   by_cases hi : i < Γ.length
   ·rw [List.getElem?_eq_getElem hi]; simp [hi]
   ·rw [List.getElem?_eq_none (by omega)]; simp [hi]
  ·rw [List.getElem?_set_ne e, CN (L := l)]
   have e2 : Nat.beq j i = false := by
    cases hb : Nat.beq j i
    ·rfl
    ·exact absurd (Nat.eq_of_beq_eq_true hb).symm e
   simp [gN, e2]
end
end Go.Proofs.YtdhgpnejphlfpaaDoor
namespace Go.Proofs.YtdhgpnejphlfpaaDoor
open Go.Lib
structure Ent where
 f : FuncId
 ps : List Pt
 r : Pt
 os : List (Bool × Nat × Pt)
 m : Tup (lr ps) → Option (Tup (hol r ++ eK os))
def Mg : Ty → List (Option TypeId) → Nat × List (Option TypeId)
 | .p a b, o => match Mg a o with
  | (n, o) => match Mg b o with
   | (m, o) => (n + m, o)
 | .l _, o => (1, o.tail)
 | .ex, o => (1, o.tail)
 | _, o => (0, o)
mutual
def Lc : Pt → Nat
 | .sli _ | .own _ _ _ | .mp _ _ _ | .it => 1
 | .bx _ _ _ vs => zB vs + 1
 | .agg l | .tup l => zB l
 | .fn _ a b => zB a + zB b
 | .ifc _ p => Lc p
 | .dat t o => (Mg t o).1
 | _ => 0
def zB : List Pt → Nat
 | [] => 0
 | p :: l => Lc p + zB l
end
def ixN : List Pt → Nat → Nat
 | p :: l, i + 1 => Lc p + ixN l i
 | _, _ => 0
def Aa (X : Bxs) (n : Nat) : List Value := match X with
 | [] => []
 | x :: X => ifS (Nat.beq x.1 n) x.2 (Aa X n)
def wb (X : List (Nat × List AV)) (n : Nat) : List AV := match X with
 | [] => []
 | x :: X => ifS (Nat.beq x.1 n) x.2 (wb X n)
theorem BT {ρ : Nms} {n : Nat} : {X : List (Nat × List AV)} → Aa (cK ρ X) n = AV.ae ρ (wb X n)
 | [] => by simp [Aa, wb, AV.ae]
 | x :: X => by
  show (ifS (Nat.beq x.1 n) (AV.ae ρ x.2) (Aa (cK ρ X) n)) = AV.ae ρ (ifS (Nat.beq x.1 n) x.2 (wb X n))
  cases Nat.beq x.1 n
  ·exact BT
  ·rfl
def fxS (ps : List Pt) (vs : List Value) (X : Bxs) (i : Nat) : Fx := (vs[i]?).map fun v => (v, Aa X (ixN ps i))
def fxK (ps : List Pt) (vs : List AV) (X : List (Nat × List AV)) (i : Nat) : FxA := match vs[i]? with
 | some v => some (v, wb X (ixN ps i))
 | none => none
theorem Bd {ρ : Nms} : {l : List AV} → {i : Nat} → (AV.ae ρ l)[i]? = (l[i]?).map (AV.val ρ)
 | [], i => by simp [AV.ae]
 | v :: l, 0 => by simp [AV.ae]
 | v :: l, i + 1 => by simp only [AV.ae, List.getElem?_cons_succ]; exact Bd
theorem FX {ρ : Nms} {ps : List Pt} {vs : List AV} {X : List (Nat × List AV)} {i : Nat} : fxS ps (AV.ae ρ vs) (cK ρ X) i = iU ρ (fxK ps vs X i) := by
 unfold fxS fxK
 rw [Bd]
 cases vs[i]? with
 | none => rfl
 | some v => simp [BT]
def Ent.Ok (P : Program) (Γg : Ctx) (e : Ent) : Prop := fH P e.f ∧ ∀ s r, e.m s = some r → ∀ (vs : List Value) (N : List Nm) (I : Its) (X : Bxs) (Φ : Ctx) (w : World),
 nO e.ps vs [] [] (unt _ s) I X N → Sat (cF I ++ Φ) w → (∀ it ∈ Γg, it ∈ Φ) →
 nH P e.f vs w fun v w' => ∃ (N1 N2 : List Nm) (D1 D2 : List Dyn) (I1 I2 : Its) (X1 X2 : Bxs), Sem e.r v none none N D1 I1 X1 N1 ∧ sX (fxS e.ps vs X) (fun i => vs[i]?) e.os N1 D2 I2 X2 N2 ∧ D1 ++ D2 = unt _ r ∧
  Sat ((cF I1 ++ cF I2) ++ (ez I ++ Φ)) w'
def cellsOf (G H : List Row) (j : Nat) : List AV := match cX G H (sN j) with
 | some (_, .box _ _ cs) => cs
 | _ => []
def L9 : (t : Ty) → List AV → List (Option TypeId) → List Nat × List AV × List (Option TypeId)
 | .i _, vs, o | .bo, vs, o | .s, vs, o => ([], vs.tail, o)
 | .p a b, vs, o => match L9 a vs o with
  | (i, vs, o) => match L9 b vs o with
   | (j, vs, o) => (i ++ j, vs, o)
 | .l _, vs, o => (match o with
  | none :: _ => (match vs with
   | v :: _ => v.sls
   | [] => [])
  | _ => [], vs.tail, o.tail)
 | .ex, vs, o => (match o with
  | none :: _ => (match vs with
   | _ :: _ :: _ :: v :: _ => v.sls
   | _ => [])
  | _ => [], vs.drop 4, o.tail)
 | _, vs, o => ([], vs, o)
mutual
def lC (G H : List Row) : Pt → AV → List Nat
 | .sli _, v => v.sls
 | .bx _ _ _ vs, v => (match v with
  | .ptr j _ => c9 G H vs (cellsOf G H j)
  | _ => [])
 | .agg l, v => (match v with
  | .agg vs => c9 G H l vs
  | _ => [])
 | .tup l, v => (match v with
  | .tuple vs => c9 G H l vs
  | _ => [])
 | .fn _ a b, v => (match v with
  | .fn _ a' b' => c9 G H a a' ++ c9 G H b b'
  | _ => [])
 | .ifc _ p, v => (match v with
  | .ifc _ u => lC G H p u
  | _ => [])
 | .dat t o, v => (match v with
  | .agg cs => (L9 t cs o).1
  | _ => [])
 | _, _ => []
def c9 (G H : List Row) : List Pt → List AV → List Nat
 | [], _ => []
 | p :: l, vs => (match vs with
  | v :: vs => lC G H p (nw G H v) ++ c9 G H l vs
  | [] => [])
end
def nk (T : Tbl) (g : GK) : List Row → List Row
 | [] => []
 | r :: G => (match r with
  | .sli (some k) id t l b => .sli (ifS (T.imp g (some k)) none (some k)) id t l b
  | r => r) :: nk T g G
def pU (g : GK) (r : Row) : Row := match g with
 | none => r
 | some g => (match r with
  | .sli none id t l b => .sli (some g) id t l b
  | .own id t _ l _ => .sli (some g) id t l false
  | r => r)
def slB : Row → Bool
 | .sli none _ _ _ _ | .own .. => true
 | _ => false
def AQ : List (Bool × Row) → Bool
 | [] => true
 | x :: l => slB x.2 && AQ l
def lU (B : List (Option Nat)) (c : Nat) (n : Nat) : Nat := match B[n]? with
 | some (some j) => j
 | _ => c + n
def ltB (c : Nat) : List (Option Nat) → Bool
 | [] => true
 | o :: l => (match o with
  | some j => Nat.blt j c
  | none => true) && ltB c l
def yL (c : Nat) : List (Nat × List AV) → Bool
 | [] => true
 | x :: l => AV.aY c x.2 && yL c l
def qW (G H : List Row) : List (Bool × Src) → List (Option Nat)
 | [] => []
 | x :: S => (ifS x.1 (cr G H x.2) none) :: qW G H S
def ltT (n : Nat) : List (Option Nat) → Bool
 | [] => true
 | o :: l => (match o with
  | some i => Nat.blt i n
  | none => true) && ltT n l
def zM : List (Option Nat) → Bool
 | [] => true
 | o :: l => (match o with
  | some _ => false
  | none => true) && zM l
def xt {R : Type} (_fr : Fr) (st : StB) (g : GK) (d : Option Tmp) (args : List AV) (e : Ent) (mr : MR) (G1 : List Row) (K : Go_ R) (r : Tup (hol e.r ++ eK e.os)) : Option R :=
 match fill (lU mr.B st.c) e.r none none mr.B.length (unt _ r) with
 | ⟨v, R1, k, D, _⟩ => match dE (lU mr.B st.c) (fxK e.ps args mr.X) e.os k D with
  | ⟨_, R2, k, _⟩ => ifS (match g with | none => true | some _ => AQ R1) (K { st with c := st.c + k, E := bT d g v st.E, G := (R1 ++ R2).map (fun x => pU g x.2) ++ G1 }) none
def HV {R : Type} (T : Tbl) (fr : Fr) (st : StB) (g : GK) (d : Option Tmp) (args : List AV) (e : Ent) (K : Go_ R) : Option (Option R) :=
 match g with
 | none => (match mts (frz (c9 st.G fr.H e.ps args) st.G) fr.H e.ps args [] [] with
  | some mr => ifS (qS (mr.S.map fun x => cr (frz (c9 st.G fr.H e.ps args) st.G) fr.H x.2) && ltT (frz (c9 st.G fr.H e.ps args) st.G).length (qW (frz (c9 st.G fr.H e.ps args) st.G) fr.H mr.S) && ltB st.c mr.B && AV.aY st.c args && yL st.c mr.X) (match tup (lr e.ps) mr.D with
   | some s => some ((e.m s).bind (xt fr st none d args e mr (iu (l6 (qW (frz (c9 st.G fr.H e.ps args) st.G) fr.H mr.S) 0 (frz (c9 st.G fr.H e.ps args) st.G))) K))
   | none => none) none
  | none => none)
 | some gk => (match mts (nk T (some gk) (frz (c9 st.G fr.H e.ps args) st.G)) (nk T (some gk) fr.H) e.ps args [] [] with
  | some mr => ifS (qS (mr.S.map fun x => cr (nk T (some gk) (frz (c9 st.G fr.H e.ps args) st.G)) (nk T (some gk) fr.H) x.2) && zM (qW (nk T (some gk) (frz (c9 st.G fr.H e.ps args) st.G)) (nk T (some gk) fr.H) mr.S) && e.os.isEmpty && ltB st.c mr.B && AV.aY st.c args && yL st.c mr.X) (match tup (lr e.ps) mr.D with
   | some s => some (az (T.get (some gk)) (HC _) (e.m s) (xt fr st (some gk) d args e mr (frz (c9 st.G fr.H e.ps args) st.G) K))
   | none => none) none
  | none => none)
def zu {R : Type} (T : Tbl) (fr : Fr) (st : StB) (g : GK) (d : Option Tmp) (f : FuncId) (args : List AV) (K : Go_ R) : List Ent → Option R
 | [] => none
 | e :: tb => ifS (Nat.beq e.f f) (match HV T fr st g d args e K with
   | some r => r
   | none => zu T fr st g d f args K tb) (zu T fr st g d f args K tb)
section
variable {ρ : Nms} {T : Tbl} {G H : List Row} {Φ : Ctx} {w : World}
theorem Eo {s : Src} {i : Nat} (h : cr G H s = some i) : i < G.length + H.length := by
 cases s with
 | top j =>
  simp only [cr] at h
  split at h
  ·rename_i r hr
   obtain ⟨_, h2⟩ := HA h
   cases h2
   have := (List.getElem?_eq_some_iff.1 hr).1
   omega
  ·cases h
 | frz j =>
  simp only [cr] at h
  split at h
  ·rename_i r hr
   obtain ⟨_, h2⟩ := HA h
   cases h2
   have := (List.getElem?_eq_some_iff.1 hr).1
   omega
  ·cases h
 | nilI => cases h
 | nilO => cases h
 | nilM => cases h
theorem yC : ∀ {S : List (Bool × Src)} {I : Its}, dy (SI ρ T G H) S I → o9 (S.map fun x => cr G H x.2) I = qW G H S
 | _, _, .nil => rfl
 | _, _, .cons (a := a) (b := x) h1 hr => by
  show (ifS x.1 (cr G H a.2) none) :: o9 _ _ = (ifS a.1 (cr G H a.2) none) :: _
  rw [yC hr, h1.1]
theorem AB {n : Nat} : ∀ {L : List (Option Nat)} {j : Nat}, ltT n L = true → gN j L = true → j < n
 | [], j, h, h' => by cases h'
 | none :: l, j, h, h' => by
  simp only [ltT, Bool.true_and] at h
  simp only [gN, Bool.false_or] at h'
  exact AB h h'
 | some i :: l, j, h, h' => by
  simp only [ltT, Bool.and_eq_true, Nat.blt_eq] at h
  simp only [gN, Bool.or_eq_true] at h'
  rcases h' with h' | h'
  ·rw [Nat.eq_of_beq_eq_true h']; exact h.1
  ·exact AB h.2 h'
theorem oA {L : List (Option Nat)} {Δ : Ctx} (h : ltT G.length L = true) : mkP L (items ρ T G ++ Δ) = items ρ T (l6 L 0 G) ++ Δ := by
 apply List.ext_getElem?
 intro j
 rw [CN, x7]
 by_cases hj : j < G.length
 ·rw [List.getElem?_append_left (by simpa [items] using hj), List.getElem?_append_left (by simpa [items] using hj), List.getElem?_mapIdx]
  simp
 ·have e : gN j L = false := by
   cases hm : gN j L
   ·rfl
   ·exact absurd (AB h hm) hj
  rw [List.getElem?_append_right (by simp [items]; omega), List.getElem?_append_right (by simp [items]; omega), e]
  have e2 : (items ρ T G).length = ((items ρ T G).mapIdx fun i it => ifS (gN (0 + i) L) gZ it).length := by simp
  rw [← e2]
  cases Δ[j - (items ρ T G).length]? <;> rfl
theorem CK : ∀ {L : List (Option Nat)} {Γ : Ctx}, zM L = true → mkP L Γ = Γ
 | [], _, _ => rfl
 | none :: l, Γ, h => by
  simp only [zM, Bool.true_and] at h
  exact CK (L := l) h
 | some i :: l, Γ, h => by simp [zM] at h
theorem yT {g : GK} (hg : T.get g = true) {B : Ctx} : ∀ {G : List Row} {A : Ctx}, Sat (A ++ (items ρ T G ++ B)) w → Sat (A ++ (items ρ T (nk T g G) ++ B)) w
 | [], _, h => h
 | r :: G, A, h => by
  have step : ∀ r' : Row, aU (r.item ρ T) (r'.item ρ T) → Sat (A ++ (items ρ T (r' :: nk T g G) ++ B)) w := fun r' hl => by
   have h1 : Sat (A ++ r'.item ρ T :: (items ρ T G ++ B)) w := Sat.le2 h hl
   have h' : Sat ((A ++ [r'.item ρ T]) ++ (items ρ T G ++ B)) w := by simpa [items] using h1
   have := yT hg (G := G) h'
   simpa [items] using this
  unfold nk
  split
  ·rename_i k id t l b
   refine step _ ?_
   cases hi : T.imp g (some k)
   ·exact aU.refl
   ·refine ⟨fun _ h => h, fun M w h _ => h (Tbl.gR hi hg)⟩
  ·exact step _ aU.refl
theorem Ao {g : GK} : ∀ {G : List Row}, dy aU (items ρ T (nk T g G)) (items ρ T G)
 | [] => .nil
 | r :: G => by
  show dy aU (items ρ T (nk T g (r :: G))) (r.item ρ T :: items ρ T G)
  unfold nk
  refine .cons ?_ Ao
  split
  ·rename_i k id t l b
   cases hi : T.imp g (some k)
   ·exact aU.refl
   ·exact ⟨fun _ h => h, fun M w h _ => h Tbl.get_none⟩
  ·exact aU.refl
theorem Di {g : Nat × Bool} {B : Ctx} : ∀ {R : List (Bool × Row)} {A : Ctx}, AQ R = true → Sat (A ++ (items ρ T (R.map (·.2)) ++ B)) w → Sat (A ++ (items ρ T (R.map fun x => pU (some g) x.2) ++ B)) w
 | [], _, _, h => h
 | (m, r) :: R, A, hb, h => by
  simp only [AQ, Bool.and_eq_true] at hb
  have step : Sat (A ++ (pU (some g) r).item ρ T :: (items ρ T (R.map (·.2)) ++ B)) w := by
   have h0 : Sat (A ++ r.item ρ T :: (items ρ T (R.map (·.2)) ++ B)) w := h
   cases r with
   | sli k id t l b =>
    cases k with
    | none => exact h0.le2 ⟨fun _ h => h, fun M w h _ => h Tbl.get_none⟩
    | some k => simp [slB] at hb
   | own id t e l ver =>
    have hi : (A ++ (Row.own id t e l ver).item ρ T :: (items ρ T (R.map (·.2)) ++ B))[A.length]? = some (qI t.rep e (ρ id).v l ((ρ ver).y = ⟨.l t, l⟩)) := by simp [Row.item]
    have h2 := h0.upd hi (new := (pU (some g) (Row.own id t e l ver)).item ρ T) ((Ext.refl w).chg _) (fun b hb => by cases hb) (fun M' m hn => fun _ => ⟨(h0.at_ hi).1.freeze (fun b hb => hn b hb (fun hb => by cases hb)) m, fun hb => by cases hb⟩)
    simpa using h2
   | _ => simp [slB] at hb
  have h' : Sat ((A ++ [(pU (some g) r).item ρ T]) ++ (items ρ T (R.map (·.2)) ++ B)) w := by simpa using step
  have := Di (g := g) hb.2 h'
  simpa [items] using this
theorem uK {g : Nat × Bool} (hg : T.get (some g) = false) : ∀ {R : List (Bool × Row)}, AQ R = true → ∀ it ∈ items ρ T (R.map fun x => pU (some g) x.2), it.cC = true ∧ ∀ M w, it.P M w
 | [], _, it, h => by cases h
 | (m, r) :: R, hb, it, h => by
  simp only [AQ, Bool.and_eq_true] at hb
  rw [List.map_cons, items, List.map_cons] at h
  rcases List.mem_cons.1 h with rfl | h
  ·cases r with
   | sli k id t l b =>
    cases k with
    | none => exact ⟨rfl, fun M w h => by rw [hg] at h; cases h⟩
    | some k => simp [slB] at hb
   | own id t e l ver => exact ⟨rfl, fun M w h => by rw [hg] at h; cases h⟩
   | _ => simp [slB] at hb
  ·exact uK hg hb.2 it h
theorem dy.rw {R : List (Bool × Row)} {I : Its} (h : dy (RwI ρ T) R I) : dy aU (cF I) (items ρ T (R.map (·.2))) := by
 induction h with
 | nil => exact .nil
 | cons h1 _ ih => exact .cons h1.2.1 ih
theorem zE {R : List (Bool × Row)} : (R.map fun x => pU none x.2) = R.map (·.2) := rfl
theorem BI {N N2 : List Nm} {B : List (Option Nat)} {c : Nat} (hN : NB ρ B N) (hp : Pre N N2) (hB : ltB c B = true) :
  nQ (fun i => ifS (Nat.blt i c) (ρ i) ((N2[i - c]?).getD nm0)) (lU B c) B.length N2 := by
 intro i a ha
 have hge : ∀ n, (ifS (Nat.blt (c + n) c) (ρ (c + n)) ((N2[c + n - c]?).getD nm0)) = (N2[n]?).getD nm0 := fun n => by
  have : Nat.blt (c + n) c = false := by
   cases hb : Nat.blt (c + n) c
   ·rfl
   ·simp only [Nat.blt_eq] at hb; omega
  rw [this, show c + n - c = n by omega]
 unfold lU
 split
 ·rename_i j hj
  obtain ⟨a', h1, h2⟩ := hN.get hj
  have e1 := hp.at_ h1
  rw [ha] at e1
  cases e1
  have hlt : Nat.blt j c = true := by
   have key : ∀ (B : List (Option Nat)) (i : Nat), ltB c B = true → B[i]? = some (some j) → Nat.blt j c = true := fun B => by
    induction B with
    | nil => intro i _ h; simp at h
    | cons o l ih =>
     intro i h h'
     simp only [ltB, Bool.and_eq_true] at h
     cases i with
     | zero => simp at h'; subst h'; exact h.1
     | succ i => exact ih i h.2 (by simpa using h')
   exact key B i hB hj
  simp only [hlt]
  refine ⟨h2.1.symm, h2.2.1.symm, h2.2.2.symm, fun hle => ?_⟩
  have := (List.getElem?_eq_some_iff.1 hj).1
  omega
 ·simp only [hge, ha, Option.getD_some]
  exact ⟨trivial, trivial, trivial, fun _ => trivial⟩
theorem DM {ρ' : Nms} {c : Nat} (ha : ax c ρ ρ') : {X : List (Nat × List AV)} → yL c X = true → cK ρ' X = cK ρ X
 | [], _ => rfl
 | x :: X, h => by
  simp only [yL, Bool.and_eq_true] at h
  show (x.1, AV.ae ρ' x.2) :: cK ρ' X = (x.1, AV.ae ρ x.2) :: cK ρ X
  rw [AV.aX ha _ h.1, DM ha h.2]
end
section
variable {P : Program} {R : Type} {r : R} {K : Go_ R} {T : Tbl} {fr : Fr} {st : StB} {g : GK} {d : Option Tmp} {ρ : Nms} {Φ Γg : Ctx} {w : World} {ty : TypeId} {pos : String} {af : Array Edge} {gd : Option (Nat × Bool)}
theorem wQ {e : Ent} {args : List AV} {mr : MR} {G1 : List Row} {q : Tup (hol e.r ++ eK e.os)} {v : Value} {w' : World} {N N1 N2 : List Nm} {D1 D2 : List Dyn} {I1 I2 : Its} {X1 X2 : Bxs}
  (hl : st.low fr = true) (hG1 : aO st.c G1 = true) (hN : NB ρ mr.B N) (hB : ltB st.c mr.B = true) (hA : AV.aY st.c args = true) (hX : yL st.c mr.X = true)
  (h1 : Sem e.r v none none N D1 I1 X1 N1) (h2 : sX (fxS e.ps (AV.ae ρ args) (cK ρ mr.X)) (fun i => (AV.ae ρ args)[i]?) e.os N1 D2 I2 X2 N2) (hD : D1 ++ D2 = unt _ q)
  (hg : T.get g = true) (hs : Sat ((cF I1 ++ cF I2) ++ (items ρ T G1 ++ (items ρ T fr.H ++ Φ))) w') (hos : g = none ∨ e.os = []) (h : xt fr st g d args e mr G1 K q = some r) : aA r K T fr st g d ρ Φ v w' := by
 have hp1 := oG _ _ _ _ _ _ _ _ _ h1
 have hp2 := yx _ _ _ _ _ _ h2
 have hnm := BI (N2 := N2) hN (hp1.trans hp2) hB
 have hag : ax st.c ρ (fun i => ifS (Nat.blt i st.c) (ρ i) ((N2[i - st.c]?).getD nm0)) := fun j hj => by
  have : Nat.blt j st.c = true := by simpa using hj
  simp only [this]
 generalize hρ : (fun i => ifS (Nat.blt i st.c) (ρ i) ((N2[i - st.c]?).getD nm0)) = ρ' at hnm hag
 have hlen : mr.B.length = N.length := hN.length
 obtain ⟨a1, a2, a3, a4, a5⟩ := uc (T := T) e.r v none none N D1 I1 X1 N1 h1 (hnm.pre hp2) (by omega) D2
 have h2' : sX (fun i => iU ρ' (fxK e.ps args mr.X i)) (fun i => (AV.ae ρ args)[i]?) e.os N1 D2 I2 X2 N2 := by
  have e1 : (fun i => iU ρ' (fxK e.ps args mr.X i)) = fxS e.ps (AV.ae ρ args) (cK ρ mr.X) := by
   funext i
   rw [← AV.aX hag _ hA, ← DM hag hX, FX]
  rw [e1]; exact h2
 obtain ⟨b1, b2, b3, b4⟩ := yI (T := T) e.os N1 D2 I2 X2 N2 h2' hnm (Nat.le_trans (by omega) hp1.len) []
 unfold xt at h
 rw [← hD, hlen] at h
 generalize fill (lU mr.B st.c) e.r none none N.length (D1 ++ D2) = L at a1 a2 a3 a4 a5 h
 obtain ⟨v', R1, k, DD, XX⟩ := L
 simp only at a1 a2 a3 a4 a5
 subst a2; subst a3
 dsimp only at h
 rw [List.append_nil] at b1 b2 b3 b4
 generalize dE (lU mr.B st.c) (fxK e.ps args mr.X) e.os N1.length DD = L at b1 b2 b3 b4 h
 obtain ⟨E2, R2, k2, DD2⟩ := L
 simp only at b2 b3 b4
 dsimp only at h
 obtain ⟨c1, c2⟩ := al h
 refine aA.new (ρ' := ρ') hl c2 hag (by simp) rfl a1 ?_
 have hs2 : Sat ((items ρ' T (R1.map (·.2)) ++ items ρ' T (R2.map (·.2))) ++ (items ρ T G1 ++ (items ρ T fr.H ++ Φ))) w' := by
  have k1 := Sat.leL (A := []) (B := cF I1) (C := cF I2 ++ (items ρ T G1 ++ (items ρ T fr.H ++ Φ))) (by simpa using hs) a5.rw
  have k2 := Sat.leL (A := items ρ' T (R1.map (·.2))) (B := cF I2) (C := items ρ T G1 ++ (items ρ T fr.H ++ Φ)) k1 b4.rw
  simpa using k2
 have e3 := aE (T := T) hag hG1
 show Sat (items ρ' T ((R1 ++ R2).map (fun x => pU g x.2) ++ G1) ++ (items ρ T fr.H ++ Φ)) w'
 rw [aG, e3, List.map_append, aG]
 cases g with
 | none =>
  rw [zE, zE]
  simpa using hs2
 | some gk =>
  rcases hos with hos | hos
  ·cases hos
  ·have hR2 : R2 = [] := by
    have hI : I2 = [] := by rw [hos] at h2; exact h2.2.1
    rw [hI] at b4
    cases b4; rfl
   subst hR2
   have k3 := Di (g := gk) (A := []) (R := R1) (B := items ρ T G1 ++ (items ρ T fr.H ++ Φ)) c1 (by simpa using hs2)
   simpa using k3
theorem Ls {e : Ent} {fo : Operand} {xs : List Operand} {tys : Array TypeId} {a b vs : List AV} (hl : st.low fr = true) (hs : Sat (items ρ T st.G ++ (items ρ T fr.H ++ Φ)) w) (he : e.Ok P Γg) (hΓ : ∀ it ∈ Γg, it ∈ Φ)
  (hfo : opA T st.E fr.F g fo = some (.fn e.f a b)) (hxs : ov T st.E fr.F g xs = some vs) (h : HV T fr st g d (a ++ vs ++ b) e K = some (some r)) :
  Ok2 P T g (ai ρ T st.E fr.F) ⟨d, .call ⟨.value fo, xs.toArray, tys⟩, ty, pos, af, gd⟩ w (aA r K T fr st g d ρ Φ) := by
 have hfo' := ay (ρ := ρ) hfo
 have hxs' := iv (ρ := ρ) hxs
 simp only [AV.val] at hfo'
 have hargs : AV.ae ρ (a ++ vs ++ b) = AV.ae ρ a ++ AV.ae ρ vs ++ AV.ae ρ b := by rw [cE, cE]
 generalize hag : a ++ vs ++ b = args at h hargs
 have hGl := mX (ids := c9 st.G fr.H e.ps args) (StB.bM.1 hl).2.2.1
 replace hs := gf (ids := c9 st.G fr.H e.ps args) hs
 have ent : T.get g = true → ∀ n act, Fits n (ai ρ T st.E fr.F) act → (execOp act.eval ⟨d, .call ⟨.value fo, xs.toArray, tys⟩, ty, pos, af, gd⟩).run P w = .ok (.enter e.f (AV.ae ρ args).toArray) w := fun hg n act hf => by
  have := sP (w := w) (dst := d) (ty := ty) (pos := pos) (af := af) (gd := gd) (tys := tys) he.1 hfo' hxs' hf hg
  rw [hargs]; exact this
 -- what is lent, taken and handed back
 have key : ∀ (Gu Hu : List Row) (mr : MR) (s : Tup (lr e.ps)) (q : Tup (hol e.r ++ eK e.os)), Sat (items ρ T Gu ++ (items ρ T Hu ++ Φ)) w → mts Gu Hu e.ps args [] [] = some mr → qS (mr.S.map fun x => cr Gu Hu x.2) = true →
   tup (lr e.ps) mr.D = some s → e.m s = some q → nH P e.f (AV.ae ρ args) w fun v w' => ∃ (N N1 N2 : List Nm) (D1 D2 : List Dyn) (I1 I2 : Its) (X1 X2 : Bxs), NB ρ mr.B N ∧ Sem e.r v none none N D1 I1 X1 N1 ∧
    sX (fxS e.ps (AV.ae ρ args) (cK ρ mr.X)) (fun i => (AV.ae ρ args)[i]?) e.os N1 D2 I2 X2 N2 ∧ D1 ++ D2 = unt _ q ∧ Sat ((cF I1 ++ cF I2) ++ mkP (qW Gu Hu mr.S) (items ρ T Gu ++ (items ρ T Hu ++ Φ))) w' := fun Gu Hu mr s q hs hm hnd htup hq => by
  obtain ⟨N, I, s1, n1, a1⟩ := pd hs e.ps args [] [] mr [] hm .nil
  rw [← oH _ htup] at s1
  obtain ⟨p1, p2⟩ := uI hs a1
  have hnd' := mO hnd
  obtain ⟨q1, _⟩ := mL hs p1 hnd'
  refine (he.2 s q hq (AV.ae ρ args) N I (cK ρ mr.X) _ w (by simpa only [AV.ae] using s1) q1 (fun it hit => ?_)).mono ?_
  ·obtain ⟨k, hk⟩ := List.mem_iff_getElem?.1 (hΓ it hit)
   have hk2 : (items ρ T Gu ++ (items ρ T Hu ++ Φ))[Gu.length + Hu.length + k]? = some it := by
    rw [List.getElem?_append_right (by simp [items]; omega), List.getElem?_append_right (by simp [items]; omega)]
    have : Gu.length + Hu.length + k - (items ρ T Gu).length - (items ρ T Hu).length = k := by simp [items]; omega
    rw [this]; exact hk
   refine List.mem_of_getElem? (i := Gu.length + Hu.length + k) ?_
   rw [qw, hk2]
   intro hmem
   obtain ⟨x, _, hx⟩ := List.mem_map.1 hmem
   have := Eo hx
   omega
  ·intro v w' hv
   obtain ⟨N1, N2, D1, D2, I1, I2, X1, X2, c1, c2, c3, c4⟩ := hv
   have c5 := tu p2 hnd' c4
   rw [yC a1] at c5
   exact ⟨N, N1, N2, D1, D2, I1, I2, X1, X2, n1, c1, c2, c3, c5⟩
 unfold HV at h
 cases g with
 | none =>
  dsimp only at h
  split at h
  ·rename_i mr hm
   obtain ⟨h1, h2⟩ := al h
   simp only [Bool.and_eq_true] at h1
   obtain ⟨⟨⟨⟨h3, h4⟩, h5⟩, h6⟩, h7⟩ := h1
   split at h2
   ·rename_i s htup
    simp only [Option.some.injEq] at h2
    obtain ⟨q, hq, hk⟩ := pS h2
    refine .none_ (fun n act hf => .inr (.inr ⟨e.f, AV.ae ρ args, ent Tbl.get_none n act hf, (key _ _ mr s q hs hm h3 htup hq).mono fun v w' hv => ?_⟩))
    obtain ⟨N, N1, N2, D1, D2, I1, I2, X1, X2, n1, c1, c2, c3, c4⟩ := hv
    rw [oA h4] at c4
    have c5 := sA c4
    refine wQ hl ?_ n1 h5 h6 h7 c1 c2 c3 Tbl.get_none c5 (.inl rfl) hk
    have key2 : ∀ (L : List (Option Nat)) (G : List Row) (k : Nat), aO st.c G = true → aO st.c (iu (l6 L k G)) = true := fun L G => by
     induction G with
     | nil => intro k _; rfl
     | cons r G ih =>
      intro k hG
      simp only [aO, Bool.and_eq_true] at hG
      show aO st.c (iu ((ifS (gN k L) .gone r) :: l6 L (k + 1) G)) = true
      cases gN k L
      ·cases r <;> first | exact ih (k + 1) hG.2 | (simp only [iu, aO, Bool.and_eq_true]; exact ⟨hG.1, ih (k + 1) hG.2⟩)
      ·exact ih (k + 1) hG.2
    exact key2 _ _ _ hGl
   ·cases h2
  ·cases h
 | some gk =>
  dsimp only at h
  split at h
  ·rename_i mr hm
   obtain ⟨h1, h2⟩ := al h
   simp only [Bool.and_eq_true] at h1
   obtain ⟨⟨⟨⟨⟨h3, h4⟩, h8⟩, h5⟩, h6⟩, h7⟩ := h1
   have hos : e.os = [] := by simpa using h8
   split at h2
   ·rename_i s htup
    simp only [Option.some.injEq] at h2
    obtain ⟨q, hq1, hq0, hk⟩ := zw h2
    refine ⟨fun hg => fun n act hf => .inr (.inr ⟨e.f, AV.ae ρ args, ent hg n act hf, (key _ _ mr s q (yT (A := items ρ T (nk T (some gk) (frz (c9 st.G fr.H e.ps args) st.G))) hg (yT (A := []) hg hs)) hm h3 htup (hq1 hg)).mono fun v w' hv => ?_⟩), fun hg => ?_⟩
    ·obtain ⟨N, N1, N2, D1, D2, I1, I2, X1, X2, n1, c1, c2, c3, c4⟩ := hv
     rw [CK h4] at c4
     have c5 := Sat.leL c4 Ao
     rw [← List.append_assoc] at c5
     have c6 := Sat.leL c5 Ao
     rw [List.append_assoc] at c6
     exact wQ hl hGl n1 h5 h6 h7 c1 c2 c3 hg c6 (.inr hos) hk
    ·have e0 := hq0 hg
     subst e0
     unfold xt at hk
     generalize fill (lU mr.B st.c) e.r none none mr.B.length (unt _ (HC _)) = L at hk
     obtain ⟨v', R1, k, DD, XX⟩ := L
     dsimp only at hk
     have e2 : dE (lU mr.B st.c) (fxK e.ps args mr.X) e.os k DD = ⟨[], [], k, DD⟩ := by rw [hos]; rfl
     rw [e2] at hk
     dsimp only at hk
     obtain ⟨d1, d2⟩ := al hk
     refine ⟨_, aA.old d2 (by simp) rfl rfl ?_⟩
     show Sat (items ρ T ((R1 ++ []).map (fun x : Bool × Row => pU (some gk) x.2) ++ _) ++ _) w
     rw [List.append_nil, aG, List.append_assoc]
     exact qY hs _ (fun it hit => ⟨(uK hg d1 it hit).1, (uK hg d1 it hit).2 _ _⟩)
   ·cases h2
  ·cases h
end
end Go.Proofs.YtdhgpnejphlfpaaDoor
namespace Go.Proofs.YtdhgpnejphlfpaaDoor
open Go.Lib
def zX : (t : Ty) → List t.T → Option (List Value)
 | .s, xs => some (xs.map S)
 | .i k, xs => some (xs.map (.int k))
 | _, _ => none
def glI (p : Nat × Nat × Dyn) : Item := match p.2.2 with
 | ⟨.l t, xs⟩ => (match zX t xs with
  | some cs => gl p.1 cs
  | none => gZ)
 | _ => gZ
def Cx.Γ (X : Cx) : Ctx := X.gls.map glI
def Cm : List (Nat × Nat × Dyn) → Nat → Option Dyn
 | [], _ => none
 | p :: l, b => ifS (Nat.beq p.1 b) (some p.2.2) (Cm l b)
theorem CA : {l : List (Nat × Nat × Dyn)} → {b : Nat} → {d : Dyn} → Cm l b = some d → ∃ p, p ∈ l ∧ p.1 = b ∧ p.2.2 = d
 | [], _, _, h => by cases h
 | p :: l, b, d, h => by
  unfold Cm at h
  rcases cW h with ⟨h1, h2⟩ | ⟨_, h2⟩
  ·cases h2; exact ⟨p, List.mem_cons_self .., Nat.eq_of_beq_eq_true h1, rfl⟩
  ·obtain ⟨q, q1, q2⟩ := CA h2
   exact ⟨q, List.mem_cons_of_mem _ q1, q2⟩
theorem IN {M : Nat → Prop} {w : World} : {t : Ty} → {xs : List t.T} → {cs : List Value} → zX t xs = some cs → ARd t.rep M w cs xs
 | .s, xs, _, h => by cases h; exact CB xs
 | .i k, xs, _, h => by cases h; exact Bj xs
 | .bo, _, _, h | .un, _, _, h | .n, _, _, h | .p _ _, _, _, h | .l _, _, _, h | .mp _ _, _, _, h | .ex, _, _, h => by cases h
structure GA where
 n : Nat
 e : TypeId
 b : Nat
 t : Ty
 xs : List t.T
 m : Nat
def gaA (X : Cx) (T : Tbl) (fr : Fr) (st : StB) (g : GK) (t : TypeId) (x : Operand) : Option GA := match X.P.underlying t with
 | some (.array n e) => (match tiA X.P e with
  | some z => (match opA T st.E fr.F g x with
   | some (.gp b) => (match Cm X.gls b with
    | some ⟨.l u, xs⟩ => ifS ((zX u xs).isSome && Nat.beq z.1 u.n' && Nat.beq n xs.length && Nat.blt 0 n) (some ⟨n, e, b, u, xs, z.1⟩) none
    | _ => none)
   | _ => none)
  | none => none)
 | _ => none
section
variable {X : Cx} {R : Type} {r : R} {K : Go_ R} {T : Tbl} {fr : Fr} {st : StB} {g : GK} {d : Tmp} {ρ : Nms} {Φ : Ctx} {w : World} {ty : TypeId} {pos : String} {af : Array Edge} {gd : Option (Nat × Bool)}
theorem IP {t : TypeId} {x : Operand} {q : GA} (hΓ : ∀ it ∈ X.Γ, it ∈ Φ) (hs : Sat (items ρ T st.G ++ (items ρ T fr.H ++ Φ)) w) (h : gaA X T fr st g t x = some q) :
  X.P.underlying t = some (.array q.n q.e) ∧ (∃ bytes z, TI X.P q.e q.m bytes z) ∧ Opd (ai ρ T st.E fr.F) (T.get g) x (.pointer (some ⟨q.b, 0, none⟩)) ∧ q.m = q.t.rep.n ∧ q.n = q.xs.length ∧ Nat.blt 0 q.n = true ∧
   SRd q.t.rep (Ctx.M (items ρ T st.G ++ (items ρ T fr.H ++ Φ))) w (sl (some ⟨q.b, 0, none⟩, q.xs.length, q.xs.length)) q.xs := by
 unfold gaA at h
 split at h
 ·rename_i n e ht
  split at h
  ·rename_i z hz
   obtain ⟨m, bytes, z⟩ := z
   split at h
   ·rename_i b hx
    split at h
    ·rename_i u xs hg
     obtain ⟨h1, h2⟩ := al h
     cases h2
     simp only [Bool.and_eq_true] at h1
     obtain ⟨⟨⟨h3, h4⟩, h5⟩, h6⟩ := h1
     have hx' := ay (ρ := ρ) hx
     simp only [AV.val] at hx'
     obtain ⟨p, p1, p2, p3⟩ := CA hg
     obtain ⟨b', k', d'⟩ := p
     simp only at p2 p3
     subst p2; subst p3
     cases hc : zX u xs with
     | none => rw [hc] at h3; cases h3
     | some cs =>
      have hmem : gl b' cs ∈ Φ := by
       have := hΓ (glI (b', k', ⟨.l u, xs⟩)) (List.mem_map.2 ⟨_, p1, rfl⟩)
       unfold glI at this
       simp only [hc] at this
       exact this
      have hmem2 : gl b' cs ∈ items ρ T st.G ++ (items ρ T fr.H ++ Φ) := List.mem_append_right _ (List.mem_append_right _ hmem)
      obtain ⟨i, hi⟩ := List.mem_iff_getElem?.1 hmem2
      obtain ⟨g1, g2⟩ := hs.gl hi
      exact ⟨ht, ⟨bytes, z, cH hz⟩, hx', (Nat.eq_of_beq_eq_true h4).trans u.uq.symm, Nat.eq_of_beq_eq_true h5, h6, P1 g1 g2 (IN hc)⟩
    ·cases h
   ·cases h
  ·cases h
 ·cases h
def Ch (X : Cx) (T : Tbl) (fr : Fr) (st : StB) (g : GK) (d : Tmp) (t : TypeId) (x y : Operand) (K : Go_ R) : Option R := match gaA X T fr st g t x with
 | some q => (match opA T st.E fr.F g y with
  | some (.int _ i) => OY T g st d q.t q.xs i K
  | _ => none)
 | none => none
theorem D7 {tt : TypeId} {x y : Operand} (hl : st.low fr = true) (hΓ : ∀ it ∈ X.Γ, it ∈ Φ) (hs : Sat (items ρ T st.G ++ (items ρ T fr.H ++ Φ)) w) (h : Ch X T fr st g d tt x y K = some r) :
  Okq X.P T g (ai ρ T st.E fr.F) ⟨some d, .indexAddr tt x y, ty, pos, af, gd⟩ w (aA r K T fr st g (some d) ρ Φ) := by
 unfold Ch at h
 split at h
 ·rename_i q hq
  obtain ⟨ht, ⟨bytes, z, hti⟩, hx', hm, hn, _, hS⟩ := IP hΓ hs hq
  obtain ⟨n, e, b, t, l, m⟩ := q
  simp only at ht hti hx' hm hn hS h
  split at h
  ·rename_i k i hy
   have hy' := ay (ρ := ρ) hy
   simp only [AV.val] at hy'
   obtain ⟨x', b1, b2⟩ := qo h
   have key : ∃ (p : Addr) (ρ1 : Nms), ax st.c ρ ρ1 ∧ (ρ1 st.c).a = p ∧ (T.get g = true → lJ (sl (some ⟨b, 0, none⟩, l.length, l.length)) i m p) ∧
     ∀ it ∈ items ρ1 T (.elm g st.c (mat t x' (st.c + 1)).1 :: ((mat t x' (st.c + 1)).2.1.map (m9 g))), it.cC = true ∧ it.P (Ctx.M (items ρ T st.G ++ (items ρ T fr.H ++ Φ))) w := by
    cases hg : T.get g
    ·refine ⟨⟨0, 0, none⟩, ρ.set st.c nm0, Nms.aF, by rw [Nms.aV]; rfl, (fun h => by cases h), fun it hit => ?_⟩
     rw [items, List.map_cons] at hit
     rcases List.mem_cons.1 hit with rfl | hit
     ·exact ⟨rfl, fun h => by rw [hg] at h; cases h⟩
     ·obtain ⟨r1, hr1, rfl⟩ := List.mem_map.1 hit
      obtain ⟨r2, hr2, rfl⟩ := List.mem_map.1 hr1
      obtain ⟨j1, t1, l1, rfl⟩ := wB _ _ _ _ hr2
      exact mI (fun h => by rw [hg] at h; cases h)
    ·obtain ⟨e1, vs, e2, e3, e4⟩ := hS.atA (b1 hg)
     obtain ⟨ρ1, m1⟩ := tK (T := T) t x' (st.c + 1) vs e3 (ρ.set st.c { nm0 with a := elA (sl (some ⟨b, 0, none⟩, l.length, l.length)) i t.rep.n })
     have ha1 : (ρ1 st.c).a = elA (sl (some ⟨b, 0, none⟩, l.length, l.length)) i t.rep.n := by rw [m1.ag _ (Nat.lt_succ_self _), Nms.aV]
     refine ⟨elA (sl (some ⟨b, 0, none⟩, l.length, l.length)) i t.rep.n, ρ1, Nms.aF.trans m1.ag (Nat.le_succ _), ha1, fun _ => by rw [hm]; exact e1, fun it hit => ?_⟩
     rw [items, List.map_cons] at hit
     rcases List.mem_cons.1 hit with rfl | hit
     ·refine ⟨rfl, fun _ => ?_⟩
      show ¬ Ctx.M _ (ρ1 st.c).a.block ∧ aI w (ρ1 st.c).a _
      rw [ha1, m1.eq]
      exact ⟨e4, e2⟩
     ·obtain ⟨r1, hr1, rfl⟩ := List.mem_map.1 hit
      obtain ⟨r2, hr2, rfl⟩ := List.mem_map.1 hr1
      have hp2 := m1.rp _ hr2
      obtain ⟨j1, t1, l1, rfl⟩ := m1.rs _ hr2
      exact mI (fun _ => hp2)
   obtain ⟨p, ρ1, k1, k2, k3, k4⟩ := key
   have hs2 := qY hs _ k4
   have eG := aE (T := T) k1 (StB.bM.1 hl).2.2.1
   -- what stands there where g does not hold does not count
   have hrun : ∀ w', Run X.P (ai ρ T st.E fr.F) (T.get g) ⟨some d, .indexAddr tt x y, ty, pos, af, gd⟩ w' (.pointer (some ((⟨b, 0, none⟩ : Addr).add (i.toNat * m)))) := fun w' =>
    qt ht hti hx' hy' (fun hg => OD (b1 hg) hn.symm)
   have hout : aA r K T fr st g (some d) ρ Φ (.pointer (some p)) w := by
    refine aA.new (ρ' := ρ1) hl b2 k1 (Nat.le_trans (Nat.le_succ _) (wc _ _ _)) rfl (by simp only [AV.val, k2]; simp [Addr.add]) ?_
    show Sat (items ρ1 T (Row.elm g st.c _ :: (_ ++ st.G)) ++ _) w
    have e8 : items ρ1 T (Row.elm g st.c (mat t x' (st.c + 1)).1 :: ((mat t x' (st.c + 1)).2.1.map (m9 g) ++ st.G)) = items ρ1 T (.elm g st.c (mat t x' (st.c + 1)).1 :: ((mat t x' (st.c + 1)).2.1.map (m9 g))) ++ items ρ1 T st.G := by
     simp [items]
    rw [e8, eG, List.append_assoc]
    exact hs2
   cases hg : T.get g
   ·exact ⟨_, fun w' => fun n a hf hg' => (by rw [hg] at hg'; cases hg'), hout⟩
   ·obtain ⟨a, len, cap, e1, _, _, e2⟩ := k3 hg
    have e3 : p = (⟨b, 0, none⟩ : Addr).add (i.toNat * m) := by
     injection e1 with e1 _ _
     cases e1
     exact e2
    subst e3
    exact ⟨_, hrun, hout⟩
  ·cases h
 ·cases h
def Ma (X : Cx) (T : Tbl) (fr : Fr) (st : StB) (d : Tmp) (t : TypeId) (x : Operand) (lo hi mx : Option Operand) (K : Go_ R) : Option R := match lo, hi, mx with
 | none, none, none => (match gaA X T fr st none t x with
  | some q => K { st with c := st.c + 1, E := bT (some d) none (.sl st.c) st.E, G := .sli none st.c q.t q.xs false :: st.G }
  | none => none)
 | _, _, _ => none
theorem OJ {t : TypeId} {x : Operand} {lo hi mx : Option Operand} (hl : st.low fr = true) (hΓ : ∀ it ∈ X.Γ, it ∈ Φ) (hs : Sat (items ρ T st.G ++ (items ρ T fr.H ++ Φ)) w) (h : Ma X T fr st d t x lo hi mx K = some r) :
  Ok2 X.P T none (ai ρ T st.E fr.F) ⟨some d, .slice t x lo hi mx, ty, pos, af, gd⟩ w (aA r K T fr st none (some d) ρ Φ) := by
 unfold Ma at h
 split at h
 ·split at h
  ·rename_i q hq
   obtain ⟨ht, ⟨bytes, z, hti⟩, hx', hm, hn, hpos, hS⟩ := IP hΓ hs hq
   rw [Tbl.get_none] at hx'
   refine .none_ (aN.gd (aN.run (HX ht hti hpos hx') ?_))
   refine aA.push (x := { nm0 with v := (some ⟨q.b, 0, none⟩, q.n, q.n) }) hl h (by simp only [AV.val, Nms.aV]; rfl) (hs.add rfl ?_)
   intro _
   rw [Nms.aV]
   exact ⟨by rw [hn]; exact hS, fun h => by cases h⟩
  ·cases h
 ·cases h
end
end Go.Proofs.YtdhgpnejphlfpaaDoor
namespace Go.Proofs.YtdhgpnejphlfpaaDoor
open Go.Lib
def sEq (P : Program) (t : TypeId) (a b : AV) : Option Bool := match P.underlying t with
 | some (.int _) => (match a, b with
  | .int k x, .int k' y => ifS (eZ k k') (some (x == y)) none
  | _, _ => none)
 | some .bool => (match a, b with
  | .bool x, .bool y => some (x == y)
  | _, _ => none)
 | some .string => (match a, b with
  | .str x, .str y => some (x == y)
  | _, _ => none)
 | _ => none
def fEq (P : Program) : List Field → Nat → List AV → List AV → Option (List Bool)
 | [], _, l1, l2 => ifS (l1.isEmpty && l2.isEmpty) (some []) none
 | f :: fs, k, l1, l2 => (match l1, l2 with
  | a :: l1, b :: l2 => ifS (f.name != "_" && Nat.beq f.offset k) (match sEq P f.type a b with
   | some r => (match fEq P fs (k + 1) l1 l2 with
    | some l => some (r :: l)
    | none => none)
   | none => none) none
  | _, _ => none)
def Ef : Bool → List Bool → Bool
 | b, [] => b
 | b, c :: l => Ef (b && c) l
def eqL : List Bool → Bool
 | [] => true
 | b :: l => Ef b l
theorem Gm : ∀ {l : List Bool} {b : Bool}, Ef b l = (b && l.foldr (· && ·) true)
 | [], b => by simp [Ef]
 | c :: l, b => by simp only [Ef, Gm, List.foldr_cons, Bool.and_assoc]
theorem PB : ∀ {l : List Bool}, eqL l = l.foldr (· && ·) true
 | [] => rfl
 | b :: l => by simp only [eqL, Gm, List.foldr_cons]
def MB (X : Cx) (T : Tbl) (E F : aj) (g : GK) : Op → CV
 | .binOp op t x y _ => (match opA T E F g x with
  | some (.agg l1) => (match opA T E F g y with
   | some (.agg l2) => (match X.P.underlying t with
    | some (.struct fs) => ifS (!(X.P.eqGuardType X.P.depth t) && !(X.P.stoodInHeld t)) (match fEq X.P fs.toList 0 l1 l2 with
     | some bs => (match op with
      | .eql => pv (.bool (eqL bs))
      | .neq => pv (.bool (!(eqL bs)))
      | _ => none)
     | none => none) none
    | _ => none)
   | _ => none)
  | _ => none)
 | _ => none
def Kq (X : Cx) (T : Tbl) (E F : aj) (g : GK) : Op → CV
 | .typeAssert x _ t true => (match X.P.underlying t with
  | some dd => ifS (!(jV dd)) (match opA T E F g x with
   | some (.ifc t' v) => ifS (Nat.beq t' t) (pv (.tuple [v, .bool true])) none
   | some (.raw .nilIface) => (match tiA X.P t with
    | some z => pv (.tuple [.raw z.2.2, .bool false])
    | none => none)
   | _ => none) none
  | none => none)
 | _ => none
def H3 (X : Cx) (T : Tbl) (E F : aj) (g : GK) : Op → CV
 | .indexAddr t x (.const (.int _ (.ofNat j))) => (match X.P.underlying t with
  | some (.array n e) => (match tiA X.P e with
   | some z => (match opA T E F g x with
    | some (.ptr id off) => ifS (Nat.blt j n) (pv (.ptr id (off + j * z.1))) none
    | _ => none)
   | none => none)
  | _ => none)
 | _ => none
def Mz (X : Cx) (T : Tbl) (E F : aj) (g : GK) (op : Op) : CV := match Lm X T E F g op with
 | some cv => some cv
 | none => (match MB X T E F g op with
  | some cv => some cv
  | none => (match Kq X T E F g op with
   | some cv => some cv
   | none => H3 X T E F g op))
section
variable {X : Cx} {T : Tbl} {E F : aj} {g : GK} {ρ : Nms} {w : World} {dst : Option Tmp} {ty : TypeId} {pos : String} {af : Array Edge} {gd : Option (Nat × Bool)}
theorem PN {P : Program} {t : TypeId} {a b : AV} {r : Bool} (d : Nat) (h : sEq P t a b = some r) : (∃ td, P.underlying t = some td ∧ ji td = false) ∧ (Op.equalIn (d + 1) t (a.val ρ) (b.val ρ)).run P w = .ok r w := by
 unfold sEq at h
 split at h
 ·rename_i k0 ht
  split at h
  ·rename_i k x k' y
   obtain ⟨h1, h2⟩ := al h
   cases h2
   have e := ja h1
   subst e
   exact ⟨⟨_, ht, rfl⟩, by simp only [AV.val]; exact run_equalIn_int w d t _ _ _ _ ht⟩
  ·cases h
 ·rename_i ht
  split at h
  ·cases h
   exact ⟨⟨_, ht, rfl⟩, by simp only [AV.val]; exact run_equalIn_bool' w d t _ _ ht⟩
  ·cases h
 ·rename_i ht
  split at h
  ·cases h
   exact ⟨⟨_, ht, rfl⟩, by simp only [AV.val]; exact Ce _ w d t _ _ ht⟩
  ·cases h
 ·cases h
theorem Jx {P : Program} {xs ys : List Value} (d : Nat) : ∀ {fs : List Field} {k : Nat} {l1 l2 : List AV} {bs : List Bool}, fEq P fs k l1 l2 = some bs → xs.drop k = AV.ae ρ l1 → ys.drop k = AV.ae ρ l2 →
  (Op.eqFields (d + 1) xs.toArray ys.toArray fs).run P w = .ok (bs.foldr (· && ·) true) w
 | [], k, l1, l2, bs, h, _, _ => by
  unfold fEq at h
  obtain ⟨_, h2⟩ := al h
  cases h2
  exact Oy
 | f :: fs, k, l1, l2, bs, h, hx, hy => by
  unfold fEq at h
  split at h
  ·rename_i a l1 b l2
   obtain ⟨h1, h2⟩ := al h
   simp only [Bool.and_eq_true] at h1
   have ho := Nat.eq_of_beq_eq_true h1.2
   split at h2
   ·rename_i r hr
    split at h2
    ·rename_i l hl
     cases h2
     obtain ⟨⟨td, t1, t2⟩, t3⟩ := PN (ρ := ρ) (w := w) d hr
     simp only [AV.ae] at hx hy
     have gx : xs[k]? = some (a.val ρ) := by rw [← List.head?_drop, hx]; rfl
     have gy : ys[k]? = some (b.val ρ) := by rw [← List.head?_drop, hy]; rfl
     refine LS h1.1 (Ic t1 t2 (by rw [ho]; exact gx)) (Ic t1 t2 (by rw [ho]; exact gy)) t3 ?_
     refine Jx d hl ?_ ?_
     ·rw [← List.drop_drop, hx]; rfl
     ·rw [← List.drop_drop, hy]; rfl
    ·cases h2
   ·cases h2
  ·cases h
theorem KS {op : Op} {cv : Option Bool × AV} (h : MB X T E F g op = some cv) : jJ X.P (ai ρ T E F) ρ (T.get g) ⟨dst, op, ty, pos, af, gd⟩ w cv := by
 unfold MB at h
 split at h
 ·rename_i bop t x y t'
  split at h
  ·rename_i l1 hx
   split at h
   ·rename_i l2 hy
    split at h
    ·rename_i fs ht
     obtain ⟨h1, h2⟩ := al h
     simp only [Bool.and_eq_true, Bool.not_eq_true'] at h1
     split at h2
     ·rename_i bs hbs
      have hx' := ay (ρ := ρ) hx
      have hy' := ay (ρ := ρ) hy
      simp only [AV.val] at hx' hy'
      have hf : X.P.fieldsOf t = fs := by simp [Program.fieldsOf, ht]
      have key : (Op.equalIn 10000 t (.agg (AV.ae ρ l1).toArray) (.agg (AV.ae ρ l2).toArray)).run X.P w = .ok (eqL bs) w := by
       rw [run_equalIn_struct w 9999 t _ _ (by rw [hf]; exact ht) h1.2, hf, PB]
       exact Jx 9998 hbs rfl rfl
      split at h2
      ·refine .pv h2 (bA hx' hy' ?_)
       rw [Sem.run_bind, run_eqGuard_agg w _ _ _ _ _ _ h1.1, Result.andThen_ok, run_eql_struct, key]
       simp only [AV.val, Result.andThen_ok]
      ·refine .pv h2 (bA hx' hy' ?_)
       rw [Sem.run_bind, run_eqGuard_agg w _ _ _ _ _ _ h1.1, Result.andThen_ok, run_neq_struct, key]
       simp only [AV.val, Result.andThen_ok]
      ·cases h2
     ·cases h2
    ·cases h
   ·cases h
  ·cases h
 ·cases h
theorem Kt {op : Op} {cv : Option Bool × AV} (h : Kq X T E F g op = some cv) : jJ X.P (ai ρ T E F) ρ (T.get g) ⟨dst, op, ty, pos, af, gd⟩ w cv := by
 unfold Kq at h
 split at h
 ·rename_i x s t
  split at h
  ·rename_i dd ht
   obtain ⟨h1, h2⟩ := al h
   have hd : jV dd = false := by simpa using h1
   split at h2
   ·rename_i t' v hx
    obtain ⟨h3, h4⟩ := al h2
    have := Nat.eq_of_beq_eq_true h3
    subst this
    have hx' := ay (ρ := ρ) hx
    simp only [AV.val] at hx'
    refine .pv h4 ?_
    simp only [AV.val, AV.ae]
    exact Ca ht hd hx'
   ·rename_i hx
    split at h2
    ·rename_i z hz
     obtain ⟨n, bytes, z⟩ := z
     have hx' := ay (ρ := ρ) hx
     simp only [AV.val] at hx'
     refine .pv h2 ?_
     simp only [AV.val, AV.ae]
     exact B5 ht hd (cH hz) hx'
    ·cases h2
   ·cases h2
  ·cases h
 ·cases h
theorem Ip {op : Op} {cv : Option Bool × AV} (h : H3 X T E F g op = some cv) : jJ X.P (ai ρ T E F) ρ (T.get g) ⟨dst, op, ty, pos, af, gd⟩ w cv := by
 unfold H3 at h
 split at h
 ·rename_i t x k j
  split at h
  ·rename_i n e ht
   split at h
   ·rename_i z hz
    obtain ⟨m, bytes, z⟩ := z
    split at h
    ·rename_i id off hx
     obtain ⟨h1, h2⟩ := al h
     have hx' := ay (ρ := ρ) hx
     simp only [AV.val] at hx'
     refine .pv h2 ?_
     have hrun := qt (P := X.P) (w := w) (dst := dst) (ty := ty) (pos := pos) (af := af) (gd := gd) (y := .const (.int k (.ofNat j))) ht (cH hz) hx' Opd.c (by
      intro _; rw [Nat.blt_eq] at h1; exact ob.2 ⟨Int.natCast_nonneg j, by simpa using h1⟩)
     have e1 : ((⟨(ρ id).b, off, none⟩ : Addr).add ((Int.ofNat j).toNat * m)) = ⟨(ρ id).b, off + j * m, none⟩ := by rw [add_plain]; rfl
     rw [e1] at hrun
     simpa only [AV.val] using hrun
    ·cases h
   ·cases h
  ·cases h
 ·cases h
theorem Kj {op : Op} {cv : Option Bool × AV} (hT : dq T E F) (h : Mz X T E F g op = some cv) : jJ X.P (ai ρ T E F) ρ (T.get g) ⟨dst, op, ty, pos, af, gd⟩ w cv := by
 unfold Mz at h
 split at h
 ·rename_i cv' hcv
  cases h
  exact K6 hT hcv
 ·split at h
  ·rename_i cv' hcv
   cases h
   exact KS hcv
  ·split at h
   ·rename_i cv' hcv
    cases h
    exact Kt hcv
   ·exact Ip h
end
end Go.Proofs.YtdhgpnejphlfpaaDoor
namespace Go.Proofs.YtdhgpnejphlfpaaDoor
open Go.Lib
def Kv (X : Cx) (T : Tbl) (E F : aj) (g : GK) : Op → CV
 | .binOp .eql t x y _ => (match X.P.underlying t with
  | some (.pointer _) => (match opA T E F g x with
   | some (.sfp _ f) => (match opA T E F g y with
    | some (.raw (.pointer none)) => pv (.bool (!f))
    | _ => none)
   | _ => none)
  | _ => none)
 | .binOp .neq t x y _ => (match X.P.underlying t with
  | some (.pointer e) => (match tiA X.P e with
   | some _ => (match opA T E F g x with
    | some (.sfp j f) => (match opA T E F g y with
     | some (.ptr j' 0) => ifS (Nat.beq j j') (pv (.bool (!f))) none
     | _ => none)
    | _ => none)
   | none => none)
  | _ => none)
 | .call ⟨.value (.func f), ⟨[x]⟩, _⟩ => ifS (ma f X.ids) (match opA T E F g x with
  | some v => pv v
  | none => none) none
 | _ => none
def J6 (X : Cx) (T : Tbl) (E F : aj) (G H : List Row) (g : GK) : Op → CV
 | .convert s d x => (match opA T E F g x with
  | some (.ptr j 0) => (match cX G H (sN j) with
   | some (_, .box _ e' cs) => (match X.P.underlying s with
    | some (.pointer e) => (match X.P.underlying d with
     | some .unsafePointer => (match tiA X.P e with
      | some z => ifS (Nat.blt 0 z.1 && Nat.blt 0 cs.length) (pv (.ptr j 0)) none
      | none => none)
     | _ => none)
    | some .unsafePointer => (match X.P.underlying d with
     | some (.pointer e) => (match tiA X.P e with
      | some _ => ifS (liesAt X.P X.P.depth e' (cs.length / X.P.cellsOf e') 0 e 1) (pv (.ptr j 0)) none
      | none => none)
     | _ => none)
    | _ => none)
   | _ => none)
  | _ => none)
 | _ => none
def GD (X : Cx) (T : Tbl) (E F : aj) (g : GK) (op : Op) : CV := match Mz X T E F g op with
 | some cv => some cv
 | none => Kv X T E F g op
def G7 (X : Cx) (T : Tbl) (E F : aj) (G H : List Row) (g : GK) (op : Op) : CV := match Mw X T E F G H g op with
 | some cv => some cv
 | none => J6 X T E F G H g op
abbrev O7 (xs ys : List Int) : List Int := xs ++ ys
def Hp {R : Type} (X : Cx) (T : Tbl) (fr : Fr) (st : StB) (d : Tmp) (t u : TypeId) (x y : Operand) (K : Go_ R) : Option R := match fF X.P t with
 | some e => (match tiA X.P e with
  | some (1, 1, .int .u8 (.ofNat 0)) => ifS (isStr X.P u) (match opA T st.E fr.F none y with
   | some (.str s) => (match opA T st.E fr.F none x with
    | some (.sl id) => (match cX st.G fr.H (j9 id) with
     | some (.top j, .own _ u' e' xs _) => ifS (Nat.beq e e') (match ny.Dyn.asL (.i .u8) ⟨.l u', xs⟩ with
      | some xs => chk (aM (List.length xs + s.length) 1) (K { st with c := st.c + 1, E := bT (some d) none (.sl st.c) st.E, G := st.G.set j (.own st.c (.i .u8) e (O7 xs (bytesOf s)) st.c) })
      | none => none) none
     | _ => none)
    | some (.raw (.slice none 0 0)) => chk (aM (([] : List Int).length + s.length) 1) (K { st with c := st.c + 1, E := bT (some d) none (.sl st.c) st.E, G := .own st.c (.i .u8) e (([] : List Int) ++ bytesOf s) st.c :: st.G })
    | _ => none)
   | _ => none) none
  | _ => none)
 | none => none
section
variable {X : Cx} {T : Tbl} {E F : aj} {G H : List Row} {g : GK} {ρ : Nms} {w : World} {dst : Option Tmp} {ty : TypeId} {pos : String} {af : Array Edge} {gd : Option (Nat × Bool)} {Φ : Ctx}
theorem Ln {op : Op} {cv : Option Bool × AV} (h : Kv X T E F g op = some cv) : jJ X.P (ai ρ T E F) ρ (T.get g) ⟨dst, op, ty, pos, af, gd⟩ w cv := by
 unfold Kv at h
 split at h
 ·rename_i t x y s
  split at h
  ·rename_i e ht
   split at h
   ·rename_i j f hx
    split at h
    ·rename_i hy
     have hx' := ay (ρ := ρ) hx
     have hy' := ay (ρ := ρ) hy
     simp only [AV.val] at hx' hy'
     exact .pv h (GG ht hx' hy')
    ·cases h
   ·cases h
  ·cases h
 ·rename_i t x y s
  split at h
  ·rename_i e ht
   split at h
   ·rename_i z hz
    obtain ⟨n, bytes, z⟩ := z
    split at h
    ·rename_i j f hx
     split at h
     ·rename_i j' hy
      obtain ⟨h1, h2⟩ := al h
      have := Nat.eq_of_beq_eq_true h1
      subst this
      have hx' := ay (ρ := ρ) hx
      have hy' := ay (ρ := ρ) hy
      simp only [AV.val] at hx' hy'
      exact .pv h2 (GY ht (cH hz) hx' hy')
     ·cases h
    ·cases h
   ·cases h
  ·cases h
 ·rename_i f x tys
  obtain ⟨h1, h2⟩ := al h
  split at h2
  ·rename_i v hx
   exact .pv h2 (Mx (X.idsOk f (DA.1 h1)) (ay (ρ := ρ) hx))
  ·cases h2
 ·cases h
theorem L4 {op : Op} {cv : Option Bool × AV} (hs : Sat (items ρ T G ++ (items ρ T H ++ Φ)) w) (h : J6 X T E F G H g op = some cv) : jJ X.P (ai ρ T E F) ρ (T.get g) ⟨dst, op, ty, pos, af, gd⟩ w cv := by
 unfold J6 at h
 split at h
 ·rename_i s d x
  split at h
  ·rename_i j hx
   split at h
   ·rename_i sr j' e' cs hf
    obtain ⟨f1, f2⟩ := bk hf
    have : j' = j := Nat.eq_of_beq_eq_true f2
    subst this
    have hb : cY w (ρ j').b e' (AV.ae ρ cs) := Src.holds hs f1
    have hx' := ay (ρ := ρ) hx
    simp only [AV.val] at hx'
    split at h
    ·rename_i e hse
     split at h
     ·rename_i hde
      split at h
      ·rename_i z hz
       obtain ⟨n, bytes, z⟩ := z
       obtain ⟨h1, h2⟩ := al h
       simp only [Bool.and_eq_true] at h1
       refine .pv h2 ?_
       simp only [AV.val]
       exact EL hse hde (cH hz) h1.1 hx' hb (by rw [AV.aK]; exact h1.2)
      ·cases h
     ·cases h
    ·rename_i hse
     split at h
     ·rename_i e hde
      split at h
      ·rename_i z hz
       obtain ⟨n, bytes, z⟩ := z
       obtain ⟨h1, h2⟩ := al h
       refine .pv h2 ?_
       simp only [AV.val]
       exact Bh hse hde (cH hz) hx' hb (by rw [AV.aK]; exact h1)
      ·cases h
     ·cases h
    ·cases h
   ·cases h
  ·cases h
 ·cases h
theorem Dy {op : Op} {cv : Option Bool × AV} (hT : dq T E F) (h : GD X T E F g op = some cv) : jJ X.P (ai ρ T E F) ρ (T.get g) ⟨dst, op, ty, pos, af, gd⟩ w cv := by
 unfold GD at h
 split at h
 ·rename_i cv' hcv
  cases h
  exact Kj hT hcv
 ·exact Ln h
theorem DQ {op : Op} {cv : Option Bool × AV} (hs : Sat (items ρ T G ++ (items ρ T H ++ Φ)) w) (h : G7 X T E F G H g op = some cv) : jJ X.P (ai ρ T E F) ρ (T.get g) ⟨dst, op, ty, pos, af, gd⟩ w cv := by
 unfold G7 at h
 split at h
 ·rename_i cv' hcv
  cases h
  exact Lu hs hcv
 ·exact L4 hs h
end
section
variable {X : Cx} {R : Type} {r : R} {K : Go_ R} {T : Tbl} {fr : Fr} {st : StB} {d : Tmp} {ρ : Nms} {Φ : Ctx} {w : World} {ty : TypeId} {pos : String} {af : Array Edge} {gd : Option (Nat × Bool)}
theorem wA {P : Program} {E : Env} {M : Nat → Prop} {v : Value} {x y : Operand} {t u e : TypeId} {R : List Nat} {xs : List Int} {s : Str} (ht : P.underlying t = some (.slice e)) (hu : P.underlying u = some .string) (hti : TI P e 1 1 (.int .u8 0)) (hx : Opd E true x v) (hy : Opd E true y (S s))
  (hO : Own (RI .u8) e M w v xs R) (hM : ∀ b ∈ R, M b) (hroom : aM (xs.length + s.length) 1 = true) :
  ∃ v' R' w', ky P E ⟨some d, .call ⟨.builtin .append, #[x, y], #[t, u]⟩, ty, pos, af, gd⟩ w v' w' ∧ Chg R w w' ∧ (∀ b ∈ R', b < w'.heap.size ∧ (b ∈ R ∨ w.heap.size ≤ b)) ∧ ∀ M', Mv M w M' w' → Own (RI .u8) e M' w' v' (xs ++ bytesOf s) R' := by
 rcases hO with ⟨rfl, ho⟩ | ⟨rfl, rfl, ⟨a0, rfl⟩, hr0⟩
 ·obtain ⟨v', w', hr, hC, hR, hO⟩ := sq t u ty e ht hu hti ho hM hroom
  exact ⟨v', blk v', w', (fun n' a hf => by simp [execOp, resolve, invoke, builtin, hx n' a hf rfl, hy n' a hf rfl, hr]), hC, hR, fun M' m => Own.of (hO M' m)⟩
 ·rcases xV (M := M) (w := w) t u ty e ht hu hti (a0 := a0) (s := s) (by simpa using hroom) with ⟨hr, rfl⟩ | ⟨v', w', hr, hE, hB, hO⟩
  ·exact ⟨.slice a0 0 0, [], w, (fun n' a hf => by simp [execOp, resolve, invoke, builtin, hx n' a hf rfl, hy n' a hf rfl, hr]), (Ext.refl w).chg _, (fun b hb => by cases hb), fun M' m => by simpa [bytesOf] using Own.empty (e := e) (hr0.mv m)⟩
  ·exact ⟨v', blk v', w', (fun n' a hf => by simp [execOp, resolve, invoke, builtin, hx n' a hf rfl, hy n' a hf rfl, hr]), hE.chg _, (fun b hb => ⟨(hB b hb).1, .inr (hB b hb).2⟩), fun M' m => Own.of (by simpa using hO M' m)⟩
theorem K4 {t u : TypeId} {x y : Operand} (hl : st.low fr = true) (hs : Sat (items ρ T st.G ++ (items ρ T fr.H ++ Φ)) w) (h : Hp X T fr st d t u x y K = some r) :
  Ok2 X.P T none (ai ρ T st.E fr.F) ⟨some d, .call ⟨.builtin .append, #[x, y], #[t, u]⟩, ty, pos, af, gd⟩ w (aA r K T fr st none (some d) ρ Φ) := by
 have hGl := (StB.bM.1 hl).2.2.1
 unfold Hp at h
 split at h
 ·rename_i e he
  split at h
  ·rename_i hz
   have hti : TI X.P e 1 1 (.int .u8 0) := cH hz
   obtain ⟨hu, h⟩ := al h
   have hu' := ku hu
   split at h
   ·rename_i s hy
    have hy' := bp (ρ := ρ) hy
    simp only [AV.val] at hy'
    split at h
    ·rename_i id hx
     have hx' := bp (ρ := ρ) hx
     simp only [AV.val] at hx'
     split at h
     ·rename_i j id' u' e' xs' ver hf
      obtain ⟨h3, h4⟩ := al h
      have := Nat.eq_of_beq_eq_true h3
      subst this
      split at h4
      ·rename_i xs hxs
       obtain ⟨eu, ex⟩ := mu hxs
       subst eu
       simp only at ex
       subst ex
       obtain ⟨h5, h6⟩ := iL h4
       obtain ⟨f1, f2⟩ := bk hf
       have : id' = id := Nat.eq_of_beq_eq_true f2
       subst this
       have hi := fc (ρ := ρ) (T := T) (Φ := items ρ T fr.H ++ Φ) f1
       obtain ⟨hO, _⟩ := hs.at_ hi
       obtain ⟨v', R', w', hr, hC, hR, hP⟩ := wA (P := X.P) (E := ai ρ T st.E fr.F) (w := w) (d := d) (ty := ty) (pos := pos) (af := af) (gd := none) (bw he) hu' hti hx' hy' hO (fun b hb => Ctx.iz hi hb) h5
       have mv0 : Mv (Ctx.M (items ρ T st.G ++ (items ρ T fr.H ++ Φ))) w (Ctx.M (items ρ T st.G ++ (items ρ T fr.H ++ Φ))) w' := ⟨hC.size, fun b hb hn => ⟨hn, hC.block b hb (fun hc => hn (Ctx.iz hi hc))⟩⟩
       have hO' := hP _ mv0
       have hv : ∃ p : SLV, v' = sl p := by
        obtain ⟨a, cap, hv⟩ := hO'.len
        exact ⟨(a, _, cap), hv⟩
       obtain ⟨p, rfl⟩ := hv
       have hj : j < st.G.length := (List.getElem?_eq_some_iff.1 f1).1
       refine .none_ (aN.gd (aN.kZ hr (aA.new (ρ' := ρ.set st.c { nm0 with v := p, y := ⟨.l (.i .u8), O7 xs' (bytesOf s)⟩ }) hl h6 Nms.aF (Nat.le_succ _) rfl (by simp only [AV.val, Nms.aV]) ?_)))
       show Sat (items _ T (st.G.set j _) ++ _) _
       rw [ei hj, aE Nms.aF hGl]
       refine hs.upd hi hC (fun b hb => ?_) (fun M' m _ => ?_)
       ·simp only [Row.item, Nms.aV] at hb
        exact hR b (hO'.canon.1 b hb)
       ·simp only [Row.item, Nms.aV]
        exact ⟨hO'.canon.2 _ _ (hP M' m), trivial⟩
      ·cases h4
     ·cases h
    ·rename_i hx
     have hx' := bp (ρ := ρ) hx
     simp only [AV.val] at hx'
     obtain ⟨h5, h6⟩ := iL h
     obtain ⟨v', R', w', hr, hC, hR, hP⟩ := wA (P := X.P) (E := ai ρ T st.E fr.F) (w := w) (d := d) (ty := ty) (pos := pos) (af := af) (gd := none) (M := Ctx.M (items ρ T st.G ++ (items ρ T fr.H ++ Φ))) (xs := ([] : List Int)) (bw he) hu' hti hx' hy' Own.nil (fun b hb => by cases hb) h5
     have hE : Ext w w' := ⟨hC.os, hC.tape, hC.output, hC.size, fun b hb => hC.block b hb (fun h => by cases h)⟩
     have hO' := hP _ (hE.mv _)
     have hv : ∃ p : SLV, v' = sl p := by
      obtain ⟨a, cap, hv⟩ := hO'.len
      exact ⟨(a, _, cap), hv⟩
     obtain ⟨p, rfl⟩ := hv
     refine .none_ (aN.gd (aN.kZ hr ?_))
     exact oF (d := d) (t := .i .u8) (e := e) (p := p) hl hGl hs hE (fun b hb => by
      obtain ⟨q1, q2⟩ := hR b (hO'.canon.1 b hb)
      rcases q2 with q2 | q2
      ·cases q2
      ·exact ⟨q1, q2⟩) (fun M' m => hO'.canon.2 _ _ (hP M' m)) rfl h6
    ·cases h
   ·cases h
  ·cases h
 ·cases h
def Cp {R : Type} (T : Tbl) (fr : Fr) (st : StB) (d : Tmp) (x : Operand) (K : Go_ R) : Option R := match opA T st.E fr.F none x with
 | some (.sl id) => (match cX st.G fr.H (j9 id) with
  | some (_, .own _ t _ l ver) => PA T none st d id ver t l 0 K
  | _ => none)
 | _ => none
def Hv {R : Type} (X : Cx) (T : Tbl) (fr : Fr) (st : StB) (d : Tmp) (pt : TypeId) (x y : Operand) (K : Go_ R) : Option R := match X.P.underlying pt with
 | some (.pointer e) => ifS (Nat.beq (X.P.cellsOf e) 1) (match opA T st.E fr.F none x with
  | some (.adr q 0) => (match opA T st.E fr.F none y with
   | some (.int .i64 m) => (match cX st.G fr.H (y4 q) with
    | some (_, .kn none _ id ver _ i _) => (match cX st.G fr.H (j9 id) with
     | some (.top j, .own _ u e' xs ver') => ifS (Nat.beq ver ver' && Nat.beq e e') (match ny.Dyn.asL (.i .u8) ⟨.l u, xs⟩ with
      | some xs => chk (decide (i = 0) && decide (m = (List.length xs : Int))) (K { st with E := bT (some d) none (.str (strOf xs)) st.E, G := st.G.set j (.sli none id (.i .u8) xs false) })
      | none => none) none
     | _ => none)
    | _ => none)
   | _ => none)
  | _ => none) none
 | _ => none
theorem Own.IJ {α : Type} {A : Rep α} {e : TypeId} {M : Nat → Prop} {w : World} {v : Value} {xs : List α} {R : List Nat} (h : Own A e M w v xs R) (h0 : xs ≠ []) : Roomy v := by
 rcases h with ⟨_, cells, h1, _⟩ | ⟨_, rfl, _⟩
 ·rcases h1.2 with ⟨_, hz⟩ | ⟨g, cap, cur, rfl, _, _, hc, _⟩
  ·exact absurd (List.eq_nil_of_length_eq_zero hz) h0
  ·obtain ⟨k, rfl⟩ : ∃ k, cap = k + 1 := ⟨cap - 1, by have := List.length_pos_iff.2 h0; omega⟩
   exact ⟨g, _, k, rfl⟩
 ·exact absurd rfl h0
theorem BV {v : SLV} {n : Nat} (h : Roomy (sl v)) : v.1 = some (elA (sl v) 0 n) := by
 obtain ⟨b, len, cap, e⟩ := h
 obtain ⟨v1, v2, v3⟩ := v
 simp only [sl, Value.slice.injEq] at e
 obtain ⟨rfl, rfl, rfl⟩ := e
 simp [sl, elA, Addr.add]
theorem IG {α : Type} {l : List α} {i : Int} {x : α} (h : idx l i = some x) : l ≠ [] := fun e => by
 subst e
 unfold idx at h
 split at h <;> cases h
theorem DU {x : Operand} {ts : Array TypeId} (hl : st.low fr = true) (hs : Sat (items ρ T st.G ++ (items ρ T fr.H ++ Φ)) w) (h : Cp T fr st d x K = some r) :
  Okq X.P T none (ai ρ T st.E fr.F) ⟨some d, .call ⟨.builtin .unsafeSliceData, #[x], ts⟩, ty, pos, af, gd⟩ w (aA r K T fr st none (some d) ρ Φ) := by
 unfold Cp at h
 split at h
 ·rename_i id hx
  have hx' := bp (ρ := ρ) hx
  simp only [AV.val] at hx'
  split at h
  ·rename_i s id' t e' l ver hf
   obtain ⟨f1, f2⟩ := bk hf
   have : id' = id := Nat.eq_of_beq_eq_true f2
   subst this
   obtain ⟨x', b1, b2⟩ := qo h
   have b1 := b1 Tbl.get_none
   obtain ⟨hO, hy2⟩ := Src.holds hs f1
   have hrow : id' < st.c ∧ ver < st.c := by
    have : (Row.own id' t e' l ver).low st.c = true := by
     cases s with
     | top j => exact mE (StB.bM.1 hl).2.2.1 f1
     | frz j => exact mE (StB.bM.1 hl).2.2.2 f1
     | _ => exact f1.elim
    simpa only [Row.low, Bool.and_eq_true, Nat.blt_eq] using this
   have hr := hO.IJ (IG b1)
   have hout : aA r K T fr st none (some d) ρ Φ (.pointer (some (elA (sl (ρ id').v) 0 t.rep.n))) w := by
    refine aA.push (x := { nm0 with a := elA (sl (ρ id').v) 0 t.rep.n }) hl b2 (by simp only [AV.val, Nms.aV]; simp [Addr.add]) (hs.add rfl ?_)
    intro hg
    rw [Nms.aF _ hrow.1, Nms.aF _ hrow.2, Nms.aV]
    exact ⟨l, hy2, b1, rfl⟩
   refine ⟨_, fun w' => ?_, hout⟩
   rw [← BV hr]
   rw [Tbl.get_none]
   exact Jw (g := true) hx' (fun _ => hr)
  ·cases h
 ·cases h
theorem MA {P : Program} {E : Env} {v : SLV} {x y : Operand} {pt it e : TypeId} {M : Nat → Prop} {R : List Nat} {xs : List Int} (hO : Own (RI .u8) e M w (sl v) xs R) (hp : P.underlying pt = some (.pointer e)) (hc : P.cellsOf e = 1)
  (hx : Opd E true x (.pointer v.1)) (hy : Opd E true y (.int .i64 (xs.length : Int))) (h0 : xs ≠ []) :
  ∃ w', ky P E ⟨some d, .call ⟨.builtin .unsafeString, #[x, y], #[pt, it]⟩, ty, pos, af, gd⟩ w (S (strOf xs)) w' ∧ Chg R w w' ∧ ∀ M', Mv M w M' w' → (∀ b ∈ R, ¬ M' b) → SRd (RI .u8) M' w' (sl v) xs := by
 have hl0 : xs.length ≠ 0 := fun e => h0 (List.eq_nil_of_length_eq_zero e)
 rcases hO with ⟨hR, cells, ⟨h1, h2⟩, hr⟩ | ⟨_, rfl, _⟩
 ·rcases h2 with ⟨_, hz⟩ | ⟨g, cap, cur, h3, hg, hh, hcap, hm, hcs, htk⟩
  ·exact absurd hz hl0
  ·obtain ⟨v1, v2, v3⟩ := v
   simp only [sl, Value.slice.injEq] at h3
   obtain ⟨rfl, rfl, rfl⟩ := h3
   have hn1 : (RI .u8).n = 1 := rfl
   have hcs' : cur.size = v3 := by simpa [hn1] using hcs
   have hsh : w.shape? g = some (e, cur.size) := by unfold World.shape?; rw [hh]
   have hcell : ∀ (j : Nat) (a : Int), xs[j]? = some a → w.cell? ((⟨g, 0, none⟩ : Addr).add j) = some (.int .u8 a) := fun j a hj => by
    have hjl := (List.getElem?_eq_some_iff.1 hj).1
    have hA := hr.2 j hjl
    have ha : xs[j] = a := (List.getElem?_eq_some_iff.1 hj).2
    have hcj : cells[j]? = some (.int .u8 a) := by
     have e1 : (cells.drop (j * 1)).take 1 = [.int .u8 a] := by rw [← ha]; exact hA
     have e2 := congrArg (fun l => l[0]?) e1
     simpa using e2
    have key : aI w ⟨g, 0, none⟩ cells := ⟨rfl, cur, e, (0, 0), hh, fun j u hj => by
     rw [← htk, List.getElem?_take] at hj
     split at hj
     ·simpa using hj
     ·cases hj⟩
    exact key.cell hcj
   have hmx : xs.length ≤ 9223372036854775807 := by unfold maxLen at hm; omega
   have hrun : (Builtin.unsafeString_ #[pt, it] ty #[.pointer (some ⟨g, 0, none⟩), .int .i64 xs.length]).run P w = .ok (S (strOf xs)) (w.freeze ⟨g, 0, none⟩ xs.length) := by
    have hlb := tv (P := P) (w := w) xs ⟨g, 0, none⟩ .empty hcell
    have hlies := Lib.liesAt_bytes (P := P) hc (cur.size / P.cellsOf e) xs.length (by rw [hc, hcs']; simpa using hcap)
    have h63' : ¬ (9223372036854775807 : Int) < (xs.length : Int) := by omega
    have hmax : IntKind.i64.max = 9223372036854775807 := rfl
    have hneg : ¬ (xs.length : Int) < 0 := by omega
    refine (Sem.run_bind (P := P) (w := w) (asInt (.int .i64 xs.length)) _).trans ?_
    simp [asInt, asIntOf, hmax, h63', hneg, hl0, variablesAt, hsh, elemOf, run_underlying hp, hlies, hlb, S]
   have hw : (w.freeze ⟨g, 0, none⟩ xs.length).heap[g]? = some (.cells cur e (0, xs.length)) := by
    unfold World.freeze
    rw [if_neg hl0]
    simp [Array.getElem?_modify, hh]
   have hRg : R = [g] := by rw [hR]; simp [blk, Value.ownBlock, sl]
   refine ⟨w.freeze ⟨g, 0, none⟩ xs.length, fun n' a hf => by simp [execOp, resolve, invoke, builtin, hx n' a hf rfl, hy n' a hf rfl, hrun], ?_, fun M' m hb => ?_⟩
   ·rw [hRg]
    unfold World.freeze
    rw [if_neg hl0]
    refine ⟨rfl, rfl, rfl, by simp, fun c _ hcb => ?_⟩
    have : g ≠ c := fun e => hcb (by simp [e])
    simp [Array.getElem?_modify, this]
   ·refine .inr ⟨g, 0, v3, cur, e, _, rfl, hb g (by rw [hRg]; simp), hw, hcap, by rw [Nat.zero_add]; exact Nat.le_of_eq hcs.symm, ?_⟩
    rw [List.drop_zero, htk]
    exact hr.mv m
 ·exact absurd rfl h0
theorem J2 {x y : Operand} {pt it : TypeId} (_hl : st.low fr = true) (hs : Sat (items ρ T st.G ++ (items ρ T fr.H ++ Φ)) w) (h : Hv X T fr st d pt x y K = some r) :
  Ok2 X.P T none (ai ρ T st.E fr.F) ⟨some d, .call ⟨.builtin .unsafeString, #[x, y], #[pt, it]⟩, ty, pos, af, gd⟩ w (aA r K T fr st none (some d) ρ Φ) := by
 unfold Hv at h
 split at h
 ·rename_i e hp
  obtain ⟨hc, h⟩ := al h
  have hc := Nat.eq_of_beq_eq_true hc
  split at h
  ·rename_i q hx
   have hx' := bp (ρ := ρ) hx
   simp only [AV.val] at hx'
   split at h
   ·rename_i m hy
    have hy' := bp (ρ := ρ) hy
    simp only [AV.val] at hy'
    split at h
    ·rename_i s1 q' id ver u1 i xe hf1
     obtain ⟨f1, f2⟩ := bk hf1
     have : q' = q := Nat.eq_of_beq_eq_true f2
     subst this
     have hF := Src.holds hs f1
     split at h
     ·rename_i j id' u e' xs' ver' hf
      obtain ⟨f3, f4⟩ := bk hf
      have : id' = id := Nat.eq_of_beq_eq_true f4
      subst this
      obtain ⟨h3, h4⟩ := al h
      simp only [Bool.and_eq_true] at h3
      have e1 := Nat.eq_of_beq_eq_true h3.1
      have e2 := Nat.eq_of_beq_eq_true h3.2
      subst e1; subst e2
      split at h4
      ·rename_i xs hxs
       obtain ⟨eu, ex⟩ := mu hxs
       subst eu
       subst ex
       obtain ⟨h5, h6⟩ := iL h4
       simp only [Bool.and_eq_true, decide_eq_true_eq] at h5
       obtain ⟨rfl, rfl⟩ := h5
       have hi := fc (ρ := ρ) (T := T) (Φ := items ρ T fr.H ++ Φ) f3
       obtain ⟨hO, hy2⟩ := hs.at_ hi
       obtain ⟨l0, b1, b2, b3⟩ := hF Tbl.get_none
       obtain ⟨e4, e5⟩ := xK b1 hy2
       cases e4
       cases e5
       have hne := IG b2
       have hr := hO.IJ hne
       have hx2 : Opd (ai ρ T st.E fr.F) true x (.pointer (ρ id').v.1) := by
        rw [BV (n := (Ty.i .u8).rep.n) hr, ← b3]
        simpa [Addr.add] using hx'
       obtain ⟨w', hrun, hC, hP⟩ := MA (P := X.P) (d := d) (ty := ty) (pos := pos) (af := af) (gd := gd) (it := it) hO hp hc hx2 hy' hne
       have hj : j < st.G.length := (List.getElem?_eq_some_iff.1 f3).1
       refine .none_ (aN.gd (aN.kZ hrun (aA.old h6 (Nat.le_refl _) rfl rfl ?_)))
       show Sat (items _ T (st.G.set j _) ++ _) _
       rw [ei hj]
       exact hs.upd hi hC (fun b hb => by cases hb) (fun M' m hb _ => ⟨hP M' m (fun b hb' => hb b hb' (fun h => by cases h)), fun h => by cases h⟩)
      ·cases h4
     ·cases h
    ·cases h
   ·cases h
  ·cases h
 ·cases h
def GO {R : Type} (X : Cx) (T : Tbl) (fr : Fr) (st : StB) (g : GK) (d : Tmp) (t : TypeId) (x : Operand) (K : Go_ R) : Option R := match fF X.P t with
 | some _ => (match opA T st.E fr.F g x with
  | some (.sl id) => (match slA st.G fr.H id with
   | some s => ifS (T.imp g s.g) (K { st with E := bT (some d) g (.int .i64 (s.l.length : Int)) st.E }) none
   | none => none)
  | _ => none)
 | none => none
theorem KZ {g : GK} {t : TypeId} {x : Operand} (hs : Sat (items ρ T st.G ++ (items ρ T fr.H ++ Φ)) w) (h : GO X T fr st g d t x K = some r) :
  Okq X.P T g (ai ρ T st.E fr.F) ⟨some d, .call ⟨.builtin .len, #[x], #[t]⟩, ty, pos, af, gd⟩ w (aA r K T fr st g (some d) ρ Φ) := by
 unfold GO at h
 split at h
 ·rename_i e he
  split at h
  ·rename_i id hx
   have hx' := ay (ρ := ρ) hx
   simp only [AV.val] at hx'
   split at h
   ·rename_i s hsl
    obtain ⟨h1, h2⟩ := al h
    exact ⟨_, fun w' => HL (bw he) hx' (fun hg => AS hs hsl (Tbl.gR h1 hg)), aA.old h2 (Nat.le_refl _) rfl rfl hs⟩
   ·cases h
  ·cases h
 ·cases h
end
end Go.Proofs.YtdhgpnejphlfpaaDoor
namespace Go.Proofs.YtdhgpnejphlfpaaDoor
open Go.Lib
abbrev gone {R : Type} (g : GK) (k : Option R) : Option R := match g with
 | none => k
 | some _ => none
def Jl {R : Type} (X : Cx) (T : Tbl) (fr : Fr) (st : StB) (t : TypeId) (x y : Operand) (K : Go_ R) : Option R := match opA T st.E fr.F none x with
 | some (.ptr id off) => (match opA T st.E fr.F none y with
  | some v => EK X.P st t id off v K
  | none => none)
 | some (.adr q off) => (match opA T st.E fr.F none y with
  | some v => DH X.P fr st t q off v K
  | none => none)
 | _ => none
def MC {R : Type} (X : Cx) (T : Tbl) (fr : Fr) (st : StB) (g : GK) (d : Tmp) (t : TypeId) (x : Operand) (K : Go_ R) : Option R := match opA T st.E fr.F g x with
 | some (.adr q off) => Aj X T fr st g d t q off K
 | _ => none
def PW {R : Type} (X : Cx) (T : Tbl) (fr : Fr) (st : StB) (g : GK) (b : Builtin) (d : Option Tmp) (xs : List Operand) (ts : List TypeId) (K : Go_ R) : Option R := match b, xs, ts, d with
 | .append, [x, y], [t, u], some d => gone g (ifS (Nat.beq t u) (KU X T fr st d t x y K) (Hp X T fr st d t u x y K))
 | .unsafeSliceData, [x], _, some d => gone g (Cp T fr st d x K)
 | .unsafeString, [x, y], [pt, _], some d => gone g (Hv X T fr st d pt x y K)
 | _, _, _, _ => none
def LF {R : Type} (X : Cx) (tb : List Ent) (T : Tbl) (fr : Fr) (st : StB) (g : GK) (d : Option Tmp) (c : Callee) (xs : List Operand) (ts : List TypeId) (K : Go_ R) : Option R := match c with
 | .builtin b => PW X T fr st g b d xs ts K
 | .value fo => (match opA T st.E fr.F g fo with
  | some (.fn f a b) => (match ov T st.E fr.F g xs with
   | some vs => zu T fr st g d f (a ++ vs ++ b) K tb
   | none => none)
  | _ => none)
 | _ => none
noncomputable def opN {R : Type} (X : Cx) (tb : List Ent) (T : Tbl) (fr : Fr) (st : StB) (g : GK) (op : Op) (dst : Option Tmp) (K : Go_ R) : Option R := match op, dst with
 | .indexAddr t x y, some d => (match fF X.P t with
  | some _ => Ig X T fr st g d t x y K
  | none => (match opA T st.E fr.F g x with
   | some (.gp _) => Ch X T fr st g d t x y K
   | _ => gone g (Lt X T fr st d t x y K)))
 | .slice t x lo hi mx, some d => (match fF X.P t with
  | some _ => GN X T fr st g d t x lo hi mx K
  | none => gone g (Ma X T fr st d t x lo hi mx K))
 | .alloc t, some d => gone g (Em X st d t K)
 | .box t x, some d => gone g (Mh T fr st d t x K)
 | .store t x y, none => gone g (Jl X T fr st t x y K)
 | .load t x, some d => MC X T fr st g d t x K
 | .buildSlice t n ps, some d => KV X T fr st g d t n ps.toList K
 | .makeSlice t x y, some d => gone g (GJ X T fr st d t x y K)
 | .makeMap t none, some d => gone g (Ht X st d t K)
 | .mapUpdate t x y z, none => gone g (GX X T fr st t x y z K)
 | .range t x, some d => gone g (L8 X T fr st d t x K)
 | .next x true, some d => gone g (Km T fr st d x K)
 | .convert s dt x, some d => La X T fr st g d s dt x K
 | .binOp op t x y _, some d => gone g (Li X T fr st d op t x y K)
 | .call c, d => LF X tb T fr st g d c.callee c.args.toList c.argTypes.toList K
 | _, _ => none
noncomputable def opD {R : Type} (X : Cx) (tb : List Ent) (T : Tbl) (fr : Fr) (st : StB) (g : GK) (o : Oper) (K : Go_ R) : Option R :=
 match GD X T st.E fr.F g o.op with
 | some cv => va cv.1 (g.map fun _ => T.get g) (K { st with E := bT o.dst g cv.2 st.E })
 | none => match G7 X T st.E fr.F st.G fr.H g o.op with
  | some cv => va cv.1 (g.map fun _ => T.get g) (K { st with E := bT o.dst g cv.2 st.E })
  | none => ifS (st.low fr) (opN X tb T fr st g o.op o.dst K) none
section
variable {X : Cx} {tb : List Ent} {R : Type} {r : R} {K : Go_ R} {T : Tbl} {fr : Fr} {st : StB} {g : GK} {ρ : Nms} {Φ : Ctx} {w : World} {ty : TypeId} {pos : String} {af : Array Edge} {gd : Option (Nat × Bool)}
theorem dz {k : Option R} (h : gone g k = some r) : g = none ∧ k = some r := by
 cases g with
 | none => exact ⟨rfl, h⟩
 | some _ => cases h
theorem yy {d : Option Tmp} {f : FuncId} {fo : Operand} {xs : List Operand} {tys : Array TypeId} {a b vs : List AV} (hl : st.low fr = true) (hs : Sat (items ρ T st.G ++ (items ρ T fr.H ++ Φ)) w) (hΓ : ∀ it ∈ X.Γ, it ∈ Φ)
  (hfo : opA T st.E fr.F g fo = some (.fn f a b)) (hxs : ov T st.E fr.F g xs = some vs) : ∀ {tb : List Ent}, (∀ e ∈ tb, e.Ok X.P X.Γ) → zu T fr st g d f (a ++ vs ++ b) K tb = some r →
  Ok2 X.P T g (ai ρ T st.E fr.F) ⟨d, .call ⟨.value fo, xs.toArray, tys⟩, ty, pos, af, gd⟩ w (aA r K T fr st g d ρ Φ)
 | [], _, h => by cases h
 | e :: tb, htb, h => by
  unfold zu at h
  rcases cW h with ⟨h1, h2⟩ | ⟨_, h2⟩
  ·split at h2
   ·rename_i r' hr'
    subst h2
    have := Nat.eq_of_beq_eq_true h1
    subst this
    exact Ls hl hs (htb e (List.mem_cons_self ..)) hΓ hfo hxs hr'
   ·exact yy hl hs hΓ hfo hxs (fun e he => htb e (List.mem_cons_of_mem _ he)) h2
  ·exact yy hl hs hΓ hfo hxs (fun e he => htb e (List.mem_cons_of_mem _ he)) h2
theorem Ng {d : Option Tmp} {c : Callee} {xs : Array Operand} {ts : Array TypeId} (hl : st.low fr = true) (hs : Sat (items ρ T st.G ++ (items ρ T fr.H ++ Φ)) w) (hΓ : ∀ it ∈ X.Γ, it ∈ Φ) (htb : ∀ e ∈ tb, e.Ok X.P X.Γ)
  (h : LF X tb T fr st g d c xs.toList ts.toList K = some r) : Ok2 X.P T g (ai ρ T st.E fr.F) ⟨d, .call ⟨c, xs, ts⟩, ty, pos, af, gd⟩ w (aA r K T fr st g d ρ Φ) := by
 obtain ⟨xs⟩ := xs
 obtain ⟨ts⟩ := ts
 unfold LF at h
 split at h
 ·unfold PW at h
  split at h
  ·rename_i x y t u d' e1 e2
   simp only at e1 e2; subst e1; subst e2
   obtain ⟨rfl, h1⟩ := dz h
   rcases cW h1 with ⟨h2, h3⟩ | ⟨_, h3⟩
   ·have := Nat.eq_of_beq_eq_true h2
    subst this
    exact ON hl hs h3
   ·exact K4 hl hs h3
  ·rename_i x d' e1
   simp only at e1; subst e1
   obtain ⟨rfl, h1⟩ := dz h
   exact (DU hl hs h1).ok2
  ·rename_i x y pt it d' e1 e2
   simp only at e1 e2; subst e1; subst e2
   obtain ⟨rfl, h1⟩ := dz h
   exact J2 hl hs h1
  ·cases h
 ·split at h
  ·rename_i f a b hfo
   split at h
   ·rename_i vs hxs
    exact yy hl hs hΓ hfo hxs htb h
   ·cases h
  ·cases h
 ·cases h
theorem PS {op : Op} {dst : Option Tmp} (hl : st.low fr = true) (hs : Sat (items ρ T st.G ++ (items ρ T fr.H ++ Φ)) w) (hΓ : ∀ it ∈ X.Γ, it ∈ Φ) (htb : ∀ e ∈ tb, e.Ok X.P X.Γ)
  (h : opN X tb T fr st g op dst K = some r) : Ok2 X.P T g (ai ρ T st.E fr.F) ⟨dst, op, ty, pos, af, gd⟩ w (aA r K T fr st g dst ρ Φ) := by
 unfold opN at h
 split at h
 ·split at h
  ·exact (FJ hl hs h).ok2
  ·split at h
   ·exact (D7 hl hΓ hs h).ok2
   ·obtain ⟨rfl, h1⟩ := dz h; exact NY hs h1
 ·split at h
  ·exact (F1 hl hs h).ok2
  ·obtain ⟨rfl, h1⟩ := dz h; exact OJ hl hΓ hs h1
 ·obtain ⟨rfl, h1⟩ := dz h; exact JP hl hs h1
 ·obtain ⟨rfl, h1⟩ := dz h; exact Oz hl hs h1
 ·obtain ⟨rfl, h1⟩ := dz h
  unfold Jl at h1
  split at h1
  ·rename_i id off hx
   split at h1
   ·rename_i v hv; exact .none_ (JM hs hx hv h1)
   ·cases h1
  ·rename_i id off hx
   split at h1
   ·rename_i v hv; exact .none_ (IW hl hs hx hv h1)
   ·cases h1
  ·cases h1
 ·unfold MC at h
  split at h
  ·rename_i q off hx; exact KD hl hs hx h
  ·cases h
 ·exact Om hl hs h
 ·obtain ⟨rfl, h1⟩ := dz h; exact LN hl hs h1
 ·obtain ⟨rfl, h1⟩ := dz h; exact Lf hl hs h1
 ·obtain ⟨rfl, h1⟩ := dz h; exact Lr hs h1
 ·obtain ⟨rfl, h1⟩ := dz h; exact OB hl hs h1
 ·obtain ⟨rfl, h1⟩ := dz h; exact Nx hs h1
 ·exact NJ hl hs h
 ·obtain ⟨rfl, h1⟩ := dz h; exact NX hs h1
 ·exact Ng hl hs hΓ htb h
 ·cases h
theorem Pk {o : Oper} (hT : dq T st.E fr.F) (hs : Sat (items ρ T st.G ++ (items ρ T fr.H ++ Φ)) w) (hΓ : ∀ it ∈ X.Γ, it ∈ Φ) (htb : ∀ e ∈ tb, e.Ok X.P X.Γ)
  (h : opD X tb T fr st g o K = some r) : Ok2 X.P T g (ai ρ T st.E fr.F) o w (aA r K T fr st g o.dst ρ Φ) := by
 obtain ⟨dst, op, ty, pos, af, gd⟩ := o
 unfold opD at h
 simp only at h
 split at h
 ·rename_i cv hcv
  obtain ⟨h1, h2⟩ := kK h
  exact Okq.ok2 ⟨_, fun w' => Dy hT hcv h1, aA.old h2 (Nat.le_refl _) rfl rfl hs⟩
 ·split at h
  ·rename_i cv hcv
   obtain ⟨h1, h2⟩ := kK h
   have hr := DQ (dst := dst) (ty := ty) (pos := pos) (af := af) (gd := gd) hs hcv h1
   have hout : aA r K T fr st g dst ρ Φ (cv.2.val ρ) w := aA.old h2 (Nat.le_refl _) rfl rfl hs
   exact ⟨fun hg => aN.run (by rwa [hg] at hr) hout, fun _ => ⟨_, hout⟩⟩
  ·obtain ⟨h1, h2⟩ := al h
   exact PS h1 hs hΓ htb h2
end
/-! guards -/
def Row.gd : Row → GK
 | .sli g _ _ _ _ | .elm g _ _ | .kn g _ _ _ _ _ _ => g
 | _ => none
theorem Row.qV {ρ : Nms} {T T' : Tbl} {r : Row} (h : T'.get r.gd = T.get r.gd) : r.item ρ T' = r.item ρ T := by
 cases r <;> simp only [Row.gd] at h <;> simp only [Row.item, h]
def qR (k : Nat × Bool) (g : GK) : Bool := !(GK.eq (some k) g)
def vo (k : Nat × Bool) : aj → Bool
 | [] => true
 | x :: E => qR k x.2.1 && vo k E
def y8 (k : Nat × Bool) : List Row → Bool
 | [] => true
 | r :: G => qR k r.gd && y8 k G
def HN (k : Nat × Bool) : Tbl → Bool
 | [] => true
 | x :: T => qR k (some x.1) && qR k x.2.1 && HN k T
theorem oE {k : Nat × Bool} {par : GK} {rj : Nat} {b : Bool} {T : Tbl} {g : GK} (h : qR k g = true) : Tbl.get ((k, par, rj, b) :: T) g = T.get g := Tbl.ym h
theorem yU {ρ : Nms} {k : Nat × Bool} {par : GK} {rj : Nat} {b : Bool} {T : Tbl} : {E : aj} → vo k E = true → aj.env ρ ((k, par, rj, b) :: T) E = aj.env ρ T E
 | [], _ => rfl
 | (t, g, v) :: E, h => by
  simp only [vo, Bool.and_eq_true] at h
  simp only [aj.env]
  rw [oE h.1, yU h.2]
theorem u4 {ρ : Nms} {k : Nat × Bool} {par : GK} {rj : Nat} {b : Bool} {T : Tbl} : {G : List Row} → y8 k G = true → items ρ ((k, par, rj, b) :: T) G = items ρ T G
 | [], _ => rfl
 | r :: G, h => by
  simp only [y8, Bool.and_eq_true] at h
  simp only [items, List.map_cons]
  rw [Row.qV (oE h.1)]
  have := u4 (ρ := ρ) (par := par) (rj := rj) (b := b) (T := T) h.2
  simp only [items] at this
  rw [this]
theorem wS {k : Nat × Bool} : {E : aj} → vo k E = true → {t : Nat} → {x : GK × AV} → aH E t = some x → qR k x.1 = true
 | [], _, _, _, h => by cases h
 | (r, g, v) :: E, h, t, x, hx => by
  simp only [vo, Bool.and_eq_true] at h
  unfold aH at hx
  rcases cW hx with ⟨_, h2⟩ | ⟨_, h2⟩
  ·cases h2; exact h.1
  ·exact wS h.2 h2
def za (k : Nat × Bool) : Tbl → Bool
 | [] => false
 | x :: T => GK.eq (some k) (some x.1) || za k T
def jC (d : Option Tmp) : Tbl → Bool
 | [] => true
 | x :: T => (match d with
  | none => true
  | some d => !(Nat.beq d x.2.2.1)) && jC d T
def jW (ops : List Oper) (n : Nat) (T : Tbl) : Prop := ∀ x, x ∈ T → (ops[x.1.1]?).bind (·.dst) = some x.2.2.1 ∧ Nat.blt x.2.2.1 n = true
def FT (T : Tbl) (fr : Fr) : Prop := (∀ x, x ∈ fr.F → T.get x.2.1 = Tbl.get [] x.2.1) ∧ ∀ r, r ∈ fr.H → T.get r.gd = Tbl.get [] r.gd
def stepG {R : Type} (ops : List Oper) (T : Tbl) (fr : Fr) (st : StB) (o : Oper) (run : Tbl → GK → Option R) : Option R :=
 ifS (gq o && vV fr.n o.dst) (match o.guard with
 | none => ifS ( jC o.dst T ) ( run T none ) none
 | some k => ifS ( za k T ) ( ifS ( jC o.dst T ) ( run T (some k) ) none ) <| match ops[k.1]? with
  | some oj => (match oj.dst with
   | some rj => (match cN st.E fr.F rj with
    | some (par, .bool b) => ifS ( Nat.blt rj fr.n && vo k st.E && vo k fr.F && y8 k st.G && y8 k fr.H && HN k T && jC o.dst ((k, par, rj, b) :: T) ) ( run ((k, par, rj, b) :: T) (some k) ) none
    | _ => none)
   | none => none)
  | none => none) none
structure JZ (ops : List Oper) (fr0 fr : Fr) (st : StB) (ρ : Nms) (o : Oper) (T T' : Tbl) (g : GK) : Prop where
 pl : gq o = true
 ds : vV fr.n o.dst = true
 t1 : dq T' st.E fr.F
 t2 : jW ops fr.n T'
 ft : FT T' fr0
 ak : jC o.dst T' = true
 ee : aj.env ρ T' st.E = aj.env ρ T st.E
 ef : aj.env ρ T' fr.F = aj.env ρ T fr.F
 eg : items ρ T' st.G = items ρ T st.G
 eh : items ρ T' fr.H = items ρ T fr.H
 gg : o.guard = g
 gk : ∀ k, g = some k → ∃ rj par b, (ops[k.1]?).bind (·.dst) = some rj ∧ look (ai ρ T' st.E fr.F) rj = some (T'.get par, .bool b) ∧ Nat.blt rj fr.n = true ∧ (T'.get par && (b == k.2)) = T'.get g
theorem Gn {k : Nat × Bool} : {T : Tbl} → za k T = true → ∃ x, x ∈ T ∧ x.1 = k
 | [], h => by cases h
 | x :: T, h => by
  simp only [za, Bool.or_eq_true] at h
  rcases h with h | h
  ·have := GK.eq_eq h
   cases this
   exact ⟨x, List.mem_cons_self .., rfl⟩
  ·obtain ⟨y, h1, h2⟩ := Gn h
   exact ⟨y, List.mem_cons_of_mem _ h1, h2⟩
theorem FB {k : Nat × Bool} : {T : Tbl} → HN k T = true → ∀ x, x ∈ T → qR k (some x.1) = true ∧ qR k x.2.1 = true
 | [], _, x, h => by cases h
 | y :: T, h, x, hx => by
  simp only [HN, Bool.and_eq_true] at h
  rcases List.mem_cons.1 hx with rfl | hx
  ·exact h.1
  ·exact FB h.2 x hx
theorem Fw {k : Nat × Bool} : {E : aj} → vo k E = true → ∀ x, x ∈ E → qR k x.2.1 = true
 | [], _, x, h => by cases h
 | y :: T, h, x, hx => by
  simp only [vo, Bool.and_eq_true] at h
  rcases List.mem_cons.1 hx with rfl | hx
  ·exact h.1
  ·exact Fw h.2 x hx
theorem Fo {k : Nat × Bool} : {E : List Row} → y8 k E = true → ∀ x, x ∈ E → qR k x.gd = true
 | [], _, x, h => by cases h
 | y :: T, h, x, hx => by
  simp only [y8, Bool.and_eq_true] at h
  rcases List.mem_cons.1 hx with rfl | hx
  ·exact h.1
  ·exact Fo h.2 x hx
theorem Cz {R : Type} {r : R} {ops : List Oper} {T : Tbl} {fr0 fr : Fr} {st : StB} {o : Oper} {run : Tbl → GK → Option R} {ρ : Nms} (h1 : dq T st.E fr.F) (h2 : jW ops fr.n T) (hF0 : fr0.F = fr.F) (hH0 : ∀ r, r ∈ fr0.H → r ∈ fr.H) (hf : FT T fr0) (h : stepG ops T fr st o run = some r) :
  ∃ T' g, run T' g = some r ∧ JZ ops fr0 fr st ρ o T T' g := by
 unfold stepG at h
 obtain ⟨h3, h4⟩ := al h
 simp only [Bool.and_eq_true] at h3
 have old : ∀ k x, x ∈ T → x.1 = k → ∃ rj par b, (ops[k.1]?).bind (·.dst) = some rj ∧ look (ai ρ T st.E fr.F) rj = some (T.get par, .bool b) ∧ Nat.blt rj fr.n = true ∧ (T.get par && (b == k.2)) = T.get (some k) := fun k x hx hk => by
  subst hk
  obtain ⟨a1, a2⟩ := h1 x hx
  obtain ⟨a3, a4⟩ := h2 x hx
  exact ⟨x.2.2.1, x.2.1, x.2.2.2, a3, by rw [eN, a1]; simp [AV.val], a4, by rw [a2, xr]⟩
 split at h4
 ·rename_i hg
  obtain ⟨h5, h6⟩ := al h4
  exact ⟨T, none, h6, ⟨h3.1, h3.2, h1, h2, hf, h5, rfl, rfl, rfl, rfl, hg, fun k hk => by cases hk⟩⟩
 ·rename_i k hg
  rcases cW h4 with ⟨h5, h6⟩ | ⟨h5, h6⟩
  ·obtain ⟨h7, h8⟩ := al h6
   obtain ⟨x, hx, hk⟩ := Gn h5
   exact ⟨T, some k, h8, ⟨h3.1, h3.2, h1, h2, hf, h7, rfl, rfl, rfl, rfl, hg, fun k' hk' => by cases hk'; exact old k x hx hk⟩⟩
  ·split at h6
   ·rename_i oj hoj
    split at h6
    ·rename_i rj hrj
     split at h6
     ·rename_i par b hlk
      obtain ⟨h7, h8⟩ := al h6
      simp only [Bool.and_eq_true] at h7
      obtain ⟨⟨⟨⟨⟨⟨b1, b2⟩, b3⟩, b4⟩, b5⟩, b6⟩, b7⟩ := h7
      have hpar : qR k par = true := by
       unfold cN at hlk
       split at hlk
       ·rename_i x hx; cases hlk; exact wS b2 hx
       ·exact wS b3 hlk
      have hself : Tbl.get ((k, par, rj, b) :: T) (some k) = (Tbl.get ((k, par, rj, b) :: T) par && oD k.2 b) := by
       rw [Tbl.Kw, oE hpar]
      have ee := yU (ρ := ρ) (par := par) (rj := rj) (b := b) (T := T) b2
      have ef := yU (ρ := ρ) (par := par) (rj := rj) (b := b) (T := T) b3
      refine ⟨(k, par, rj, b) :: T, some k, h8, ⟨h3.1, h3.2, fun x hx => ?_, fun x hx => ?_, ⟨fun x hx => ?_, fun x hx => ?_⟩, b7, ee, ef, u4 b4, u4 b5, hg, fun k' hk' => ?_⟩⟩
      ·rcases List.mem_cons.1 hx with rfl | hx
       ·exact ⟨hlk, hself⟩
       ·obtain ⟨a1, a2⟩ := h1 x hx
        obtain ⟨a3, a4⟩ := FB b6 x hx
        exact ⟨a1, by rw [oE a3, oE a4]; exact a2⟩
      ·rcases List.mem_cons.1 hx with rfl | hx
       ·exact ⟨by simp [hoj, hrj], b1⟩
       ·exact h2 x hx
      ·rw [oE (Fw b3 x (hF0 ▸ hx))]; exact hf.1 x hx
      ·rw [oE (Fo b5 x (hH0 x hx))]; exact hf.2 x hx
      ·cases hk'
       refine ⟨rj, par, b, by simp [hoj, hrj], ?_, b1, by rw [hself, xr]⟩
       rw [eN, hlk]; simp [AV.val]
     ·cases h6
    ·cases h6
   ·cases h6
theorem BW {d : Option Tmp} : {T : Tbl} → jC d T = true → ∀ x, x ∈ T → ∀ (g : GK) (v : AV) (E F : aj), cN (bT d g v E) F x.2.2.1 = cN E F x.2.2.1
 | [], _, x, h => by cases h
 | y :: T, h, x, hx => fun g v E F => by
  simp only [jC, Bool.and_eq_true] at h
  rcases List.mem_cons.1 hx with rfl | hx
  ·cases d with
   | none => rfl
   | some d =>
    have h1 := h.1
    simp only [Bool.not_eq_true'] at h1
    unfold cN
    simp only [bT, aH, h1]
  ·exact BW h.2 x hx g v E F
theorem dq.out {T : Tbl} {E F : aj} (h : dq T E F) {d : Option Tmp} (ha : jC d T = true) (g : GK) (v : AV) : dq T (bT d g v E) F := fun x hx => by
 rw [BW ha x hx]; exact h x hx
theorem mV {ρ : Nms} {T : Tbl} {d : Option Tmp} {g : GK} {v : AV} {E F : aj} : ai ρ T (bT d g v E) F = kM d (T.get g) (v.val ρ) (ai ρ T E F) := by
 cases d <;> rfl
section
variable {X : Cx} {tb : List Ent} {σ : Option Nat} {Q : aC} {D : List Deferred} {ops : List Oper} {rest : List Oper} {R : Type} {r : R} {T : Tbl} {fr : Fr} {st : StB} {ρ : Nms} {Φ : Ctx} {w : World}
theorem EC {fr0 : Fr} {o : Oper} {K : Tbl → Go_ R} (h1 : dq T st.E fr.F) (h2 : jW ops fr.n T) (hF0 : fr0.F = fr.F) (hH0 : ∀ r, r ∈ fr0.H → r ∈ fr.H) (hf : FT T fr0) (hs : Sat (items ρ T st.G ++ (items ρ T fr.H ++ Φ)) w) (hΓ : ∀ it ∈ X.Γ, it ∈ Φ) (htb : ∀ e ∈ tb, e.Ok X.P X.Γ)
  (h : stepG ops T fr st o (fun T g => opD X tb T fr st g o (K T)) = some r)
  (next : ∀ T' st' ρ' w', dq T' st'.E fr.F → jW ops fr.n T' → FT T' fr0 → ax st.c ρ ρ' → st.c ≤ st'.c → K T' st' = some r → items ρ' T' fr.H = items ρ T fr.H → Sat (items ρ' T' st'.G ++ (items ρ' T' fr.H ++ Φ)) w' → WL X.P σ ops.toArray Q fr.n D rest (ai ρ' T' st'.E fr.F) w') :
  WL X.P σ ops.toArray Q fr.n D (o :: rest) (ai ρ T st.E fr.F) w := by
 obtain ⟨T', g, hk, so⟩ := Cz (ρ := ρ) h1 h2 hF0 hH0 hf h
 have hs' : Sat (items ρ T' st.G ++ (items ρ T' fr.H ++ Φ)) w := by rw [so.eg, so.eh]; exact hs
 have he : ai ρ T st.E fr.F = ai ρ T' st.E fr.F := by rw [ai, ai, so.ee, so.ef]
 rw [he]
 have hop := Pk so.t1 hs' hΓ htb hk
 have fin : ∀ v w', aA r (K T') T' fr st g o.dst ρ Φ v w' → WL X.P σ ops.toArray Q fr.n D rest (kM o.dst (T'.get g) v (ai ρ T' st.E fr.F)) w' := fun v w' hv => by
  obtain ⟨ρ', st', av, k1, k2, k3, k4, k5, k6, k7, k8⟩ := hv
  have := next T' st' ρ' w' (by rw [k4]; exact so.t1.out so.ak g av) so.t2 so.ft k2 k3 k1 (k7.trans so.eh) k8
  rw [k4, mV, k5, k6] at this
  exact this
 cases hg : g with
 | none =>
  subst hg
  have := fin
  rw [Tbl.get_none] at this
  exact Ox (hop.1 Tbl.get_none) so.pl so.gg so.ds this
 | some k =>
  obtain ⟨rj, par, b, g1, g2, g3, g4⟩ := so.gk k hg
  subst hg
  exact LJ hop.1 hop.2 so.pl so.gg (by simpa using g1) g2 g3 g4 so.ds fin
end
/-! regions in their order -/
def lD {α : Type} : Option α → Bool
 | none => true
 | some _ => false
def jm (E0 : aj) : aj → aj
 | [] => []
 | x :: E => (match aH E0 x.1 with
  | some (none, _) => ifS (lD x.2.1) (x :: jm E0 E) (jm E0 E)
  | _ => jm E0 E)
def iC : List Row → List Row
 | [] => []
 | r :: G => ifS (lD r.gd) (r :: iC G) (iC G)
def oS (T : Tbl) (st : StB) : StB := match T with
 | [] => st
 | _ :: _ => { st with E := jm st.E st.E, G := iC st.G }
theorem eO {t' t : Nat} {g : GK} {v : AV} {E : aj} (h : Nat.beq t' t = true) : aH ((t', g, v) :: E) t = some (g, v) := by simp only [aH, h]
theorem dh {t' t : Nat} {g : GK} {v : AV} {E : aj} (h : Nat.beq t' t = false) : aH ((t', g, v) :: E) t = aH E t := by simp only [aH, h]
theorem tf {E0 : aj} {t : Nat} : {E : aj} → {x : GK × AV} → aH (jm E0 E) t = some x → x.1 = none ∧ (∃ v, aH E0 t = some (none, v)) ∧ ((∃ v, aH E t = some (none, v)) → aH E t = some x)
 | [], x, h => by cases h
 | (t', g', v') :: E, x, h => by
  unfold jm at h
  have bC : aH (jm E0 E) t = some x → (∀ v, Nat.beq t' t = true → aH E0 t' ≠ some (none, v) ∨ g' ≠ none) → x.1 = none ∧ (∃ v, aH E0 t = some (none, v)) ∧ ((∃ v, aH ((t', g', v') :: E) t = some (none, v)) → aH ((t', g', v') :: E) t = some x) := fun h' hn => by
   obtain ⟨h1, h2, h3⟩ := tf h'
   refine ⟨h1, h2, fun hv => ?_⟩
   cases hb : Nat.beq t' t
   ·rw [dh hb] at hv ⊢; exact h3 hv
   ·exfalso
    obtain ⟨v0, hv0⟩ := h2
    obtain ⟨v1, hv1⟩ := hv
    rw [eO hb] at hv1
    simp only [Option.some.injEq, Prod.mk.injEq] at hv1
    have e := Nat.eq_of_beq_eq_true hb
    rcases hn v0 hb with h4 | h4
    ·rw [e] at h4; exact h4 hv0
    ·exact h4 hv1.1
  dsimp only at h
  split at h
  ·rename_i v hv
   cases h1 : lD g'
   ·rw [h1] at h
    exact bC h (fun v _ => .inr (fun e => by rw [e] at h1; cases h1))
   ·rw [h1] at h
    have h2 : aH ((t', g', v') :: jm E0 E) t = some x := h
    cases hb : Nat.beq t' t
    ·rw [dh hb] at h2 ⊢
     exact tf (E := E) h2
    ·rw [eO hb] at h2 ⊢
     cases h2
     have e := Nat.eq_of_beq_eq_true hb
     refine ⟨?_, ⟨v, by rw [← e]; exact hv⟩, fun _ => rfl⟩
     cases hy : g' with
     | none => rfl
     | some _ => rw [hy] at h1; cases h1
  ·rename_i hn
   exact bC h (fun v hb => .inl (fun e => hn v e))
theorem yg {E0 : aj} {t : Nat} {v0 : AV} (h0 : aH E0 t = some (none, v0)) : {E : aj} → {v : AV} → aH E t = some (none, v) → aH (jm E0 E) t = some (none, v)
 | [], v, h => by cases h
 | (t', g', v') :: E, v, h => by
  unfold jm
  cases hb : Nat.beq t' t
  ·rw [dh hb] at h
   have ih := yg h0 h
   dsimp only
   split
   ·cases lD g'
    ·exact ih
    ·show aH ((t', g', v') :: jm E0 E) t = _
     rw [dh hb]; exact ih
   ·exact ih
  ·rw [eO hb] at h
   cases h
   have e := Nat.eq_of_beq_eq_true hb
   subst e
   dsimp only
   rw [h0]
   exact eO hb
def Cu (F E0 : aj) : aj → Bool
 | [] => true
 | x :: E => (match aH E0 x.1 with
  | some (none, _) => true
  | _ => lD (aH F x.1)) && Cu F E0 E
theorem De {F E0 : aj} {t : Nat} : {E : aj} → {x : GK × AV} → Cu F E0 E = true → aH E t = some x → (∃ v, aH E0 t = some (none, v)) ∨ aH F t = none
 | [], x, _, h => by cases h
 | (t', g', v') :: E, x, hb, h => by
  simp only [Cu, Bool.and_eq_true] at hb
  cases hq : Nat.beq t' t
  ·rw [dh hq] at h; exact De hb.2 h
  ·have e := Nat.eq_of_beq_eq_true hq
   subst e
   have h1 := hb.1
   split at h1
   ·rename_i v hv; exact .inl ⟨v, hv⟩
   ·cases hF : aH F t' with
    | none => exact .inr rfl
    | some y => rw [hF] at h1; cases h1
def wK (T : Tbl) (fr : Fr) (st : StB) : Bool := match T with
 | [] => true
 | _ :: _ => Cu fr.F st.E st.E
theorem KG {ρ : Nms} {T : Tbl} {E : aj} (h : ∀ x, x ∈ E → T.get x.2.1 = Tbl.get [] x.2.1) : aj.env ρ T E = aj.env ρ [] E := by
 induction E with
 | nil => rfl
 | cons x E ih =>
  obtain ⟨t, g, v⟩ := x
  simp only [aj.env]
  rw [h _ (List.mem_cons_self ..), ih (fun x hx => h x (List.mem_cons_of_mem _ hx))]
theorem Ab {ρ : Nms} {T : Tbl} {G : List Row} (h : ∀ r, r ∈ G → T.get r.gd = Tbl.get [] r.gd) : items ρ T G = items ρ [] G :=
 List.map_congr_left fun r hr => Row.qV (h r hr)
theorem oR : {G : List Row} → ∀ r, r ∈ iC G → r.gd = none
 | [], r, h => by cases h
 | y :: G, r, h => by
  unfold iC at h
  cases hy : lD y.gd
  ·rw [hy] at h; exact oR r h
  ·rw [hy] at h
   rcases List.mem_cons.1 h with rfl | h
   ·cases hg : r.gd with
    | none => rfl
    | some _ => rw [hg] at hy; cases hy
   ·exact oR r h
theorem qc {ρ : Nms} {T : Tbl} {w : World} {B : Ctx} : ∀ {G : List Row} {A : Ctx}, Sat (A ++ (items ρ T G ++ B)) w → Sat (A ++ (items ρ T (iC G) ++ B)) w
 | [], _, h => h
 | r :: G, A, h => by
  unfold iC
  cases lD r.gd
  ·exact qc (G := G) (Sat.sf h)
  ·have h' : Sat ((A ++ [r.item ρ T]) ++ (items ρ T G ++ B)) w := by simpa [items] using h
   have := qc (G := G) h'
   simpa [items] using this
theorem uD {ρ : Nms} {T : Tbl} {fr : Fr} {st : StB} {Φ : Ctx} {w : World} (hB : wK T fr st = true) (hf : FT T fr) (hs : Sat (items ρ T st.G ++ (items ρ T fr.H ++ Φ)) w) :
  (oS T st).c = st.c ∧ gB (ai ρ [] (oS T st).E fr.F) (ai ρ T st.E fr.F) ∧ Sat (items ρ [] (oS T st).G ++ (items ρ [] fr.H ++ Φ)) w := by
 cases T with
 | nil => exact ⟨rfl, gB.refl, hs⟩
 | cons x T =>
  refine ⟨rfl, fun t p hp => ?_, ?_⟩
  ·have eF : aj.env ρ (x :: T) fr.F = aj.env ρ [] fr.F := KG hf.1
   rw [ai, s6] at hp ⊢
   rw [eF]
   cases hl : look (aj.env ρ [] (oS (x :: T) st).E) t with
   | none =>
    rw [hl] at hp
    -- nothing kept: nothing told, or under a guard
    have : look (aj.env ρ (x :: T) st.E) t = none := by
     rw [mn] at hl hp ⊢
     cases hE : aH st.E t with
     | none => rfl
     | some y =>
      exfalso
      have hk : aH (jm st.E st.E) t = none := by
       cases hk : aH (jm st.E st.E) t with
       | none => rfl
       | some z =>
        have : aH (oS (x :: T) st).E t = some z := hk
        rw [this] at hl; cases hl
      rcases De hB hE with ⟨v, hv⟩ | hF
      ·rw [yg hv hv] at hk; cases hk
      ·rw [hF] at hp; cases hp
    rw [this]; exact hp
   | some q =>
    rw [hl] at hp
    cases hp
    rw [mn] at hl
    cases hk : aH (oS (x :: T) st).E t with
    | none => rw [hk] at hl; cases hl
    | some y =>
     rw [hk] at hl
     obtain ⟨h1, h2, h3⟩ := tf hk
     have h4 := h3 h2
     rw [mn, h4]
     simp only [Option.map_some, Option.some.injEq] at hl ⊢
     rw [← hl, h1, Tbl.get_none, Tbl.get_none]
  ·have h1 := qc (A := []) hs
   have e1 : items ρ (x :: T) (iC st.G) = items ρ [] (iC st.G) := Ab fun r hr => by rw [oR r hr, Tbl.get_none, Tbl.get_none]
   have e2 : items ρ (x :: T) fr.H = items ρ [] fr.H := Ab hf.2
   rw [List.nil_append, e1, e2] at h1
   exact h1
end Go.Proofs.YtdhgpnejphlfpaaDoor
namespace Go.Proofs.YtdhgpnejphlfpaaDoor
open Go.Lib
def OkT : Bool → Pt → List (Bool × Nat × Pt) → Type
 | true, _, _ => Empty
 | false, r, os => Tup (hol r ++ eK os)
abbrev O6 {R : Type} : (nv : Bool) → (r : Pt) → (os : List (Bool × Nat × Pt)) → OkT nv r os → (Tup (hol r ++ eK os) → Option R) → Option R
 | true, _, _, x, _ => Empty.elim x
 | false, _, _, x, K => K x
def isOk : (nv : Bool) → (r : Pt) → (os : List (Bool × Nat × Pt)) → OkT nv r os → Tup (hol r ++ eK os) → Prop
 | true, _, _, _, _ => False
 | false, _, _, x, q => x = q
theorem OG {R : Type} {r' : R} : {nv : Bool} → {r : Pt} → {os : List (Bool × Nat × Pt)} → {x : OkT nv r os} → {q : Tup (hol r ++ eK os)} → {K : Tup (hol r ++ eK os) → Option R} → isOk nv r os x q → O6 nv r os x K = some r' → K q = some r'
 | true, _, _, _, _, _, h, _ => h.elim
 | false, _, _, _, _, _, rfl, h => h
structure bc where
 f : FuncId
 ps : List Pt
 pp : Pt
 nv : Bool
 r : Pt
 os : List (Bool × Nat × Pt)
 m : Tup (lr ps) → Option (Except (Tup (hol pp)) (OkT nv r os))
def bc.oe (e : bc) : Ent := ⟨e.f, e.ps, e.r, e.os, fun _ => none⟩
def bc.S (e : bc) (vs : List Value) (N : List Nm) (I : Its) (X : Bxs) (Φ : Ctx) (r : Except (Tup (hol e.pp)) (OkT e.nv e.r e.os)) (v : Value) (w' : World) : Prop :=
 ∃ x q, r = .ok x ∧ isOk e.nv e.r e.os x q ∧ ∃ (N1 N2 : List Nm) (D1 D2 : List Dyn) (I1 I2 : Its) (X1 X2 : Bxs), Sem e.r v none none N D1 I1 X1 N1 ∧ sX (fxS e.ps vs X) (fun i => vs[i]?) e.os N1 D2 I2 X2 N2 ∧ D1 ++ D2 = unt _ q ∧
  Sat ((cF I1 ++ cF I2) ++ (ez I ++ Φ)) w'
def bc.Sp (e : bc) (I : Its) (Φ : Ctx) (r : Except (Tup (hol e.pp)) (OkT e.nv e.r e.os)) (c : List PanicEntry) (w' : World) : Prop :=
 ∃ p, r = .error p ∧ ∃ (v : Value) (N1 : List Nm) (I1 : Its) (X1 : Bxs), c = pan v ∧ Sem e.pp v none none [] (unt _ p) I1 X1 N1 ∧ Sat (cF I1 ++ (ez I ++ Φ)) w'
def bc.Ok (P : Program) (Γg : Ctx) (e : bc) : Prop := fH P e.f ∧ ∀ s r, e.m s = some r → ∀ (vs : List Value) (N : List Nm) (I : Its) (X : Bxs) (Φ : Ctx) (w : World),
 nO e.ps vs [] [] (unt _ s) I X N → Sat (cF I ++ Φ) w → (∀ it ∈ Γg, it ∈ Φ) → iA P e.f vs w (e.S vs N I X Φ r) (e.Sp I Φ r)
def Dj {R : Type} (st : StB) (e : bc) (G1 : List Row) (KP : AV → StB → Option R) (p : Tup (hol e.pp)) : Option R :=
 match fill (lU [] st.c) e.pp none none 0 (unt _ p) with
 | ⟨v, R1, k, _, _⟩ => KP v { st with c := st.c + k, G := R1.map (·.2) ++ G1 }
def Dw {R : Type} (fr : Fr) (st : StB) (d : Option Tmp) (args : List AV) (e : bc) (KP : AV → StB → Option R) (K : Go_ R) : Option (Option R) :=
 match mts (frz (c9 st.G fr.H e.ps args) st.G) fr.H e.ps args [] [] with
  | some mr => ifS (qS (mr.S.map fun x => cr (frz (c9 st.G fr.H e.ps args) st.G) fr.H x.2) && ltT (frz (c9 st.G fr.H e.ps args) st.G).length (qW (frz (c9 st.G fr.H e.ps args) st.G) fr.H mr.S) && ltB st.c mr.B && AV.aY st.c args && yL st.c mr.X) (match tup (lr e.ps) mr.D with
   | some s => some (Hy (e.m s) (Dj st e (iu (l6 (qW (frz (c9 st.G fr.H e.ps args) st.G) fr.H mr.S) 0 (frz (c9 st.G fr.H e.ps args) st.G))) KP)
     (fun x => O6 e.nv e.r e.os x (xt fr st none d args e.oe mr (iu (l6 (qW (frz (c9 st.G fr.H e.ps args) st.G) fr.H mr.S) 0 (frz (c9 st.G fr.H e.ps args) st.G))) K)))
   | none => none) none
  | none => none
def vY {R : Type} (fr : Fr) (st : StB) (d : Option Tmp) (f : FuncId) (args : List AV) (KP : AV → StB → Option R) (K : Go_ R) : List bc → Option (Option R)
 | [] => none
 | e :: tp => ifS (Nat.beq e.f f) (match Dw fr st d args e KP K with
   | some r => some r
   | none => vY fr st d f args KP K tp) (vY fr st d f args KP K tp)
def GR {R : Type} (tp : List bc) (T : Tbl) (fr : Fr) (st : StB) (o : Oper) (KP : AV → StB → Option R) (K : Go_ R) : Option (Option R) := match o.guard with
 | some _ => none
 | none => (match o.op with
  | .panic x => (match opA T st.E fr.F none x with
   | some (.ifc t v) => some (KP (.ifc t v) st)
   | _ => none)
  | .call c => (match c.callee with
   | .value fo => (match opA T st.E fr.F none fo with
    | some (.fn f a b) => (match ov T st.E fr.F none c.args.toList with
     | some vs => ifS (jC o.dst T && vV fr.n o.dst && st.low fr) (vY fr st o.dst f (a ++ vs ++ b) KP K tp) none
     | none => none)
    | _ => none)
   | _ => none)
  | _ => none)
section
variable {P : Program} {R : Type} {r : R} {K : Go_ R} {KP : AV → StB → Option R} {T : Tbl} {fr : Fr} {st : StB} {d : Option Tmp} {ρ : Nms} {Φ Γg : Ctx} {w : World}
def Hn (r : R) (KP : AV → StB → Option R) (T : Tbl) (fr : Fr) (st : StB) (ρ : Nms) (Φ : Ctx) (v : Value) (w' : World) : Prop :=
 ∃ (ρ' : Nms) (st' : StB) (av : AV), KP av st' = some r ∧ ax st.c ρ ρ' ∧ st.c ≤ st'.c ∧ st'.E = st.E ∧ av.val ρ' = v ∧ Sat (items ρ' T st'.G ++ (items ρ' T fr.H ++ Φ)) w' ∧ ai ρ' T st.E fr.F = ai ρ T st.E fr.F
theorem H4 {e : bc} {G1 : List Row} {p : Tup (hol e.pp)} {v : Value} {w' : World} {N1 : List Nm} {I1 : Its} {X1 : Bxs}
  (hl : st.low fr = true) (hG1 : aO st.c G1 = true) (h1 : Sem e.pp v none none [] (unt _ p) I1 X1 N1)
  (hs : Sat (cF I1 ++ (items ρ T G1 ++ (items ρ T fr.H ++ Φ))) w') (h : Dj st e G1 KP p = some r) : Hn r KP T fr st ρ Φ v w' := by
 have hp1 := oG _ _ _ _ _ _ _ _ _ h1
 have hnm := BI (ρ := ρ) (c := st.c) (N := []) (B := []) (N2 := N1) .nil hp1 rfl
 have hag : ax st.c ρ (fun i => ifS (Nat.blt i st.c) (ρ i) ((N1[i - st.c]?).getD nm0)) := fun j hj => by
  have : Nat.blt j st.c = true := by simpa using hj
  simp only [this]
 generalize hρ : (fun i => ifS (Nat.blt i st.c) (ρ i) ((N1[i - st.c]?).getD nm0)) = ρ' at hnm hag
 obtain ⟨a1, a2, a3, a4, a5⟩ := uc (T := T) e.pp v none none [] (unt _ p) I1 X1 N1 h1 hnm (by simp) []
 rw [List.append_nil, List.length_nil] at a1 a2 a3 a4 a5
 unfold Dj at h
 generalize fill (lU [] st.c) e.pp none none 0 (unt _ p) = L at a1 a2 a3 a4 a5 h
 obtain ⟨v', R1, k, DD, XX⟩ := L
 simp only at a1 a2 a3 a4 a5
 dsimp only at h
 have e3 := aE (T := T) hag hG1
 have e4 := aE (T := T) hag (StB.bM.1 hl).2.2.2
 refine ⟨ρ', _, v', h, hag, Nat.le_add_right _ _, rfl, a1, ?_, jM hl hag⟩
 show Sat (items ρ' T (R1.map (·.2) ++ G1) ++ (items ρ' T fr.H ++ Φ)) w'
 rw [aG, e3, e4, List.append_assoc]
 exact Sat.leL (A := []) (B := cF I1) (C := items ρ T G1 ++ (items ρ T fr.H ++ Φ)) (by simpa using hs) a5.rw
theorem Jg {e : bc} {args : List AV} (hl : st.low fr = true) (hs : Sat (items ρ T st.G ++ (items ρ T fr.H ++ Φ)) w) (he : e.Ok P Γg) (hΓ : ∀ it ∈ Γg, it ∈ Φ) (h : Dw fr st d args e KP K = some (some r)) :
  iA P e.f (AV.ae ρ args) w (aA r K T fr st none d ρ Φ) (fun c w' => ∃ v, c = pan v ∧ Hn r KP T fr st ρ Φ v w') := by
 have hGl := mX (ids := c9 st.G fr.H e.ps args) (StB.bM.1 hl).2.2.1
 replace hs := gf (ids := c9 st.G fr.H e.ps args) hs
 unfold Dw at h
 generalize frz (c9 st.G fr.H e.ps args) st.G = Gu at hGl hs h
 split at h
 ·rename_i mr hm
  obtain ⟨h1, h2⟩ := al h
  simp only [Bool.and_eq_true] at h1
  obtain ⟨⟨⟨⟨h3, h4⟩, h5⟩, h6⟩, h7⟩ := h1
  split at h2
  ·rename_i s htup
   simp only [Option.some.injEq] at h2
   obtain ⟨N, I, s1, n1, a1⟩ := pd hs e.ps args [] [] mr [] hm .nil
   rw [← oH _ htup] at s1
   obtain ⟨p1, p2⟩ := uI hs a1
   have hnd' := mO h3
   obtain ⟨q1, _⟩ := mL hs p1 hnd'
   have key2 : ∀ (L : List (Option Nat)) (G : List Row) (k : Nat), aO st.c G = true → aO st.c (iu (l6 L k G)) = true := fun L G => by
    induction G with
    | nil => intro k _; rfl
    | cons r G ih =>
     intro k hG
     simp only [aO, Bool.and_eq_true] at hG
     show aO st.c (iu ((ifS (gN k L) .gone r) :: l6 L (k + 1) G)) = true
     cases gN k L
     ·cases r <;> first | exact ih (k + 1) hG.2 | (simp only [iu, aO, Bool.and_eq_true]; exact ⟨hG.1, ih (k + 1) hG.2⟩)
     ·exact ih (k + 1) hG.2
   have hlow := key2 (qW Gu fr.H mr.S) Gu 0 hGl
   have hsub : ∀ it ∈ Γg, it ∈ mkP (mr.S.map fun x => cr Gu fr.H x.2) (items ρ T Gu ++ (items ρ T fr.H ++ Φ)) := fun it hit => by
    obtain ⟨k, hk⟩ := List.mem_iff_getElem?.1 (hΓ it hit)
    have hk2 : (items ρ T Gu ++ (items ρ T fr.H ++ Φ))[Gu.length + fr.H.length + k]? = some it := by
     rw [List.getElem?_append_right (by simp [items]; omega), List.getElem?_append_right (by simp [items]; omega)]
     have : Gu.length + fr.H.length + k - (items ρ T Gu).length - (items ρ T fr.H).length = k := by simp [items]; omega
     rw [this]; exact hk
    refine List.mem_of_getElem? (i := Gu.length + fr.H.length + k) ?_
    rw [qw, hk2]
    intro hmem
    obtain ⟨x, _, hx⟩ := List.mem_map.1 hmem
    have := Eo hx
    omega
   have call := fun rr hr => he.2 s rr hr (AV.ae ρ args) N I (cK ρ mr.X) _ w (by simpa only [AV.ae] using s1) q1 hsub
   have backs : ∀ {A : Ctx} {w' : World}, Sat (A ++ (ez I ++ mkP (mr.S.map fun x => cr Gu fr.H x.2) (items ρ T Gu ++ (items ρ T fr.H ++ Φ)))) w' → Sat (A ++ (items ρ T (iu (l6 (qW Gu fr.H mr.S) 0 Gu)) ++ (items ρ T fr.H ++ Φ))) w' := fun {A w'} c4 => by
    have c5 := tu p2 hnd' c4
    rw [yC a1, oA h4] at c5
    exact sA c5
   rcases Hz h2 with ⟨p, hq, hk⟩ | ⟨q, hq, hk⟩
   ·refine (call _ hq).mono (fun v w' hv => ?_) (fun c w' hv => ?_)
    ·obtain ⟨x', q', hq', _⟩ := hv; cases hq'
    ·obtain ⟨p', hp', v, N1, I1, X1, c1, c2, c3⟩ := hv
     cases hp'
     exact ⟨v, c1, H4 hl hlow c2 (backs c3) hk⟩
   ·refine (call _ hq).mono (fun v w' hv => ?_) (fun c w' hv => ?_)
    ·obtain ⟨x', q', hq', hi, N1, N2, D1, D2, I1, I2, X1, X2, c1, c2, c3, c4⟩ := hv
     cases hq'
     exact wQ (e := e.oe) hl hlow n1 h5 h6 h7 c1 c2 c3 Tbl.get_none (backs c4) (.inl rfl) (OG hi hk)
    ·obtain ⟨p', hp', _⟩ := hv; cases hp'
  ·cases h2
 ·cases h
theorem vK {f : FuncId} {args : List AV} (hl : st.low fr = true) (hs : Sat (items ρ T st.G ++ (items ρ T fr.H ++ Φ)) w) (hΓ : ∀ it ∈ Γg, it ∈ Φ) : ∀ {tp : List bc}, (∀ e ∈ tp, e.Ok P Γg) → vY fr st d f args KP K tp = some (some r) →
  fH P f ∧ iA P f (AV.ae ρ args) w (aA r K T fr st none d ρ Φ) (fun c w' => ∃ v, c = pan v ∧ Hn r KP T fr st ρ Φ v w')
 | [], _, h => by cases h
 | e :: tp, htp, h => by
  unfold vY at h
  rcases cW h with ⟨h1, h2⟩ | ⟨_, h2⟩
  ·split at h2
   ·rename_i r' hr'
    cases h2
    have := Nat.eq_of_beq_eq_true h1
    subst this
    exact ⟨(htp e (List.mem_cons_self ..)).1, Jg hl hs (htp e (List.mem_cons_self ..)) hΓ hr'⟩
   ·exact vK hl hs hΓ (fun e he => htp e (List.mem_cons_of_mem _ he)) h2
  ·exact vK hl hs hΓ (fun e he => htp e (List.mem_cons_of_mem _ he)) h2
variable {σ : Option Nat} {Q : aC} {D : List Deferred} {ops rest : List Oper} {tp : List bc}
theorem MG {o : Oper} (h1 : dq T st.E fr.F) (hs : Sat (items ρ T st.G ++ (items ρ T fr.H ++ Φ)) w) (hΓ : ∀ it ∈ Γg, it ∈ Φ) (htp : ∀ e ∈ tp, e.Ok P Γg)
  (h : GR tp T fr st o KP K = some (some r))
  (next : ∀ st' ρ' w', dq T st'.E fr.F → ax st.c ρ ρ' → st.c ≤ st'.c → K st' = some r → items ρ' T fr.H = items ρ T fr.H → Sat (items ρ' T st'.G ++ (items ρ' T fr.H ++ Φ)) w' → WL P σ ops.toArray Q fr.n D rest (ai ρ' T st'.E fr.F) w')
  (pnext : ∀ v st' ρ' w', ax st.c ρ ρ' → st.c ≤ st'.c → KP v st' = some r → st'.E = st.E → ai ρ' T st.E fr.F = ai ρ T st.E fr.F → Sat (items ρ' T st'.G ++ (items ρ' T fr.H ++ Φ)) w' → At Q (.panic (pan (v.val ρ'))) fr.n D (ai ρ' T st'.E fr.F) w') :
  WL P σ ops.toArray Q fr.n D (o :: rest) (ai ρ T st.E fr.F) w := by
 obtain ⟨dst, op, ty, pos, af, gd⟩ := o
 unfold GR at h
 split at h
 ·cases h
 rename_i hgd
 simp only at hgd
 subst hgd
 split at h
 ·rename_i x hop
  simp only at hop
  subst hop
  split at h
  ·rename_i t v hx
   have hk := Option.some.inj h
   have hx' := ay (ρ := ρ) hx
   rw [Tbl.get_none] at hx'
   simp only [AV.val] at hx'
   refine J4 hx' ?_
   have := pnext (.ifc t v) st ρ w .refl (Nat.le_refl _) hk rfl rfl hs
   simp only [AV.val] at this
   exact this
  ·cases h
 ·rename_i c hop
  simp only at hop
  subst hop
  obtain ⟨callee, xs, tys⟩ := c
  obtain ⟨xs⟩ := xs
  simp only at h
  split at h
  ·rename_i fo
   split at h
   ·rename_i f a b hfo
    split at h
    ·rename_i vs hxs
     obtain ⟨h2, h3⟩ := al h
     simp only [Bool.and_eq_true] at h2
     obtain ⟨⟨hak, hd⟩, hl⟩ := h2
     obtain ⟨hen, hc⟩ := vK hl hs hΓ htp h3
     have hfo' := ay (ρ := ρ) hfo
     have hxs' := iv (ρ := ρ) hxs
     rw [Tbl.get_none] at hfo' hxs'
     simp only [AV.val] at hfo'
     have hargs : AV.ae ρ (a ++ vs ++ b) = AV.ae ρ a ++ AV.ae ρ vs ++ AV.ae ρ b := by rw [cE, cE]
     have fin : ∀ v w', aA r K T fr st none dst ρ Φ v w' → WL P σ ops.toArray Q fr.n D rest (kM dst true v (ai ρ T st.E fr.F)) w' := fun v w' hv => by
      obtain ⟨ρ', st', av, k1, k2, k3, k4, k5, k6, k7, k8⟩ := hv
      have := next st' ρ' w' (by rw [k4]; exact h1.out hak none av) k2 k3 k1 k7 k8
      rw [k4, mV, k5, k6, Tbl.get_none] at this
      exact this
     have pfin : ∀ c w', (∃ v, c = pan v ∧ Hn r KP T fr st ρ Φ v w') → At Q (.panic c) fr.n D (ai ρ T st.E fr.F) w' := fun c w' hv => by
      obtain ⟨v, rfl, ρ', st', av, k1, k2, k3, k4, k5, k6, k7⟩ := hv
      have := pnext av st' ρ' w' k2 k3 k1 k4 k7 k6
      rw [k5, k4, k7] at this
      exact this
     cases dst with
     | none => exact I7 hen hfo' hxs' hargs hc fin pfin
     | some dd => exact LC hen hfo' hxs' hargs hd hc fin pfin
    ·cases h
   ·cases h
  ·cases h
 ·cases h
end
end Go.Proofs.YtdhgpnejphlfpaaDoor
namespace Go.Proofs.YtdhgpnejphlfpaaDoor
open Go.Lib
theorem Sat.LO {A B : Ctx} {x : Item} {w : World} (h : Sat (A ++ x :: B) w) : Sat (x :: (A ++ B)) w := by
 refine h.qi (fun j k => (j = 0 ∧ k = A.length) ∨ (0 < j ∧ j ≤ A.length ∧ k + 1 = j) ∨ (A.length < j ∧ k = j)) (fun j jt hj => ?_) (fun j k q hjk h1 h2 => by omega)
 cases j with
 | zero =>
  simp only [List.getElem?_cons_zero, Option.some.injEq] at hj
  subst hj
  exact .inr ⟨A.length, x, .inl ⟨rfl, rfl⟩, by simp, aU.refl⟩
 | succ j =>
  simp only [List.getElem?_cons_succ] at hj
  by_cases e : j < A.length
  ·rw [List.getElem?_append_left e] at hj
   exact .inr ⟨j, jt, .inr (.inl ⟨by omega, by omega, rfl⟩), by rw [List.getElem?_append_left e]; exact hj, aU.refl⟩
  ·rw [List.getElem?_append_right (by omega)] at hj
   refine .inr ⟨j + 1, jt, .inr (.inr ⟨by omega, rfl⟩), ?_, aU.refl⟩
   rw [List.getElem?_append_right (by omega)]
   have : j + 1 - A.length = (j - A.length) + 1 := by omega
   rw [this, List.getElem?_cons_succ]
   exact hj
theorem Sat.Qc {Γ : Ctx} {it new : Item} {w : World} (h : Sat (it :: Γ) w) (hR : ∀ b ∈ new.own, b ∈ it.own) (hP : ∀ M', Mv (Ctx.M (it :: Γ)) w M' w → new.P M' w) : Sat (new :: Γ) w := by
 have := h.upd (i := 0) (it := it) (new := new) (w' := w) rfl ⟨rfl, rfl, rfl, Nat.le_refl _, fun _ _ _ => rfl⟩ (fun b hb => ⟨h.lt (Ctx.o7.2 (.inl (hR b hb))), .inl (hR b hb)⟩) (fun M' m _ => hP M' m)
 simpa using this
def vn (X : Cx) (T : Tbl) (fr : Fr) (st : StB) (o : Oper) : Option (TypeId × List AV × List AV) := match o.op, o.guard with
 | .alloc t, none => (match Ct X.P t with
  | some cs => some (t, [], cs)
  | none => none)
 | .buildSlice t len ps, none => (match fF X.P t with
  | some e => (match tiA X.P e with
   | some z => (match ov T st.E fr.F none (ps.toList.map (·.2)) with
    | some vs => (match sw (fun i => some (i * z.1, z.1)) ((ps.toList.map (·.1)).zip vs) (Ep len (z.2.2.cells.toList.map cst)) with
     | some cs => ifS ( Nat.beq z.2.2.cells.size z.1 && Nat.ble (len * z.1) 16777216 && (Nat.blt 0 (len * z.1) || Nat.beq len 0 && ps.toList.isEmpty) ) (some (e, vs, cs)) none
     | none => none)
    | none => none)
   | none => none)
  | none => none)
 | _, _ => none
theorem DN {X : Cx} {T : Tbl} {fr : Fr} {st : StB} {ρ : Nms} {o : Oper} {e : TypeId} {vs cs : List AV} (h : vn X T fr st o = some (e, vs, cs)) (w : World) :
  ky X.P (ai ρ T st.E fr.F) o w (s9 o w.heap.size) (w.alloc (.cells (AV.ae ρ cs).toArray e)) := by
 obtain ⟨dst, op, ty, pos, af, gd⟩ := o
 unfold vn at h
 simp only at h
 split at h
 ·rename_i t
  split at h
  ·rename_i cs' hcs
   cases h
   unfold Ct at hcs
   split at hcs
   ·rename_i z hz
    cases hcs
    obtain ⟨n, b, z⟩ := z
    have := z6 (P := X.P) (E := ai ρ T st.E fr.F) (w := w) (dst := dst) (ty := ty) (pos := pos) (af := af) (zs := z.cells.toList) (cH hz) (by simp)
    rw [jL]
    exact this
   ·cases hcs
  ·cases h
 ·rename_i t len ps
  obtain ⟨ps⟩ := ps
  split at h
  ·rename_i e' he
   split at h
   ·rename_i z hz
    obtain ⟨n, bytes, z⟩ := z
    split at h
    ·rename_i vs' hvs
     split at h
     ·rename_i cs' hcs
      obtain ⟨h1, h2⟩ := al h
      cases h2
      simp only [Bool.and_eq_true, Bool.or_eq_true] at h1
      obtain ⟨⟨a2, a3⟩, h3⟩ := h1
      have hzs : z.cells.size = n := Nat.eq_of_beq_eq_true a2
      have hops := iv (ρ := ρ) hvs
      rw [Tbl.get_none] at hops
      have hfill := q8 (ρ := ρ) hcs
      rw [vg, Ea, jL] at hfill
      rcases h3 with h3 | ⟨h3, h5⟩
      ·have hpos : 0 < n := by
        have : 0 < len * n := by simpa using h3
        exact Nat.pos_of_ne_zero (fun e => by simp [e] at this)
       have hlit : oL n len z.cells.toList ((ps.map (·.1)).zip (AV.ae ρ vs)) = some (AV.ae ρ cs).toArray := by
        unfold oL
        have e1 := wE z.cells.toList (by simp [hzs]; exact hpos) len
        simp only [Array.length_toList, hzs] at e1
        simp only [Array.length_toList, hzs]
        rw [← hfill, ← e1]
       exact nD (P := X.P) (w := w) (dst := dst) (ty := ty) (pos := pos) (af := af) (bw he) (cH hz) (zs := z.cells.toList) (by simp) h3 a3 hops hlit
      ·have e0 : len = 0 := Nat.eq_of_beq_eq_true h3
       subst e0
       have e1 : ps = [] := by simpa using h5
       subst e1
       have : cs = [] := by
        simp only [List.map_nil, List.zip_nil_left, Ep, List.replicate_zero, List.flatten_nil, sw, Option.some.injEq] at hcs
        exact hcs.symm
       subst this
       exact me (P := X.P) (E := ai ρ T st.E fr.F) (w := w) (dst := dst) (ty := ty) (pos := pos) (af := af) (bw he) (cH hz)
     ·cases h
    ·cases h
   ·cases h
  ·cases h
 ·cases h
def Lo {R : Type} (X : Cx) (T : Tbl) (fr : Fr) (st : StB) (o : Oper) (K : Go_ R) : Option R := match vn X T fr st o, o.dst with
 | some p, some d => (match o.op with
  | .buildSlice _ len _ => (match vd X.tys p.1 with
   | some u => (match rdL (frz (AV.sls (.agg p.2.1) ++ (p.2.1.map AV.sls).flatten) st.G) fr.H u len p.2.2 with
    | some xs => ifS (st.low fr && Nat.ble len 9223372036854775807) (K { st with c := st.c + 1, E := bT (some d) none (.sl st.c) st.E, G := .own st.c u p.1 xs st.c :: frz (AV.sls (.agg p.2.1) ++ (p.2.1.map AV.sls).flatten) st.G }) none
    | none => none)
   | none => none)
  | _ => ifS (st.low fr && AV.aY st.c p.2.2) (Hj st d p.1 p.2.2 K) none)
 | _, _ => none
section
variable {X : Cx} {R : Type} {r : R} {K : Go_ R} {T : Tbl} {fr : Fr} {st : StB} {ρ : Nms} {Φ : Ctx} {w : World}
theorem NZ {o : Oper} {b : Nat} {e' : TypeId} {vs' : List Value} (hs : Sat (items ρ T st.G ++ (items ρ T fr.H ++ (box b e' vs' :: Φ))) w)
  (hr : ∀ e vs cs, vn X T fr st o = some (e, vs, cs) → e' = e ∧ vs' = AV.ae ρ cs) (h : Lo X T fr st o K = some r) :
  aA r K T fr st none o.dst ρ Φ (s9 o b) w := by
 obtain ⟨dst, op, ty, pos, af, gd⟩ := o
 unfold Lo at h
 simp only at h
 split at h
 ·rename_i p d hp
  obtain ⟨e, vs, cs⟩ := p
  obtain ⟨rfl, rfl⟩ := hr _ _ _ hp
  split at h
  ·rename_i t len ps
   split at h
   ·rename_i u hu
    split at h
    ·rename_i xs hxs
     obtain ⟨h1, h2⟩ := al h
     simp only [Bool.and_eq_true] at h1
     obtain ⟨hl, h8⟩ := h1
     have hGl := mX (ids := AV.sls (.agg vs) ++ (vs.map AV.sls).flatten) (StB.bM.1 hl).2.2.1
     replace hs := gf (ids := AV.sls (.agg vs) ++ (vs.map AV.sls).flatten) hs
     simp only at h2
     generalize frz (AV.sls (.agg vs) ++ (vs.map AV.sls).flatten) st.G = G at h2 hGl hs hxs
     obtain ⟨k1, k2⟩ := Ee (ρ := ρ) (T := T) hs _ _ _ hxs
     have hs1 : Sat ((items ρ T G ++ items ρ T fr.H) ++ box b e' (AV.ae ρ cs) :: Φ) w := by rw [List.append_assoc]; exact hs
     have hs2 := hs1.LO
     have mv : Mv (Ctx.M (items ρ T G ++ (items ρ T fr.H ++ (box b e' (AV.ae ρ cs) :: Φ)))) w (Ctx.M (box b e' (AV.ae ρ cs) :: ((items ρ T G ++ items ρ T fr.H) ++ Φ))) w := Mv.weaken w fun c hc => by
      obtain ⟨it, hi, hb⟩ := hc
      refine ⟨it, ?_, hb⟩
      simp only [List.mem_cons, List.mem_append] at hi ⊢
      rcases hi with h | (h | h) | h
      ·exact .inr (.inr (.inl h))
      ·exact .inl h
      ·exact .inr (.inl h)
      ·exact .inr (.inr (.inr h))
     refine aA.new (ρ' := ρ.set st.c { nm0 with v := (some ⟨b, 0, none⟩, len, len), y := ⟨.l u, xs⟩ }) (av := .sl st.c) hl h2 Nms.aF (Nat.le_succ _) rfl (by simp only [AV.val, Nms.aV]; rfl) ?_
     show Sat (items _ T (_ :: G) ++ _) w
     have e := aE (T := T) (Nms.aF (ρ := ρ) (j := st.c) (x := { nm0 with v := (some ⟨b, 0, none⟩, len, len), y := ⟨.l u, xs⟩ })) hGl
     rw [items, List.map_cons]
     rw [items] at e
     rw [e]
     have hb : cY w b e' (AV.ae ρ cs) := hs2.at_ (i := 0) rfl
     have hs3 : Sat ((Row.own st.c u e' xs st.c).item (ρ.set st.c { nm0 with v := (some ⟨b, 0, none⟩, len, len), y := ⟨.l u, xs⟩ }) T :: ((items ρ T G ++ items ρ T fr.H) ++ Φ)) w := by
      refine hs2.Qc (fun c hc => ?_) (fun M' m => ?_)
      ·simp only [Row.item, Nms.aV] at hc
       exact tP hc
      ·simp only [Row.item, Nms.aV]
       exact ⟨(Own.of (OSl.fresh hb k1 h8 (k2.mv (mv.trans m)))).wm, trivial⟩
     rw [List.append_assoc] at hs3
     exact hs3
    ·cases h
   ·cases h
  ·rename_i hne
   obtain ⟨h1, h2⟩ := al h
   simp only [Bool.and_eq_true] at h1
   obtain ⟨hl, hcs⟩ := h1
   have hs1 : Sat ((items ρ T st.G ++ items ρ T fr.H) ++ box b e' (AV.ae ρ cs) :: Φ) w := by rw [List.append_assoc]; exact hs
   have hs2 := hs1.LO
   rw [List.append_assoc] at hs2
   have ev : s9 ⟨some d, op, ty, pos, af, gd⟩ b = .pointer (some ⟨b, 0, none⟩) := by
    unfold s9
    split
    ·rename_i heq
     exact (hne _ _ _ heq).elim
    ·rfl
   rw [ev]
   refine aA.new (ρ' := ρ.set st.c { nm0 with b := b }) (av := .ptr st.c 0) hl h2 Nms.aF (Nat.le_succ _) rfl (by simp only [AV.val, Nms.aV]) ?_
   show Sat (items _ T (_ :: st.G) ++ _) w
   have e := aE (T := T) (Nms.aF (ρ := ρ) (j := st.c) (x := { nm0 with b := b })) (StB.bM.1 hl).2.2.1
   rw [items, List.map_cons]
   rw [items] at e
   rw [e]
   simp only [Row.item, Nms.aV]
   rw [AV.aX Nms.aF _ hcs]
   exact hs2
 ·cases h
end
end Go.Proofs.YtdhgpnejphlfpaaDoor
