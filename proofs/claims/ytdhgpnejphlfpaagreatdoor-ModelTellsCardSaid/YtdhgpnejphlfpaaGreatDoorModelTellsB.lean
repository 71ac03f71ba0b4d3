/-
  Own texts for the statement ModelTells, cut down to what it needs: K16, KEx, B1, B2, B3, B4, B5, B6, B7, B8, B9, B10, B11, B12, B13. (cut and joined by a program)
-/
import Derived.Test.YtdhgpnejphlfpaaGreatDoorModelTellsA
import Derived.RecoverIn
namespace Go.Proofs.YtdhgpnejphlfpaaGreatDoor
open Go.Lib
/-! models of functions that may panic -/
def cr {E A B : Type} (m : Option (Except E A)) (k : A → Option (Except E B)) : Option (Except E B) := m.bind fun a => match a with
 | .error p => some (.error p)
 | .ok x => k x
def Hc {E A B : Type} (m : Option (Except E A)) (kp : E → Option B) (k : A → Option B) : Option B := m.bind fun a => match a with
 | .error p => kp p
 | .ok x => k x
theorem Gz {E A B : Type} {m : Option (Except E A)} {kp : E → Option B} {k : A → Option B} {r : B} (h : Hc m kp k = some r) : (∃ p, m = some (.error p) ∧ kp p = some r) ∨ ∃ x, m = some (.ok x) ∧ k x = some r := by
 cases m with
 | none => cases h
 | some a =>
  cases a with
  | error p => exact .inl ⟨p, rfl, h⟩
  | ok x => exact .inr ⟨x, rfl, h⟩
abbrev pan (v : Value) : List PanicEntry := [{ v := v, recovered := false }]
abbrev CallsE (P : Program) (f : FuncId) (args : List Value) (w : World) {E A : Type} (r : Except E A) (enc : E → Value) (Φ : Ctx) (S : A → Value → World → Prop) : Prop :=
 jv P f args w (fun v w' => ∃ x, r = .ok x ∧ S x v w') (fun ps w' => ∃ p, r = .error p ∧ ps = pan (enc p) ∧ Sat Φ w')
section
variable {P : Program} {ρ : Option Nat} {Q : ba} {n : Nat} {D : List Deferred} {E : Env} {w : World} {ops : Array Oper} {rest : List Oper} {Φ : Ctx}
theorem Kq {x : Operand} {t : TypeId} {v : Value} {dst : Option Tmp} {ty : TypeId} {pos : String} {af : Array Edge} (hx : Opd E true x (.iface t v))
  (h : At Q (.panic (pan (.iface t v))) n D E w) : WL P ρ ops Q n D (⟨dst, .panic x, ty, pos, af, none⟩ :: rest) E w := fun a hf hD =>
 wpListIn_plain rfl fun K hK => ld rfl (by
  have e : (execOp a.eval (⟨dst, .panic x, ty, pos, af, none⟩ : Oper)).run P w = .halt (.panic (.iface t v)) w := by
   simp only [execOp, hx n a hf rfl]
   rfl
  rw [e]
  exact h a hf hD)
theorem LJ {fn : Func} {S : Value → World → Prop} {Sp : List PanicEntry → World → Prop} {ps : List PanicEntry} (h : Sp ps w) : AtP (BP P fn S Sp) ps [] w := fun a hd => by
 show LeavesInM _ _ _ _ _ _ a.defers _ _
 rw [hd]
 exact h
variable {g : Bool} {dst : Option Tmp} {ty : TypeId} {pos : String} {af : Array Edge} {gd : Option (Nat × Bool)}
theorem Cv {x : Operand} {v : Value} {s t : TypeId} {dd : TypeDesc} (ht : P.underlying t = some dd) (hd : la dd = false) (hx : Opd E g x (.iface t v)) : Run P E g ⟨dst, .typeAssert x s t true, ty, pos, af, gd⟩ w (.tuple #[v, .bool true]) :=
 fun n a hf hg => by
  simp only [execOp, hx n a hf hg, Instr.typeAssert, Sem.run_bind, run_underlying ht, Result.andThen_ok]
  cases dd <;> first | (dsimp only; rw [if_pos rfl]; rfl) | (simp [la] at hd)
theorem Cm {x : Operand} {z : Value} {s t : TypeId} {size bytes : Nat} {dd : TypeDesc} (ht : P.underlying t = some dd) (hd : la dd = false) (hz : TI P t size bytes z) (hx : Opd E g x .nilIface) : Run P E g ⟨dst, .typeAssert x s t true, ty, pos, af, gd⟩ w (.tuple #[z, .bool false]) :=
 fun n a hf hg => by
  simp only [execOp, hx n a hf hg, Instr.typeAssert, Sem.run_bind, run_underlying ht, Result.andThen_ok]
  cases dd <;> first | (simp [la] at hd; done) | (simp only [Sem.run_bind, hz.zero w, Result.andThen_ok, if_true]; rfl)
/-! a deferred call -/
def xW (P : Program) (f : FuncId) (args : List Value) (u : FrameMode) (w : World) (R : FrameMode → World → Prop) : Prop :=
 CallsDIn (FW none) 0 P f args.toArray u w fun e u' w' => e = .returned (.tuple #[]) ∧ R u' w'
abbrev dfr (f : FuncId) (cap : List Value) : Deferred := { target := .fn (.func f) cap.toArray, args := #[] }
theorem K3 {f : FuncId} {fo : Operand} {cap : List Value} {tys : Array TypeId} {ty : TypeId} {pos : String} {af : Array Edge} (hfo : Opd E true fo (.func (.func f) #[] cap.toArray))
  (h : WL P none ops Q n (dfr f cap :: D) rest E w) : WL P none ops Q n D (⟨none, .defer ⟨.value fo, #[], tys⟩, ty, pos, af, none⟩ :: rest) E w := fun a hf hD =>
 wpListIn_plain rfl fun K hK => by
  refine ⟨fun _ _ => trivial, ?_⟩
  have e : ((⟨none, .defer ⟨.value fo, #[], tys⟩, ty, pos, af, none⟩ : Oper).semAt (FW none).round a.eval).run P w = .ok (.defer (dfr f cap)) w := by
   show (execOp a.eval (⟨none, .defer ⟨.value fo, #[], tys⟩, ty, pos, af, none⟩ : Oper)).run P w = _
   simp only [execOp, resolve, hfo n a hf rfl, Deferred.ofValue, Sem.run_bind, Sem.run_pure, Result.andThen_ok]
   rw [show (#[] ++ Array.map a.eval #[] : Array Value) = #[] by simp]
  rw [e, Oper.uponIn_defer]
  refine hK _ _ (h _ ⟨hf.size, hf.at_⟩ ?_)
  show dfr f cap :: a.defers = _
  rw [hD]
theorem zd {a : Act} (h : Fits n E a) (ds : List Deferred) : Fits n E { a with defers := ds } := ⟨h.size, h.at_⟩
theorem Au {fn : Func} {f : FuncId} {cap : List Value} {tmps : Array Value} {R : Ending → World → Prop} {u : FrameMode} {ds : List Deferred} (hu : u ≠ .run) (he : ia P f)
  (hc : xW P f cap u w fun u' w' => LeavesInM (FW none) 0 P fn tmps R ds (settle u') w') : LeavesInM (FW none) 0 P fn tmps R (dfr f cap :: ds) u w := by
 refine ⟨hu, .inr ⟨wv, .func f, cap.toArray, f, cap.toArray, rfl, ?_, fun _ _ => trivial, ?_⟩⟩
 ·have := he cap.toArray w
  simpa [dfr, invoke] using this
 ·refine CallsDIn.mono hc fun e u' w' h => ?_
  obtain ⟨rfl, h⟩ := h
  exact h
theorem HO {fn : Func} {S : Value → World → Prop} {Sp : List PanicEntry → World → Prop} {f : FuncId} {cap : List Value} {T : World → Prop} (he : ia P f)
  (hc : xW P f cap .returning w fun u' w' => u' = .returning ∧ T w') (h : ∀ w', T w' → At (BP P fn S Sp) .ret n [] E w') : At (BP P fn S Sp) .ret n [dfr f cap] E w := fun a hf hd => by
 show LeavesInM _ _ _ _ _ _ a.defers _ _
 rw [hd]
 refine Au (by simp) he (CallsDIn.mono hc fun e u' w' hx => ?_)
 obtain ⟨he', rfl, hT⟩ := hx
 exact ⟨he', h w' hT { a with defers := [] } (zd hf []) rfl⟩
theorem L6 {fn : Func} {S : Value → World → Prop} {Sp : List PanicEntry → World → Prop} {f : FuncId} {cap : List Value} {T : World → Prop} {v : Value} (he : ia P f)
  (hc : xW P f cap (.panicking (pan v)) w fun u' w' => u' = .panicking [{ v := v, recovered := true }] ∧ T w') (h : ∀ w', T w' → At (BP P fn S Sp) .ret n [] E w') : At (BP P fn S Sp) (.panic (pan v)) n [dfr f cap] E w := fun a hf hd => by
 show LeavesInM _ _ _ _ _ _ a.defers _ _
 rw [hd]
 refine Au (by simp) he (CallsDIn.mono hc fun e u' w' hx => ?_)
 obtain ⟨he', rfl, hT⟩ := hx
 exact ⟨he', h w' hT { a with defers := [] } (zd hf []) rfl⟩
/-! the closure -/
def QB (T : World → Prop) : ba := fun e a w => match e with
 | .normal => a.defers = [] ∧ T w
 | .ret => a.defers = [] ∧ T w
 | _ => False
theorem OG {T : World → Prop} (h : T w) : At (QB T) .normal n [] E w := fun _ _ hd => ⟨hd, h⟩
theorem Oe {T : World → Prop} (h : T w) : At (QB T) .ret n [] E w := fun _ _ hd => ⟨hd, h⟩
def CJ (o : Oper) : Bool := match o.op with
 | .move _ => true
 | .assign _ => true
 | .alloc _ => true
 | .extract _ _ => true
 | .store _ _ _ => true
 | .typeAssert _ _ _ _ => true
 | _ => false
def Eo : Result Next → Prop
 | .ok (.value _) _ => True
 | .ok .skip _ => True
 | .halt _ _ => True
 | _ => False
theorem NI {m : Sem Value} {w : World} : Eo ((do pure (Next.value (← m)) : Sem Next).run P w) := by
 rw [Sem.run_bind]
 cases m.run P w <;> trivial
theorem NN {m : Sem Unit} {w : World} : Eo ((do m; pure Next.skip : Sem Next).run P w) := by
 rw [Sem.run_bind]
 cases m.run P w <;> trivial
theorem Kw {o : Oper} (h : CJ o = true) (ev : Operand → Value) (w : World) : Eo ((execOp ev o).run P w) := by
 obtain ⟨dst, op, ty, pos, af, g⟩ := o
 cases op <;> first | (cases h; done) | exact NI | exact NN | trivial
theorem Dl {ops : Array Oper} {Q' : ba} {QS : Exit → Act → List Frame → World → Prop} {cs : List Frame} (hQ : ∀ e a w, Q' e a w → QS e a cs w) : ∀ (l : List Oper) (k : Nat), l.all CJ = true → (∀ j, l[j]? = ops[k + j]?) → ∀ (a : Act) (w : World), wpListIn (FW none) 0 P ops Q' l a w →
  wpOpsSIn (FW none) 0 P ops QS (List.range' k l.length) a cs w
 | [], k, _, _, a, w, h => hQ _ _ _ h
 | o :: l, k, hc, hk, a, w, h => by
  have h0 : ops[k]? = some o := by simpa using (hk 0).symm
  rw [List.all_cons, Bool.and_eq_true] at hc
  have ih := Dl (ops := ops) hQ l (k + 1) hc.2 (fun j => by have := hk (j + 1); simpa [Nat.add_assoc, Nat.add_comm 1 j] using this)
  rw [List.length_cons, List.range'_succ]
  simp only [wpOpsSIn, h0]
  simp only [wpListIn] at h
  refine ⟨fun _ _ => trivial, ?_⟩
  split at h
  ·rename_i hw
   rw [if_pos hw]
   have h2 := h.2
   have hcalm := Kw (P := P) hc.1 a.eval w
   rw [show (o.semAt (FW none).round a.eval) = execOp a.eval o from rfl] at h2
   generalize (execOp a.eval o).run P w = r at h2 hcalm
   cases r with
   | ok x w' =>
    cases x <;> first | exact hcalm.elim | exact ih _ _ h2
   | halt hh w' =>
    cases hh <;> first | exact hQ _ _ _ h2 | exact h2.elim
  ·rename_i hw
   rw [if_neg hw]
   exact ih _ _ h.2
theorem NO {fn : Func} {c₀ : Frame} {cs : List Frame} {T : World → Prop} {u' : FrameMode} (hres : fn.results = #[]) {e : Exit} {a : Act} {w : World} (h : QB T e a w) :
  bodyPostS P fn c₀ cs (fun e u2 w' => e = .returned (.tuple #[]) ∧ u2 = u' ∧ T w') e a ({ c₀ with mode := u' } :: cs) w := by
 have hr : (results fn a.tmps).run P w = .ok (.tuple #[]) w := by
  rw [AL, hres]; simp
 cases e <;> first | exact ⟨h.1, u', rfl, _, hr, rfl, rfl, h.2⟩ | exact h.elim
theorem AU {f : FuncId} {fn : Func} {id : Nat} {ops : Array Oper} {l : List Oper} {y : Code} {d : Tmp} {ty : TypeId} {pos : String} {af : Array Edge} {tys : Array TypeId} {cap : List Value} {u u' : FrameMode} {v : Value} {T : World → Prop}
  (hf : P.funcs[f]? = some fn) (hb : fn.body = some (.seq (.region id ops false) y)) (hops : ops.toList = ⟨some d, .call ⟨.builtin .recover, #[], tys⟩, ty, pos, af, none⟩ :: l) (hcalm : l.all CJ = true) (hres : fn.results = #[]) (hn : fn.ntmps = n) (hl : Nat.ble cap.length n = true) (hd : Nat.blt d n = true)
  (hu : (u = .returning ∧ u' = .returning ∧ v = .nilIface) ∨ (u = .panicking (pan v) ∧ u' = .panicking [{ v := v, recovered := true }]))
  (h : WL P none ops (Exit.then (y.wpIn (FW none) 0 P (QB T)) (QB T)) n [] l ((d, true, v) :: iota 0 cap) w) : xW P f cap u w fun u2 w' => u2 = u' ∧ T w' := by
 refine callsDIn_of_wpSIn hf hb trivial fun c₀ cs hc => ?_
 have hfits : Fits n (iota 0 cap) { tmps := cap.toArray ++ Array.replicate (fn.ntmps - cap.toArray.size) undef, defers := [] } := by
  refine ⟨?_, fun t g v ht => ?_⟩
  ·have : cap.length ≤ n := by simpa using hl
   simp [hn]; omega
  ·obtain ⟨j, rfl, hv, rfl⟩ := xo cap 0 t g v ht
   have hj : j < cap.length := by
    rcases Nat.lt_or_ge j cap.length with h | h
    ·exact h
    ·rw [List.getElem?_eq_none h] at hv; cases hv
   simp only [rW, cond_true, Nat.zero_add, Array.getD_eq_getD_getElem?]
   rw [Array.getElem?_append_left (by simpa using hj)]
   simp [hv]
 have hd0 : ({ tmps := cap.toArray ++ Array.replicate (fn.ntmps - cap.toArray.size) undef, defers := [] } : Act).defers = [] := rfl
 generalize ({ tmps := cap.toArray ++ Array.replicate (fn.ntmps - cap.toArray.size) undef, defers := [] } : Act) = a0 at hfits hd0
 refine wpSIn_seq (wpSIn_region ?_)
 have hsz : ops.size = l.length + 1 := by rw [← Array.length_toList, hops]; rfl
 rw [hsz, List.range_eq_range', List.range'_succ]
 have h0 : ops[0]? = some ⟨some d, .call ⟨.builtin .recover, #[], tys⟩, ty, pos, af, none⟩ := by
  rw [← Array.getElem?_toList, hops]; rfl
 have hj : ∀ j, l[j]? = ops[1 + j]? := fun j => by
  rw [← Array.getElem?_toList, hops, Nat.add_comm 1 j]; rfl
 have hrun : (execOp a0.eval (⟨some d, .call ⟨.builtin .recover, #[], tys⟩, ty, pos, af, none⟩ : Oper)).run P w = .ok .recover w := by
  simp [execOp, resolve, invoke, builtin]
 have hput : Fits n ((d, true, v) :: iota 0 cap) (a0.put (some d) v) := hfits.put (g := true) (v := v) hd
 have hfin := Dl (cs := { c₀ with mode := u' } :: cs) (QS := Exit.thenS (y.wpSIn (FW none) 0 P (bodyPostS P fn c₀ cs fun e u2 w' => e = .returned (.tuple #[]) ∧ u2 = u' ∧ T w')) (bodyPostS P fn c₀ cs fun e u2 w' => e = .returned (.tuple #[]) ∧ u2 = u' ∧ T w'))
  (fun e a w hq => by
   cases e with
   | normal => exact wpSIn_of_wpIn rfl (Code.wpIn_mono (fun e a w hq => NO hres hq) hq)
   | exit i => exact False.elim hq
   | goto i => exact False.elim hq
   | ret => exact NO (P := P) (c₀ := c₀) (cs := cs) (u' := u') (T := T) (e := .ret) hres hq
   | panic i => exact False.elim hq
   | outgrown => exact False.elim hq) l 1 hcalm hj _ _ (h _ hput hd0)
 simp only [wpOpsSIn, h0]
 refine ⟨fun _ _ => trivial, ?_⟩
 rw [if_pos (by simp [Region.wanted]), hrun]
 rcases hu with ⟨h1, h2, h3⟩ | ⟨h1, h2⟩
 ·have hrec : recoverD (c₀ :: cs) = none := by simp [recoverD, hc, h1]
  have hce : ({ c₀ with mode := u' } : Frame) = c₀ := by rw [h2, ← h1, ← hc]
  simp only [hrec]
  rw [hce, h3] at hfin
  exact hfin
 ·have hrec : recoverD (c₀ :: cs) = some (v, { c₀ with mode := u' } :: cs) := by simp [recoverD, hc, h1, h2, pan]
  simp only [hrec]
  exact hfin
end
end Go.Proofs.YtdhgpnejphlfpaaGreatDoor
namespace Go.Proofs.YtdhgpnejphlfpaaGreatDoor
inductive Ex where
 | mk (op n at_ : Int) (l : List Ex)
instance : Inhabited Ex := ⟨.mk 0 0 0 []⟩
def Ex.op : Ex → Int
 | .mk o _ _ _ => o
def Ex.n : Ex → Int
 | .mk _ n _ _ => n
def Ex.at_ : Ex → Int
 | .mk _ _ a _ => a
def Ex.l : Ex → List Ex
 | .mk _ _ _ l => l
inductive sR (M : Nat → Prop) (w : World) : List Value → Ex → Prop
 | nil (op n a : Int) (ad : Option Addr) : sR M w [.int .i64 op, .int .i64 n, .int .i64 a, sl (ad, 0, 0)] (.mk op n a [])
 | some (op n a : Int) (l : List Ex) (b off cap : Nat) (cs : Array Value) (e : TypeId) (fr : Nat × Nat) (hM : ¬ M b) (hb : w.heap[b]? = some (.cells cs e fr)) (hc : l.length ≤ cap) (ho : off + cap * 4 ≤ cs.size)
   (hl : ((cs.toList.drop off).take (l.length * 4)).length = l.length * 4) (h : ∀ i (hi : i < l.length), sR M w ((((cs.toList.drop off).take (l.length * 4)).drop (i * 4)).take 4) l[i]) :
   sR M w [.int .i64 op, .int .i64 n, .int .i64 a, sl (some ⟨b, off, none⟩, l.length, cap)] (.mk op n a l)
theorem sR.len {M : Nat → Prop} {w : World} {vs : List Value} {x : Ex} (h : sR M w vs x) : vs.length = 4 := by cases h <;> rfl
theorem sR.mv {M M' : Nat → Prop} {w w' : World} {vs : List Value} {x : Ex} (h : sR M w vs x) (m : Mv M w M' w') : sR M' w' vs x := by
 induction h with
 | nil op n a ad => exact .nil op n a ad
 | some op n a l b off cap cs e fr hM hb hc ho hl _ ih =>
  obtain ⟨h1, h2⟩ := m.2 b (Array.getElem?_eq_some_iff.1 hb).1 hM
  exact .some op n a l b off cap cs e fr h1 (by rw [h2]; exact hb) hc ho hl ih
def vR : Rep Ex where
 n := 4
 rd := sR
 len := sR.len
 one h := by cases h <;> simp [Value.oneCell', sl]
 mv := sR.mv
theorem Gq {M : Nat → Prop} {w : World} {vs : List Value} {x : Ex} (h : vR.rd M w vs x) : ∃ v : SLV, vs = [(.int .i64 x.op), (.int .i64 x.n), (.int .i64 x.at_), (sl v)] ∧ SRd vR M w (sl v) x.l := by
 cases h with
 | nil op n a ad => exact ⟨_, rfl, .inl ⟨⟨_, rfl⟩, rfl⟩⟩
 | some op n a l b off cap cs e fr hM hb hc ho hl h => exact ⟨_, rfl, .inr ⟨b, off, cap, cs, e, fr, rfl, hM, hb, hc, ho, hl, h⟩⟩
theorem yZ {M : Nat → Prop} {w : World} {op n a : Int} {v : Value} {l : List Ex} (h : (RSl vR).rd M w [v] l) : vR.rd M w [(.int .i64 op), (.int .i64 n), (.int .i64 a), v] (.mk op n a l) := by
 obtain ⟨p, hp, h⟩ := h
 have hv : v = sl p := by simpa using hp
 subst hv
 rcases h with ⟨⟨ad, h⟩, rfl⟩ | ⟨b, off, cap, cs, e, fr, h, hM, hb, hc, ho, hl, hr⟩
 ·rw [h]; exact .nil op n a ad
 ·rw [h]; exact .some op n a l b off cap cs e fr hM hb hc ho hl hr
theorem Ex.eta (x : Ex) : Ex.mk x.op x.n x.at_ x.l = x := by cases x; rfl
end Go.Proofs.YtdhgpnejphlfpaaGreatDoor
namespace Go.Proofs.YtdhgpnejphlfpaaGreatDoor
open Go.Lib
abbrev ifS {α : Type} (c : Bool) (a b : α) : α := match c with
 | true => a
 | false => b
inductive Ty where
 | i (k : IntKind)
 | bo
 | s
 | un
 | n
 | p (x y : Ty)
 | l (x : Ty)
 | mp (k v : Ty)
 | ex
 deriving DecidableEq
def Ty.T : Ty → Type
 | .i _ => Int
 | .bo => Bool
 | .s => Str
 | .un => Unit
 | .n => Nat
 | .p x y => x.T × y.T
 | .l x => List x.T
 | .mp k v => Option (List (k.T × v.T))
 | .ex => Ex
def RNo (α : Type) : Rep α where
 n := 0
 rd _ _ _ _ := False
 len h := h.elim
 one h := h.elim
 mv h _ := h.elim
def Ty.rep : (t : Ty) → Rep t.T
 | .i k => RI k
 | .bo => RB
 | .s => RS
 | .un => RU
 | .n => RNo _
 | .p x y => RP x.rep y.rep
 | .l x => RSl x.rep
 | .mp _ _ => RNo _
 | .ex => vR
structure Dyn where
 t : Ty
 x : t.T
def Dyn.as (t : Ty) (d : Dyn) : Option t.T := if h : d.t = t then some (h ▸ d.x) else none
theorem Dyn.yn {t : Ty} {d : Dyn} {x : t.T} (h : d.as t = some x) : d = ⟨t, x⟩ := by
 unfold Dyn.as at h
 split at h
 ·rename_i e
  obtain ⟨t', y⟩ := d
  simp only at e
  subst e
  cases h; rfl
 ·cases h
theorem Dyn.MT {t : Ty} {x : t.T} : Dyn.as t ⟨t, x⟩ = some x := by simp [Dyn.as]
inductive AV where
 | int (k : IntKind) (x : Int)
 | bool (x : Bool)
 | str (x : Str)
 | agg (l : List AV)
 | tuple (l : List AV)
 | ptr (id off : Nat)
 | sl (id : Nat)
 | adr (id off : Nat)
 | fn (f : FuncId) (a b : List AV)
 | ifc (t : TypeId) (v : AV)
 | mp (id : Nat)
 | gp (b : Nat)
 | nv (id : Nat)
 | sfp (id : Nat) (f : Bool)
 | raw (v : Value)
structure Nm where
 b : Nat
 v : SLV
 a : Addr
 m : Option Nat
 x : Value
 y : Dyn
abbrev Nms := Nat → Nm
def nm0 : Nm := ⟨0, (none, 0, 0), ⟨0, 0, none⟩, none, .bool false, ⟨.un, ()⟩⟩
mutual
def AV.val (ρ : Nms) : AV → Value
 | .int k x => .int k x
 | .bool x => .bool x
 | .str x => S x
 | .agg l => .agg (AV.ah ρ l).toArray
 | .tuple l => .tuple (AV.ah ρ l).toArray
 | .ptr id off => .pointer (some ⟨(ρ id).b, off, none⟩)
 | .sl id => Go.Proofs.YtdhgpnejphlfpaaGreatDoor.sl (ρ id).v
 | .adr id off => .pointer (some ((ρ id).a.add off))
 | .fn f a b => .func (.func f) (AV.ah ρ a).toArray (AV.ah ρ b).toArray
 | .ifc t v => .iface t (v.val ρ)
 | .mp id => .map (ρ id).m
 | .gp b => .pointer (some ⟨b, 0, none⟩)
 | .nv id => (ρ id).x
 | .sfp id f => OB f (ρ id).b
 | .raw v => v
def AV.ah (ρ : Nms) : List AV → List Value
 | [] => []
 | v :: l => v.val ρ :: AV.ah ρ l
end
mutual
def AV.low (c : Nat) : AV → Bool
 | .agg l | .tuple l => AV.bJ c l
 | .fn _ a b => AV.bJ c a && AV.bJ c b
 | .ifc _ v => v.low c
 | .ptr id _ | .sl id | .adr id _ | .mp id | .nv id | .sfp id _ => Nat.blt id c
 | _ => true
def AV.bJ (c : Nat) : List AV → Bool
 | [] => true
 | v :: l => v.low c && AV.bJ c l
end
def aE (c : Nat) (ρ ρ' : Nms) : Prop := ∀ j, j < c → ρ' j = ρ j
theorem aE.refl {c : Nat} {ρ : Nms} : aE c ρ ρ := fun _ _ => rfl
theorem aE.trans {c d : Nat} {a b e : Nms} (h : aE c a b) (k : aE d b e) (hcd : c ≤ d) : aE c a e := fun j hj => (k j (Nat.lt_of_lt_of_le hj hcd)).trans (h j hj)
theorem aE.less {c d : Nat} {a b : Nms} (h : aE d a b) (hcd : c ≤ d) : aE c a b := fun j hj => h j (Nat.lt_of_lt_of_le hj hcd)
mutual
theorem AV.js {ρ ρ' : Nms} {c : Nat} (ha : aE c ρ ρ') : (v : AV) → v.low c = true → v.val ρ' = v.val ρ
 | .int _ _, _ | .bool _, _ | .str _, _ | .raw _, _ | .gp _, _ => by simp only [AV.val]
 | .agg l, h => by simp only [AV.val]; rw [AV.bH ha l (by simpa only [AV.low] using h)]
 | .tuple l, h => by simp only [AV.val]; rw [AV.bH ha l (by simpa only [AV.low] using h)]
 | .fn _ a b, h => by
  simp only [AV.low, Bool.and_eq_true] at h
  simp only [AV.val]; rw [AV.bH ha a h.1, AV.bH ha b h.2]
 | .ifc _ v, h => by simp only [AV.val]; rw [AV.js ha v (by simpa only [AV.low] using h)]
 | .ptr _ _, h => by simp only [AV.val]; rw [ha _ (by simpa only [AV.low, Nat.blt_eq] using h)]
 | .sl _, h => by simp only [AV.val]; rw [ha _ (by simpa only [AV.low, Nat.blt_eq] using h)]
 | .adr _ _, h => by simp only [AV.val]; rw [ha _ (by simpa only [AV.low, Nat.blt_eq] using h)]
 | .mp _, h => by simp only [AV.val]; rw [ha _ (by simpa only [AV.low, Nat.blt_eq] using h)]
 | .nv _, h => by simp only [AV.val]; rw [ha _ (by simpa only [AV.low, Nat.blt_eq] using h)]
 | .sfp _ _, h => by simp only [AV.val]; rw [ha _ (by simpa only [AV.low, Nat.blt_eq] using h)]
theorem AV.bH {ρ ρ' : Nms} {c : Nat} (ha : aE c ρ ρ') : (l : List AV) → AV.bJ c l = true → AV.ah ρ' l = AV.ah ρ l
 | [], _ => by simp only [AV.ah]
 | v :: l, h => by
  simp only [AV.bJ, Bool.and_eq_true] at h
  simp only [AV.ah]
  rw [AV.js ha v h.1, AV.bH ha l h.2]
end
mutual
theorem AV.eB {c d : Nat} (hcd : c ≤ d) : (v : AV) → v.low c = true → v.low d = true
 | .int _ _, _ | .bool _, _ | .str _, _ | .raw _, _ | .gp _, _ => by simp only [AV.low]
 | .agg l, h => by simp only [AV.low] at h ⊢; exact AV.iC hcd l h
 | .tuple l, h => by simp only [AV.low] at h ⊢; exact AV.iC hcd l h
 | .fn _ a b, h => by simp only [AV.low, Bool.and_eq_true] at h ⊢; exact ⟨AV.iC hcd a h.1, AV.iC hcd b h.2⟩
 | .ifc _ v, h => by simp only [AV.low] at h ⊢; exact AV.eB hcd v h
 | .ptr _ _, h => by simp only [AV.low, Nat.blt_eq] at h ⊢; omega
 | .sl _, h => by simp only [AV.low, Nat.blt_eq] at h ⊢; omega
 | .adr _ _, h => by simp only [AV.low, Nat.blt_eq] at h ⊢; omega
 | .mp _, h => by simp only [AV.low, Nat.blt_eq] at h ⊢; omega
 | .nv _, h => by simp only [AV.low, Nat.blt_eq] at h ⊢; omega
 | .sfp _ _, h => by simp only [AV.low, Nat.blt_eq] at h ⊢; omega
theorem AV.iC {c d : Nat} (hcd : c ≤ d) : (l : List AV) → AV.bJ c l = true → AV.bJ d l = true
 | [], _ => by simp only [AV.bJ]
 | v :: l, h => by
  simp only [AV.bJ, Bool.and_eq_true] at h ⊢
  exact ⟨AV.eB hcd v h.1, AV.iC hcd l h.2⟩
end
theorem yX {c : Nat} : {l m : List AV} → AV.bJ c l = true → AV.bJ c m = true → AV.bJ c (l ++ m) = true
 | [], m, _, h => h
 | v :: l, m, h, k => by
  simp only [List.cons_append, AV.bJ, Bool.and_eq_true] at h ⊢
  exact ⟨h.1, yX h.2 k⟩
theorem AV.DE {ρ : Nms} {l : List AV} {i : Nat} {v : AV} (h : l[i]? = some v) : (AV.ah ρ l)[i]? = some (v.val ρ) := by
 induction l generalizing i with
 | nil => simp at h
 | cons u l ih =>
  cases i with
  | zero => simp at h; subst h; simp [AV.ah]
  | succ i => simp only [AV.ah, List.getElem?_cons_succ] at h ⊢; exact ih h
theorem AV.fJ {ρ : Nms} : {l : List AV} → {k : Nat} → AV.ah ρ (l.drop k) = (AV.ah ρ l).drop k
 | l, 0 => by simp
 | [], k + 1 => by simp [AV.ah]
 | v :: l, k + 1 => by simp only [AV.ah, List.drop_succ_cons]; exact AV.fJ
theorem AV.jn {ρ : Nms} : {l : List AV} → {k : Nat} → AV.ah ρ (l.take k) = (AV.ah ρ l).take k
 | l, 0 => by simp [AV.ah]
 | [], k + 1 => by simp [AV.ah]
 | v :: l, k + 1 => by simp only [AV.ah, List.take_succ_cons]; rw [AV.jn]
theorem AV.aW {ρ : Nms} : {l : List AV} → (AV.ah ρ l).length = l.length
 | [] => by simp [AV.ah]
 | v :: l => by simp [AV.ah, AV.aW]
theorem df {ρ : Nms} : {l m : List AV} → AV.ah ρ (l ++ m) = AV.ah ρ l ++ AV.ah ρ m
 | [], m => by simp [AV.ah]
 | v :: l, m => by simp only [List.cons_append, AV.ah]; rw [df]
abbrev GK := Option (Nat × Bool)
inductive Row where
 | box (id : Nat) (t : TypeId) (vs : List AV)
 | sli (g : GK) (id : Nat) (t : Ty) (l : List t.T) (clip : Bool)
 | own (id : Nat) (t : Ty) (e : TypeId) (l : List t.T) (ver : Nat)
 | kn (g : GK) (q id ver : Nat) (t : Ty) (i : Int) (x : t.T)
 | elm (g : GK) (id : Nat) (vs : List AV)
 | mp (id : Nat) (k v : Ty) (d : Option (List (k.T × v.T)))
 | it (id : Nat) (s : Str) (p : Nat)
 | eq (id : Nat) (v : AV)
 | gone
inductive Pt where
 | int (k : IntKind) | bool | str
 | sli (t : Ty)
 | own (t : Ty) (e : TypeId) (m : Bool)
 | slr (n : Nat)
 | bx (t : TypeId) (off : Nat) (m : Bool) (vs : List Pt)
 | ptr (n off : Nat)
 | mp (k v : Ty) (m : Bool)
 | it
 | agg (l : List Pt) | tup (l : List Pt)
 | fn (f : FuncId) (a b : List Pt)
 | ifc (t : TypeId) (p : Pt)
 | cst (v : AV)
 | dat (t : Ty) (o : List (Option TypeId))
 | sfp
 | same
abbrev an := List (Nat × GK × AV)
structure Tm where
 vs : List (Bool × Nat × Pt)
 th : List Nat
inductive HT where
 | o
 | c (a b : HT)
 | l (t : Tm) (a : HT)
 | j (t : Tm) (a b : HT)
 | s (a : HT)
 | n (k : Nat) (a : HT)
 | r (th : List Nat) (a : HT)
structure StB where
 c : Nat
 E : an
 G : List Row
 h : HT
structure Fr where
 F : an
 H : List Row
 n : Nat
inductive XE where
 | nrm | ret
 | ext (i : Nat)
 | gto (l : Nat)
 | pan (v : AV)
 | panE (v : AV)
/-! what rows say -/
def BB : Bool → Bool → Bool
 | true, b => b
 | false, b => !b
theorem Fz : {a b : Bool} → BB a b = true → a = b
 | true, _, h => h.symm
 | false, b, h => by cases b <;> simp_all [BB]
theorem Ii : (a : Bool) → BB a a = true
 | true => rfl
 | false => rfl
def GK.eq : GK → GK → Bool
 | none, none => true
 | some (j, p), some (k, q) => Nat.beq j k && BB p q
 | _, _ => false
theorem GK.eq_eq : {a b : GK} → a.eq b = true → a = b
 | none, none, _ => rfl
 | some (j, p), some (k, q), h => by
  simp only [GK.eq, Bool.and_eq_true] at h
  rw [Nat.eq_of_beq_eq_true h.1, Fz h.2]
abbrev Tbl := List ((Nat × Bool) × GK × Nat × Bool)
def xZ (p b : Bool) : Bool := match p with
 | true => b
 | false => !b
theorem FJ (p b : Bool) : xZ p b = (b == p) := by cases p <;> cases b <;> rfl
def Tbl.get : Tbl → GK → Bool
 | _, none => true
 | [], some _ => false
 | (k, par, _, b) :: T, some k' => ifS ( GK.eq (some k) (some k') ) ( (Tbl.get T par && xZ k.2 b) ) <| Tbl.get T (some k')
@[simp] theorem Tbl.get_none {T : Tbl} : T.get none = true := by cases T <;> rfl
theorem Tbl.zp {k : Nat × Bool} {par : GK} {rj : Nat} {b : Bool} {T : Tbl} {x : GK} (h : (!(GK.eq (some k) x)) = true) : Tbl.get ((k, par, rj, b) :: T) x = T.get x := by
 cases x with
 | none => simp
 | some k' =>
  simp only [Tbl.get]
  cases hb : GK.eq (some k) (some k')
  ·rfl
  ·rw [hb] at h; cases h
theorem GK.MM : (k : Nat × Bool) → GK.eq (some k) (some k) = true := fun k => by simp [GK.eq, Ii]
theorem Tbl.Jq {k : Nat × Bool} {par : GK} {rj : Nat} {b : Bool} {T : Tbl} : Tbl.get ((k, par, rj, b) :: T) (some k) = (T.get par && xZ k.2 b) := by
 simp only [Tbl.get, GK.MM]
def slR (p : SLV) : List Nat := match p.2.2 with
 | 0 => []
 | _ + 1 => blk (sl p)
section
variable {α : Type} {A : Rep α} {e : TypeId} {M M' : Nat → Prop} {w w' : World}
theorem Own.canon {p : SLV} {xs : List α} {R : List Nat} (h : Own A e M w (sl p) xs R) : (∀ b ∈ slR p, b ∈ R) ∧ ∀ (M' : Nat → Prop) (w' : World), Own A e M' w' (sl p) xs R → Own A e M' w' (sl p) xs (slR p) := by
 obtain ⟨a, n, cap⟩ := p
 cases cap with
 | zero =>
  refine ⟨fun b hb => (by cases hb), fun M' w' h' => ?_⟩
  have hx : xs = [] := by
   rcases h' with ⟨_, h'⟩ | ⟨_, h', _⟩
   ·obtain ⟨cells, ⟨_, h2⟩, _⟩ := h'
    rcases h2 with ⟨_, h0⟩ | ⟨g, c, cur, hv, hg, hh, hc, r⟩
    ·exact List.eq_nil_of_length_eq_zero h0
    ·simp only [sl, Value.slice.injEq] at hv
     exact List.eq_nil_of_length_eq_zero (by omega)
   ·exact h'
  obtain ⟨a', c', hl⟩ := h'.len
  simp only [sl, Value.slice.injEq] at hl
  have hn : n = 0 := by rw [hl.2.1, hx]; rfl
  subst hn
  exact .inr ⟨rfl, hx, ⟨a, rfl⟩, SRd.emp⟩
 | succ c =>
  have key : ∀ (M' : Nat → Prop) (w' : World), Own A e M' w' (sl (a, n, c + 1)) xs R → R = blk (sl (a, n, c + 1)) := fun M' w' h' => by
   rcases h' with ⟨h', _⟩ | ⟨_, _, ⟨a', h'⟩, _⟩
   ·exact h'
   ·simp only [sl, Value.slice.injEq] at h'; omega
  have hR := key _ _ h
  subst hR
  exact ⟨fun b hb => hb, fun M' w' h' => h'⟩
theorem Own.AM {p : SLV} {xs : List α} {R : List Nat} (h : Own A e M w (sl p) xs R) : Own A e M w (sl p) xs (slR p) := h.canon.2 _ _ h
def rZ (A : Rep α) (e : TypeId) (p : SLV) (l : List α) (q : Prop) : Item where
 own := slR p
 P M w := Own A e M w (sl p) l (slR p) ∧ q
 lt h := h.1.lt
 cd h m k _ := ⟨h.1.cd k m, h.2⟩
 cS := false
 hp h := by cases h
def zi (g : Bool) (A : Rep α) (p : SLV) (l : List α) (clip : Bool) : Item where
 own := []
 P M w := g = true → SRd A M w (sl p) l ∧ (clip = true → p.2.2 = l.length)
 lt _ b hb := by cases hb
 cd h m _ _ := fun hg => ⟨(h hg).1.mv m, (h hg).2⟩
 cS := true
 hp _ := rfl
def CD (p : Prop) : Item where
 own := []
 P _ _ := p
 lt _ b hb := by cases hb
 cd h _ _ _ := h
 cS := true
 hp _ := rfl
end
def uw : (t : Ty) → t.T → Value
 | .i k, x => .int k x
 | .s, x => S x
 | .bo, x => .bool x
 | _, _ => .bool false
def Row.item (ρ : Nms) (T : Tbl) : Row → Item
 | .box id t vs => Go.Proofs.YtdhgpnejphlfpaaGreatDoor.box (ρ id).b t (AV.ah ρ vs)
 | .sli g id t l b => zi (T.get g) t.rep (ρ id).v l b
 | .own id t e l ver => rZ t.rep e (ρ id).v l ((ρ ver).y = ⟨.l t, l⟩)
 | .kn g q id ver t i x => CD (T.get g = true → ∃ l : List t.T, (ρ ver).y = ⟨.l t, l⟩ ∧ idx l i = some x ∧ (ρ q).a = elA (Go.Proofs.YtdhgpnejphlfpaaGreatDoor.sl (ρ id).v) i t.rep.n)
 | .elm g id vs => elem (T.get g) (ρ id).a (AV.ah ρ vs)
 | .mp id k v d => omap (uw k) (uw v) (.map (ρ id).m) d
 | .it id s p => iter (ρ id).b s p
 | .eq id v => CD ((ρ id).x = v.val ρ)
 | .gone => CD True
abbrev items (ρ : Nms) (T : Tbl) (G : List Row) : Ctx := G.map (Row.item ρ T)
def Row.low (c : Nat) : Row → Bool
 | .box id _ vs => Nat.blt id c && AV.bJ c vs
 | .sli _ id _ _ _ | .mp id _ _ _ | .it id _ _ => Nat.blt id c
 | .own id _ _ _ ver => Nat.blt id c && Nat.blt ver c
 | .kn _ q id ver _ _ _ => Nat.blt q c && Nat.blt id c && Nat.blt ver c
 | .elm _ id vs => Nat.blt id c && AV.bJ c vs
 | .eq id v => Nat.blt id c && v.low c
 | .gone => true
def bg (c : Nat) : List Row → Bool
 | [] => true
 | r :: G => r.low c && bg c G
theorem Row.rE {ρ ρ' : Nms} {T : Tbl} {c : Nat} (ha : aE c ρ ρ') {r : Row} (h : r.low c = true) : r.item ρ' T = r.item ρ T := by
 cases r <;> simp only [Row.low, Bool.and_eq_true, Nat.blt_eq] at h
 ·simp only [Row.item]; rw [ha _ h.1, AV.bH ha _ h.2]
 ·simp only [Row.item]; rw [ha _ h]
 ·simp only [Row.item]; rw [ha _ h.1, ha _ h.2]
 ·simp only [Row.item]; rw [ha _ h.1.1, ha _ h.1.2, ha _ h.2]
 ·simp only [Row.item]; rw [ha _ h.1, AV.bH ha _ h.2]
 ·simp only [Row.item]; rw [ha _ h]
 ·simp only [Row.item]; rw [ha _ h]
 ·simp only [Row.item]; rw [ha _ h.1, AV.js ha _ h.2]
 ·simp only [Row.item]
theorem aX {ρ ρ' : Nms} {T : Tbl} {c : Nat} (ha : aE c ρ ρ') : {G : List Row} → bg c G = true → items ρ' T G = items ρ T G
 | [], _ => rfl
 | r :: G, h => by
  simp only [bg, Bool.and_eq_true] at h
  simp only [items, List.map_cons]
  rw [Row.rE ha h.1]
  have := aX (T := T) ha h.2
  simp only [items] at this
  rw [this]
def an.env (ρ : Nms) (T : Tbl) : an → Env
 | [] => []
 | (t, g, v) :: E => (t, T.get g, v.val ρ) :: an.env ρ T E
def an.low (c : Nat) : an → Bool
 | [] => true
 | x :: E => x.2.2.low c && an.low c E
theorem qm {ρ ρ' : Nms} {T : Tbl} {c : Nat} (ha : aE c ρ ρ') : {E : an} → E.low c = true → an.env ρ' T E = an.env ρ T E
 | [], _ => rfl
 | (t, g, v) :: E, h => by
  simp only [an.low, Bool.and_eq_true] at h
  simp only [an.env]
  rw [AV.js ha v h.1, qm ha h.2]
def StB.low (fr : Fr) (st : StB) : Bool := an.low st.c st.E && an.low st.c fr.F && bg st.c st.G && bg st.c fr.H
def Nms.set (ρ : Nms) (j : Nat) (x : Nm) : Nms := fun i => ifS (Nat.beq i j) x (ρ i)
theorem Nms.cj {ρ : Nms} {j : Nat} {x : Nm} : ρ.set j x j = x := by simp [Nms.set]
theorem Nms.bh {ρ : Nms} {j : Nat} {x : Nm} : aE j ρ (ρ.set j x) := fun i hi => by
 unfold Nms.set
 have : Nat.beq i j = false := by
  cases hb : Nat.beq i j
  ·rfl
  ·exact absurd (Nat.eq_of_beq_eq_true hb) (Nat.ne_of_lt hi)
 rw [this]
def j4 (E' E : Env) : Prop := ∀ t p, look E' t = some p → look E t = some p
theorem j4.refl {E : Env} : j4 E E := fun _ _ h => h
theorem j4.trans {A B C : Env} (h : j4 A B) (k : j4 B C) : j4 A C := fun t p hp => k t p (h t p hp)
theorem Fits.px {n : Nat} {E E' : Env} {a : Act} (h : Fits n E a) (hs : j4 E' E) : Fits n E' a := ⟨h.size, fun t g v ht => h.at_ t g v (hs t _ ht)⟩
theorem WC.px {P : Program} {ρ : Option Nat} {c : Code} {Q : ba} {n : Nat} {D : List Deferred} {E : Env} {w : World} (E' : Env) (hs : j4 E' E) (h : WC P ρ c Q n D E' w) : WC P ρ c Q n D E w :=
 fun a hf hd => h a (hf.px hs) hd
theorem At.px {e : Exit} {Q : ba} {n : Nat} {D : List Deferred} {E : Env} {w : World} (E' : Env) (hs : j4 E' E) (h : At Q e n D E' w) : At Q e n D E w :=
 fun a hf hd => h a (hf.px hs) hd
theorem y8 {A B : Env} {t : Nat} : look (A ++ B) t = match look A t with
  | some p => some p
  | none => look B t := by
 induction A with
 | nil => rfl
 | cons x A ih =>
  obtain ⟨r, g, v⟩ := x
  simp only [List.cons_append, look]
  cases Nat.beq r t
  ·simp only [cond_false]; exact ih
  ·rfl
theorem oZ {ρ : Nms} {T : Tbl} : {E F : an} → an.env ρ T (E ++ F) = an.env ρ T E ++ an.env ρ T F
 | [], _ => rfl
 | (t, g, v) :: E, F => by simp only [List.cons_append, an.env]; rw [oZ]
theorem aU {ρ : Nms} {T : Tbl} {G H : List Row} : items ρ T (G ++ H) = items ρ T G ++ items ρ T H := List.map_append
end Go.Proofs.YtdhgpnejphlfpaaGreatDoor
namespace Go.Proofs.YtdhgpnejphlfpaaGreatDoor
open Go.Lib
theorem aw {α : Type} {c : Bool} {a : Option α} {r : α} (h : ifS c a none = some r) : c = true ∧ a = some r := by
 cases c
 ·cases h
 ·exact ⟨rfl, h⟩
theorem Ha {α : Type} {c : Bool} {a : Option α} {r : α} (h : ifS c none a = some r) : c = false ∧ a = some r := by
 cases c
 ·exact ⟨rfl, h⟩
 ·cases h
theorem fD {α : Type} {c : Bool} {a b : Option α} {r : α} (h : ifS c a b = some r) : (c = true ∧ a = some r) ∨ (c = false ∧ b = some r) := by
 cases c
 ·exact .inr ⟨rfl, h⟩
 ·exact .inl ⟨rfl, h⟩
def Tbl.imp : Tbl → GK → GK → Bool
 | _, _, none => true
 | [], _, some _ => false
 | _, none, some _ => false
 | (k, par, _, _) :: T, some g, some g' => GK.eq (some g) (some g') || (ifS ( GK.eq (some k) (some g) ) ( Tbl.imp T par (some g') ) <| Tbl.imp T (some g) (some g')) && !(GK.eq (some k) (some g'))
theorem Tbl.kj : {T : Tbl} → {g g' : GK} → T.imp g g' = true → T.get g = true → T.get g' = true
 | T, g, none, _, _ => by simp
 | [], g, some g', h, _ => by simp [Tbl.imp] at h
 | _ :: _, none, some g', h, _ => by simp [Tbl.imp] at h
 | (k, par, rj, b) :: T, some g, some g', h, hg => by
  simp only [Tbl.imp, Bool.or_eq_true, Bool.and_eq_true] at h
  rcases h with h | ⟨h1, h2⟩
  ·rw [← GK.eq_eq h]; exact hg
  ·rw [Tbl.zp h2]
   cases hb : GK.eq (some k) (some g)
   ·rw [hb] at h1
    rw [Tbl.zp (by rw [hb]; rfl)] at hg
    exact Tbl.kj h1 hg
   ·rw [hb] at h1
    simp only [Tbl.get, hb, Bool.and_eq_true] at hg
    exact Tbl.kj h1 hg.1
def aK : an → Nat → Option (GK × AV)
 | [], _ => none
 | (r, g, v) :: E, t => ifS ( Nat.beq r t ) ( some (g, v) ) <| aK E t
def fj (E F : an) (t : Nat) : Option (GK × AV) := match aK E t with
 | some x => some x
 | none => aK F t
theorem ng {ρ : Nms} {T : Tbl} {t : Nat} : {E : an} → look (an.env ρ T E) t = (aK E t).map fun x => (T.get x.1, x.2.val ρ)
 | [] => rfl
 | (r, g', v') :: E => by
  simp only [aK, an.env, look]
  cases hb : Nat.beq r t
  ·simp only [cond_false]; exact ng
  ·rfl
abbrev aq (ρ : Nms) (T : Tbl) (E F : an) : Env := an.env ρ T E ++ an.env ρ T F
theorem ky {ρ : Nms} {T : Tbl} {t : Nat} {E F : an} : look (aq ρ T E F) t = (fj E F t).map fun x => (T.get x.1, x.2.val ρ) := by
 rw [y8, ng, ng]
 unfold fj
 cases aK E t <;> rfl
def cst : Value → AV
 | .int k x => .int k x
 | .bool x => .bool x
 | .string b => .str b.data.toList
 | v => .raw v
theorem FA {ρ : Nms} {v : Value} : (cst v).val ρ = v := by
 cases v <;> simp [cst, AV.val, S]
theorem nA {ρ : Nms} : {l : List Value} → AV.ah ρ (l.map cst) = l
 | [] => by simp [AV.ah]
 | v :: l => by simp only [List.map_cons, AV.ah]; rw [FA, nA]
theorem Mi {c : Nat} {v : Value} : (cst v).low c = true := by
 cases v <;> simp [cst, AV.low]
theorem Ej {c : Nat} : {l : List Value} → AV.bJ c (l.map cst) = true
 | [] => by simp [AV.bJ]
 | v :: l => by simp only [List.map_cons, AV.bJ]; rw [Mi, Ej]; rfl
def opA (T : Tbl) (E F : an) (g : GK) : Operand → Option AV
 | .tmp t => match fj E F t with
  | some x => ifS ( T.imp g x.1 ) ( some x.2 ) <| none
  | none => none
 | .const v => some (cst v)
 | .func f => some (.fn f [] [])
 | .global f => some (.gp f)
theorem aC {ρ : Nms} {T : Tbl} {E F : an} {g : GK} {x : Operand} {v : AV} (h : opA T E F g x = some v) : Opd (aq ρ T E F) (T.get g) x (v.val ρ) := by
 cases x with
 | tmp t =>
  unfold opA at h
  dsimp only at h
  cases hl : fj E F t with
  | none => rw [hl] at h; cases h
  | some x =>
   rw [hl] at h
   obtain ⟨h1, h2⟩ := aw h
   cases h2
   exact Opd.g (g' := T.get x.1) (by rw [ky, hl]; rfl) (Tbl.kj h1)
 | const u => cases h; rw [FA]; exact Opd.c
 | func f => cases h; simp only [AV.val, AV.ah]; exact Opd.f
 | global f => cases h; simp only [AV.val]; exact Opd.gl
theorem dx {ρ : Nms} {T : Tbl} {E F : an} {x : Operand} {v : AV} (h : opA T E F none x = some v) : Opd (aq ρ T E F) true x (v.val ρ) := by
 have := aC (ρ := ρ) h
 rwa [Tbl.get_none] at this
def sE (T : Tbl) (E F : an) (g : GK) : List Operand → Option (List AV)
 | [] => some []
 | x :: l => match opA T E F g x with
  | some v => match sE T E F g l with
   | some vs => some (v :: vs)
   | none => none
  | none => none
theorem mc {ρ : Nms} {T : Tbl} {E F : an} {g : GK} : {xs : List Operand} → {vs : List AV} → sE T E F g xs = some vs → l9 (aq ρ T E F) (T.get g) xs (AV.ah ρ vs)
 | [], vs, h => by cases h; simp only [AV.ah]; exact .nil
 | x :: l, vs, h => by
  unfold sE at h
  split at h
  ·rename_i v h1
   split at h
   ·rename_i us h2
    cases h
    simp only [AV.ah]
    exact .cons (aC h1) (mc h2)
   ·cases h
  ·cases h
/-! rows -/
def m8 (p : Row → Bool) : List Row → Option (Nat × Row)
 | [] => none
 | r :: G => ifS ( p r ) ( some (0, r) ) <| match m8 p G with
  | some x => some (x.1 + 1, x.2)
  | none => none
theorem kM {p : Row → Bool} : {G : List Row} → {i : Nat} → {r : Row} → m8 p G = some (i, r) → G[i]? = some r ∧ p r = true
 | [], _, _, h => by cases h
 | r0 :: G, i, r, h => by
  unfold m8 at h
  rcases fD h with ⟨h1, h2⟩ | ⟨h1, h2⟩
  ·cases h2; exact ⟨rfl, h1⟩
  ·split at h2
   ·rename_i x hx
    cases h2
    obtain ⟨h3, h4⟩ := kM (i := x.1) (r := x.2) hx
    exact ⟨by simpa using h3, h4⟩
   ·cases h2
def nk (id : Nat) : Row → Bool
 | .sli _ j _ _ _ | .own j _ _ _ _ => Nat.beq j id
 | _ => false
def yF (id : Nat) : Row → Bool
 | .box j _ _ => Nat.beq j id
 | _ => false
def Kj (id : Nat) : Row → Bool
 | .mp j _ _ _ => Nat.beq j id
 | _ => false
def Oh (id : Nat) : Row → Bool
 | .it j _ _ => Nat.beq j id
 | _ => false
def isEq (id : Nat) : Row → Bool
 | .eq j _ => Nat.beq j id
 | _ => false
def Ld (q : Nat) : Row → Bool
 | .kn _ j _ _ _ _ _ => Nat.beq j q
 | _ => false
def On (id : Nat) : Row → Bool
 | .elm _ j _ => Nat.beq j id
 | _ => false
def Row.id : Row → Nat
 | .box j _ _ | .sli _ j _ _ _ | .own j _ _ _ _ | .mp j _ _ _ | .it j _ _ | .eq j _ | .elm _ j _ | .kn _ j _ _ _ _ _ => j
 | .gone => 0
def Row.cS : Row → Bool
 | .sli .. | .elm .. | .eq .. | .kn .. | .gone => true
 | _ => false
theorem iL {ρ : Nms} {T : Tbl} {G : List Row} {Φ : Ctx} {i : Nat} {r : Row} (h : G[i]? = some r) : (items ρ T G ++ Φ)[i]? = some (r.item ρ T) := by
 have hl : i < G.length := (List.getElem?_eq_some_iff.1 h).1
 rw [List.getElem?_append_left (by simpa [items] using hl)]
 simp [items, h]
theorem Cl {ρ : Nms} {T : Tbl} {G H : List Row} {Φ : Ctx} {i : Nat} {r : Row} (h : H[i]? = some r) : (items ρ T G ++ (items ρ T H ++ Φ))[G.length + i]? = some (r.item ρ T) := by
 rw [List.getElem?_append_right (by simp [items])]
 have : G.length + i - (items ρ T G).length = i := by simp [items]
 rw [this]
 exact iL h
inductive Src where
 | top (i : Nat)
 | frz (i : Nat)
 | nilI (t : Ty)
 | nilO (t : Ty) (e : TypeId)
 | nilM (k v : Ty)
def fE (G H : List Row) (p : Row → Bool) : Option (Src × Row) := match m8 p G with
 | some x => some (.top x.1, x.2)
 | none => match m8 p H with
  | some x => some (.frz x.1, x.2)
  | none => none
def Src.at_ (G H : List Row) : Src → Row → Prop
 | .top i, r => G[i]? = some r
 | .frz i, r => H[i]? = some r
 | _, _ => False
theorem cG {p : Row → Bool} {G H : List Row} {s : Src} {r : Row} (h : fE G H p = some (s, r)) : s.at_ G H r ∧ p r = true := by
 unfold fE at h
 split at h
 ·rename_i x hx
  cases h
  exact kM hx
 ·split at h
  ·rename_i x hx
   cases h
   exact kM hx
  ·cases h
theorem Src.item {ρ : Nms} {T : Tbl} {G H : List Row} {Φ : Ctx} {s : Src} {r : Row} (h : s.at_ G H r) : ∃ i : Nat, (items ρ T G ++ (items ρ T H ++ Φ))[i]? = some (r.item ρ T) := by
 cases s with
 | top i => exact ⟨i, iL h⟩
 | frz i => exact ⟨G.length + i, Cl h⟩
 | nilI => exact h.elim
 | nilO => exact h.elim
 | nilM => exact h.elim
theorem Src.holds {ρ : Nms} {T : Tbl} {G H : List Row} {Φ : Ctx} {w : World} {s : Src} {r : Row} (hs : Sat (items ρ T G ++ (items ρ T H ++ Φ)) w) (h : s.at_ G H r) : (r.item ρ T).P (Ctx.M (items ρ T G ++ (items ρ T H ++ Φ))) w := by
 obtain ⟨i, hi⟩ := Src.item (ρ := ρ) (T := T) (Φ := Φ) h
 exact hs.at_ hi
def vU (n : Nat) : List Nat → Bool
 | [] => false
 | m :: l => Nat.beq n m || vU n l
end Go.Proofs.YtdhgpnejphlfpaaGreatDoor
namespace Go.Proofs.YtdhgpnejphlfpaaGreatDoor
open Go.Lib
structure Cx where
 P : Program
 tys : List (TypeId × Ty)
 gls : List (Nat × Nat × Dyn)
def yx {α : Type} : List (Nat × α) → Nat → Option α
 | [], _ => none
 | x :: l, n => ifS ( Nat.beq x.1 n ) ( some x.2 ) <| yx l n
def wD {ρ : Type} (c : Option Bool) (g : Option Bool) (k : Option ρ) : Option ρ := match c with
 | none => k
 | some c => match g with
  | none => chk c k
  | some g => ox g c k
theorem lQ {ρ : Type} {T : Tbl} {c : Option Bool} {g : GK} {k : Option ρ} {r : ρ} (h : wD c (g.map fun _ => T.get g) k = some r) : (∀ b, c = some b → T.get g = true → b = true) ∧ k = some r := by
 unfold wD at h
 split at h
 ·exact ⟨fun b hb => (by cases hb), h⟩
 ·split at h
  ·rename_i hg
   obtain ⟨h1, h2⟩ := nz h
   exact ⟨fun b hb _ => (by cases hb; exact h1), h2⟩
  ·rename_i g' hg
   cases g with
   | none => cases hg
   | some k' =>
    simp only [Option.map_some, Option.some.injEq] at hg
    subst hg
    obtain ⟨h1, h2⟩ := HJ h
    exact ⟨fun b hb hT => (by cases hb; exact h1 hT), h2⟩
abbrev CV := Option (Option Bool × AV)
def pv (v : AV) : CV := some (none, v)
def gf (a b : IntKind) : Bool := decide (a = b)
theorem kr {a b : IntKind} (h : gf a b = true) : a = b := by simpa [gf] using h
def GD (k k' : IntKind) (m l : Int) : BinOp → CV
 | .add => ifS ( gf k k' ) ( pv (.int k (k.wrap (m + l))) ) none
 | .sub => ifS ( gf k k' ) ( pv (.int k (k.wrap (m - l))) ) none
 | .mul => ifS ( gf k k' ) ( pv (.int k (k.wrap (m * l))) ) none
 | .quo => ifS ( gf k k' ) ( some (some (l != 0), .int k (k.wrap (m.tdiv l))) ) none
 | .rem => ifS ( gf k k' ) ( some (some (l != 0), .int k (m.tmod l)) ) none
 | .eql => ifS ( gf k k' ) ( pv (.bool (m == l)) ) none
 | .neq => ifS ( gf k k' ) ( pv (.bool (m != l)) ) none
 | .lss => ifS ( gf k k' ) ( pv (.bool (decide (m < l))) ) none
 | .leq => ifS ( gf k k' ) ( pv (.bool (decide (m ≤ l))) ) none
 | .gtr => ifS ( gf k k' ) ( pv (.bool (decide (l < m))) ) none
 | .geq => ifS ( gf k k' ) ( pv (.bool (decide (l ≤ m))) ) none
 | .shr => some (some (decide (0 ≤ l)), .int k (NJ k m l))
 | .shl => some (some (decide (0 ≤ l)), .int k (Nt k m l))
 | .and => ifS ( gf k k' ) ( pv (.int k (N6 k m l)) ) none
 | .or => ifS ( gf k k' ) ( pv (.int k (orI k m l)) ) none
 | .xor => ifS ( gf k k' ) ( pv (.int k (N9 k m l)) ) none
 | .andNot => ifS ( gf k k' ) ( pv (.int k (F2 k m l)) ) none
def Hn (m l : Str) : BinOp → CV
 | .eql => pv (.bool (m == l))
 | .neq => pv (.bool (m != l))
 | .add => some (some (Ns m l), .str (m ++ l))
 | .lss => pv (.bool (ltS m l))
 | .leq => pv (.bool (ltS m l || m == l))
 | .gtr => pv (.bool (!(ltS m l || m == l)))
 | .geq => pv (.bool (!(ltS m l)))
 | _ => none
def Ja (m l : Bool) : BinOp → CV
 | .eql => pv (.bool (m == l))
 | .neq => pv (.bool (m != l))
 | _ => none
def tyK (P : Program) (t : TypeId) : Option IntKind := match P.underlying t with
 | some (.int k) => some k
 | _ => none
theorem Aq {P : Program} {t : TypeId} {k : IntKind} (h : tyK P t = some k) : P.underlying t = some (.int k) := by
 unfold tyK at h
 split at h
 ·rename_i k' hk; cases h; exact hk
 ·cases h
def isStr (P : Program) (t : TypeId) : Bool := match P.underlying t with
 | some .string => true
 | _ => false
theorem nf {P : Program} {t : TypeId} (h : isStr P t = true) : P.underlying t = some .string := by
 unfold isStr at h
 split at h
 ·assumption
 ·cases h
def isBool (P : Program) (t : TypeId) : Bool := match P.underlying t with
 | some .bool => true
 | _ => false
theorem BV {P : Program} {t : TypeId} (h : isBool P t = true) : P.underlying t = some .bool := by
 unfold isBool at h
 split at h
 ·assumption
 ·cases h
def KT (P : Program) (t : TypeId) : Bool := match P.underlying t with
 | some _ => true
 | none => false
theorem N7 {P : Program} {t : TypeId} (h : KT P t = true) : ∃ d, P.underlying t = some d := by
 unfold KT at h
 split at h
 ·rename_i d hd; exact ⟨d, hd⟩
 ·cases h
def GC (P : Program) (t : TypeId) (op : BinOp) : AV → AV → CV
 | .int k m, .int k' l => GD k k' m l op
 | .str m, .str l => Hn m l op
 | .bool m, .bool l => ifS ( isBool P t ) ( Ja m l op ) none
 | _, _ => none
def JJ : UnOp → AV → CV
 | .not, .bool b => pv (.bool (!b))
 | .neg, .int k m => pv (.int k (k.wrap (0 - m)))
 | _, _ => none
def Lw : AV → Bool
 | .ptr _ _ | .adr _ _ | .fn _ _ _ => true
 | _ => false
def pF (P : Program) (Ev : Env) (ρ : Nms) (g : Bool) (o : Oper) (w : World) (cv : Option Bool × AV) : Prop :=
 (∀ b, cv.1 = some b → g = true → b = true) → Run P Ev g o w (cv.2.val ρ)
section
variable {P : Program} {ρ : Nms} {g : Bool} {w : World} {dst : Option Tmp} {ty : TypeId} {pos : String} {af : Array Edge} {gd : Option (Nat × Bool)} {Ev : Env}
theorem pF.pv {o : Oper} {v : AV} {cv : Option Bool × AV} (h : pv v = some cv) (hr : Run P Ev g o w (v.val ρ)) : pF P Ev ρ g o w cv := by
 cases h; exact fun _ => hr
theorem Ig {x y : Operand} {t t' : TypeId} {op : BinOp} {k k' : IntKind} {m l : Int} {cv : Option Bool × AV} (hx : Opd Ev g x (.int k m)) (hy : Opd Ev g y (.int k' l)) (h : GD k k' m l op = some cv) :
  pF P Ev ρ g ⟨dst, .binOp op t x y t', ty, pos, af, gd⟩ w cv := by
 have key : ∀ {a : CV}, ifS (gf k k') a none = some cv → k = k' ∧ a = some cv := fun h => ⟨kr (aw h).1, (aw h).2⟩
 cases op <;> simp only [GD] at h
 case shr => cases h; exact fun hc => LN hx hy (fun hg => hc _ rfl hg)
 case shl => cases h; exact fun hc => Nj hx hy (fun hg => hc _ rfl hg)
 case quo =>
  obtain ⟨rfl, h9⟩ := key h
  cases h9
  exact fun hc n a hf hg => MY hx hy (by have := hc _ rfl hg; simpa using this) n a hf hg
 case rem =>
  obtain ⟨rfl, h9⟩ := key h
  cases h9
  exact fun hc n a hf hg => Mk hx hy (by have := hc _ rfl hg; simpa using this) n a hf hg
 case add => obtain ⟨rfl, h9⟩ := key h; exact .pv h9 (Mp hx hy)
 case sub => obtain ⟨rfl, h9⟩ := key h; exact .pv h9 (LW hx hy)
 case mul => obtain ⟨rfl, h9⟩ := key h; exact .pv h9 (Nl hx hy)
 case eql => obtain ⟨rfl, h9⟩ := key h; exact .pv h9 (Mb hx hy)
 case neq => obtain ⟨rfl, h9⟩ := key h; exact .pv h9 (MD hx hy)
 case lss => obtain ⟨rfl, h9⟩ := key h; exact .pv h9 (L5 hx hy)
 case leq => obtain ⟨rfl, h9⟩ := key h; exact .pv h9 (MP hx hy)
 case gtr => obtain ⟨rfl, h9⟩ := key h; exact .pv h9 (Np hx hy)
 case geq => obtain ⟨rfl, h9⟩ := key h; exact .pv h9 (M3 hx hy)
 case and => obtain ⟨rfl, h9⟩ := key h; exact .pv h9 (Kb hx hy)
 case or => obtain ⟨rfl, h9⟩ := key h; exact .pv h9 (Mz hx hy)
 case xor => obtain ⟨rfl, h9⟩ := key h; exact .pv h9 (KK hx hy)
 case andNot => obtain ⟨rfl, h9⟩ := key h; exact .pv h9 (ER hx hy)
theorem IV {x y : Operand} {t t' : TypeId} {op : BinOp} {m l : Str} {cv : Option Bool × AV} (hx : Opd Ev g x (S m)) (hy : Opd Ev g y (S l)) (h : Hn m l op = some cv) :
  pF P Ev ρ g ⟨dst, .binOp op t x y t', ty, pos, af, gd⟩ w cv := by
 unfold Hn at h
 split at h
 ·exact .pv h (M7 hx hy)
 ·exact .pv h (MW hx hy)
 ·cases h; exact fun hc => M1 hx hy (fun hg => hc _ rfl hg)
 ·exact .pv h (MV hx hy)
 ·exact .pv h (Nd hx hy)
 ·exact .pv h (L0 hx hy)
 ·exact .pv h (LZ hx hy)
 ·cases h
theorem IH {x y : Operand} {t t' : TypeId} {op : BinOp} {a b : AV} {cv : Option Bool × AV} (hx : Opd Ev g x (a.val ρ)) (hy : Opd Ev g y (b.val ρ)) (h : GC P t op a b = some cv) :
  pF P Ev ρ g ⟨dst, .binOp op t x y t', ty, pos, af, gd⟩ w cv := by
 unfold GC at h
 split at h
 ·simp only [AV.val] at hx hy; exact Ig hx hy h
 ·simp only [AV.val] at hx hy; exact IV hx hy h
 ·simp only [AV.val] at hx hy
  obtain ⟨h1, h2⟩ := aw h
  unfold Ja at h2
  split at h2
  ·exact .pv h2 (L9 (BV h1) hx hy)
  ·exact .pv h2 (LV (BV h1) hx hy)
  ·cases h2
 ·cases h
theorem JN {x : Operand} {t : TypeId} {op : UnOp} {u : AV} {cv : Option Bool × AV} (hx : Opd Ev g x (u.val ρ)) (h : JJ op u = some cv) :
  pF P Ev ρ g ⟨dst, .unOp op t x, ty, pos, af, gd⟩ w cv := by
 unfold JJ at h
 split at h
 ·simp only [AV.val] at hx; exact .pv h (Jr hx)
 ·simp only [AV.val] at hx; exact .pv h (Nk hx)
 ·cases h
theorem H7 {x : Operand} {v : AV} (hx : Opd Ev g x (v.val ρ)) (h : Lw v = true) : Run P Ev g ⟨dst, .nilCheck x, ty, pos, af, gd⟩ w (v.val ρ) := by
 cases v with
 | ptr id off => simp only [AV.val] at hx ⊢; exact DV hx
 | adr id off => simp only [AV.val] at hx ⊢; exact DV hx
 | fn f a b => simp only [AV.val] at hx ⊢; exact KA hx
 | _ => cases h
end
def tiA (P : Program) (t : TypeId) : Option (Nat × Nat × Value) := match P.info? t with
 | some i => match i.zero with
  | some z => some (i.size, i.bytes, z)
  | none => none
 | none => none
theorem fg {P : Program} {t : TypeId} {n bytes : Nat} {z : Value} (h : tiA P t = some (n, bytes, z)) : TI P t n bytes z := by
 unfold tiA at h
 split at h
 ·rename_i i hi
  split at h
  ·rename_i z' hz
   cases h
   simp [TI, hi, hz]
  ·cases h
 ·cases h
def Hq (P : Program) (t : TypeId) (k : Nat) : Option (TypeId × Nat × Nat) := match P.underlying t with
 | some (.struct fs) => match fs.toList[k]? with
  | some f => match P.info? f.type with
   | some i => some (f.type, f.offset, i.size)
   | none => none
  | none => none
 | _ => none
theorem F1 {P : Program} {t ft : TypeId} {k off n : Nat} (h : Hq P t k = some (ft, off, n)) : ∃ fs f i, P.underlying t = some (.struct fs) ∧ fs[k]? = some f ∧ f.type = ft ∧ f.offset = off ∧ P.info? ft = some i ∧ i.size = n := by
 unfold Hq at h
 split at h
 ·rename_i fs hfs
  split at h
  ·rename_i f hf
   split at h
   ·rename_i i hi
    cases h
    exact ⟨fs, f, i, hfs, by simpa using hf, rfl, rfl, hi, rfl⟩
   ·cases h
  ·cases h
 ·cases h
def lS (P : Program) (t : TypeId) (cs : List AV) : Option AV := match P.underlying t with
 | some d => ifS ( j6 d ) ( (match tiA P t with
   | some x => ifS ( Nat.ble x.1 cs.length ) ( some (.agg (cs.take x.1)) ) <| none
   | none => none)
  ) <| cs.head?
 | none => none
def cf : AV → List AV
 | .agg l => l
 | .raw v => v.cells.toList.map cst
 | v => [v]
def xY : AV → Bool
 | .nv _ => false
 | _ => true
theorem qi {ρ : Nms} {v : AV} (h : xY v = true) : (v.val ρ).cells = (AV.ah ρ (cf v)).toArray := by
 cases v <;> simp only [cf, AV.val, AV.ah] <;> try rfl
 ·cases h
 ·rw [nA]
def nJ (vs : List AV) (k : Nat) (us : List AV) : List AV := vs.take k ++ us ++ vs.drop (k + us.length)
theorem pU {ρ : Nms} {vs us : List AV} {k : Nat} : ki (AV.ah ρ vs) k (AV.ah ρ us) = AV.ah ρ (nJ vs k us) := by
 simp only [ki, nJ, df, AV.jn, AV.fJ, AV.aW]
def yj (place : Nat → Option (Nat × Nat)) : List (Nat × AV) → List AV → Option (List AV)
 | [], cs => some cs
 | (i, v) :: l, cs => match place i with
  | some (off, n) => ifS ( xY v && (Nat.beq (cf v).length n && Nat.ble (off + n) cs.length) ) ( yj place l (nJ cs off (cf v)) ) <| none
  | none => none
theorem BY {off : Nat} : ∀ (us : List Value) (k : Nat) (cs : List Value), off + k + us.length ≤ cs.length →
  (us.zipIdx k).foldl (fun cs (x : Value × Nat) => cs.setIfInBounds (off + x.2) x.1) cs.toArray = (ki cs (off + k) us).toArray
 | [], k, cs, _ => by simp [ki]
 | u :: us, k, cs, h => by
  simp only [List.length_cons] at h
  simp only [List.zipIdx_cons, List.foldl_cons, List.setIfInBounds_toArray]
  rw [BY us (k + 1) (cs.set (off + k) u) (by rw [List.length_set]; omega)]
  congr 1
  simp only [ki]
  have h1 : off + k < cs.length := by omega
  have e1 : (cs.set (off + k) u).take (off + (k + 1)) = cs.take (off + k) ++ [u] := by
   rw [show off + (k + 1) = (off + k) + 1 from rfl, List.take_add_one, List.getElem?_set_self h1, List.take_set_of_le (Nat.le_refl _)]
   rfl
  have e2 : (cs.set (off + k) u).drop (off + (k + 1) + us.length) = cs.drop (off + k + (u :: us).length) := by
   rw [List.drop_set_of_lt (by omega)]
   congr 1
   simp only [List.length_cons]; omega
  rw [e1, e2]
  simp
theorem wu {ρ : Nms} {place : Nat → Option (Nat × Nat)} : {ps : List (Nat × AV)} → {cs cs' : List AV} → yj place ps cs = some cs' →
  Instr.fill place (AV.ah ρ cs).toArray (ps.map fun p => (p.1, p.2.val ρ)) = some (AV.ah ρ cs').toArray
 | [], cs, cs', h => by cases h; rfl
 | (i, v) :: l, cs, cs', h => by
  unfold yj at h
  split at h
  ·rename_i off n hp
   obtain ⟨h1, h2⟩ := aw h
   simp only [Bool.and_eq_true, Nat.ble_eq] at h1
   obtain ⟨h3, h4, h5⟩ := h1
   have h4 := Nat.eq_of_beq_eq_true h4
   have ih := wu (ρ := ρ) h2
   simp only [List.map_cons]
   unfold Instr.fill
   simp only [hp]
   have e := qi (ρ := ρ) h3
   have e1 : ¬ (((v.val ρ).cells.size ≠ n || decide (off + (v.val ρ).cells.size > (AV.ah ρ cs).toArray.size)) = true) := by
    rw [e]
    simp only [List.size_toArray, AV.aW, h4]
    simp; omega
   rw [if_neg e1, e]
   have := BY (off := off) (AV.ah ρ (cf v)) 0 (AV.ah ρ cs) (by rw [AV.aW, AV.aW]; omega)
   simp only [Nat.add_zero] at this
   rw [show (AV.ah ρ (cf v)).toArray.zipIdx = ((AV.ah ρ (cf v)).zipIdx 0).toArray from by simp, List.foldl_toArray, this, pU]
   exact ih
  ·cases h
end Go.Proofs.YtdhgpnejphlfpaaGreatDoor
namespace Go.Proofs.YtdhgpnejphlfpaaGreatDoor
open Go.Lib
def pL {α β : Type} (f : α → Option β) : List α → Option (List β)
 | [] => some []
 | x :: l => match f x with
  | some y => match pL f l with
   | some ys => some (y :: ys)
   | none => none
  | none => none
theorem BQ {P : Program} {w : World} {α β : Type} {f : α → Sem β} {g : α → Option β} (hfg : ∀ x y, g x = some y → (f x).run P w = .ok y w) : ∀ {l : List α} {ys : List β}, pL g l = some ys → (l.mapM f).run P w = .ok ys w
 | [], ys, h => by cases h; simp
 | x :: l, ys, h => by
  unfold pL at h
  split at h
  ·rename_i y hy
   split at h
   ·rename_i zs hz
    cases h
    rw [List.mapM_cons, Sem.run_bind, hfg x y hy, Result.andThen_ok, Sem.run_bind, BQ hfg hz, Result.andThen_ok, Sem.run_pure]
   ·cases h
  ·cases h
theorem Ad {P : Program} {w : World} {α β : Type} {f : α → Sem β} {g : α → Option β} (hfg : ∀ x y, g x = some y → (f x).run P w = .ok y w) {l : Array α} {ys : List β} (h : pL g l.toList = some ys) : (l.mapM f).run P w = .ok ys.toArray w := by
 rw [Array.mapM_eq_mapM_toList, Sem.run_map, BQ hfg h]
 rfl
def C6 (P : Program) (f : Field) : Option (Nat × Nat) := match P.info? f.type with
 | some i => some (f.offset, i.size)
 | none => none
def Dr (P : Program) (t : TypeId) (ps : List (Nat × AV)) : Option (List AV) := match tiA P t with
 | some z => (match P.underlying t with
  | some (.struct fs) => (match pL (C6 P) fs.toList with
   | some pl => yj (fun i => pl[i]?) ps (z.2.2.cells.toList.map cst)
   | none => none)
  | some (.array _ e) => (match P.info? e with
   | some i => yj (fun k => some (k * i.size, i.size)) ps (z.2.2.cells.toList.map cst)
   | none => none)
  | _ => none)
 | none => none
theorem Ip {P : Program} {t : TypeId} {ρ : Nms} {w : World} {ps : List (Nat × AV)} {cs : List AV} (h : Dr P t ps = some cs) :
  (Instr.build t (ps.map fun p => (p.1, p.2.val ρ)).toArray).run P w = .ok (.agg (AV.ah ρ cs).toArray) w := by
 unfold Dr at h
 split at h
 ·rename_i z hz
  obtain ⟨size, bytes, z⟩ := z
  have hti := fg hz
  have hz0 := hti.zero w
  unfold Instr.build
  simp only [Sem.run_bind, hz0, Result.andThen_ok]
  split at h
  ·rename_i fs hfs
   simp only [run_underlying hfs, Result.andThen_ok]
   split at h
   ·rename_i pl hpl
    have h1 : (fs.mapM fun f => do pure (f.offset, ← sizeOf f.type) : Sem (Array (Nat × Nat))).run P w = .ok pl.toArray w := Ad (g := C6 P) (fun f y hy => by
     unfold C6 at hy
     split at hy
     ·rename_i i hi
      cases hy
      simp [sizeOf, typeInfo, hi]
     ·cases hy) hpl
    have h2 := wu (ρ := ρ) h
    rw [nA] at h2
    simp only [Sem.run_bind, h1, Result.andThen_ok]
    have e : (fun (x : Nat) => pl.toArray[x]?) = fun i => pl[i]? := by funext i; simp
    rw [e]
    simp only [Array.toArray_toList] at h2
    rw [h2]
    rfl
   ·cases h
  ·rename_i k e hfs
   simp only [run_underlying hfs, Result.andThen_ok]
   split at h
   ·rename_i i hi
    have h2 := wu (ρ := ρ) h
    rw [nA] at h2
    simp only [Array.toArray_toList] at h2
    simp only [Sem.run_bind, sizeOf, typeInfo, run_program, hi, Result.andThen_ok, Sem.run_pure]
    rw [h2]
    rfl
   ·cases h
  ·cases h
 ·cases h
theorem zE {ρ : Nms} : ∀ (is : List Nat) (vs : List AV), (is.zip vs).map (fun p => (p.1, p.2.val ρ)) = is.zip (AV.ah ρ vs)
 | [], _ => by simp
 | _ :: _, [] => by simp [AV.ah]
 | i :: is, v :: vs => by simp only [List.zip_cons_cons, List.map_cons, AV.ah]; rw [zE]
/-! what the variables that guards ask are -/
def gV (T : Tbl) (E F : an) : Prop := ∀ x, x ∈ T → fj E F x.2.2.1 = some (x.2.1, .bool x.2.2.2) ∧ T.get (some x.1) = (T.get x.2.1 && xZ x.1.2 x.2.2.2)
def keyOf (r : Nat) (pol : Bool) : Tbl → Option ((Nat × Bool) × GK × Nat × Bool)
 | [] => none
 | x :: T => ifS ( Nat.beq x.2.2.1 r && BB x.1.2 pol ) ( some x ) <| keyOf r pol T
theorem Ei {r : Nat} {pol : Bool} : {T : Tbl} → {x : (Nat × Bool) × GK × Nat × Bool} → keyOf r pol T = some x → x ∈ T ∧ x.2.2.1 = r ∧ x.1.2 = pol
 | [], x, h => by cases h
 | y :: T, x, h => by
  unfold keyOf at h
  rcases fD h with ⟨h1, h2⟩ | ⟨_, h2⟩
  ·cases h2
   simp only [Bool.and_eq_true] at h1
   exact ⟨List.mem_cons_self .., Nat.eq_of_beq_eq_true h1.1, Fz h1.2⟩
  ·obtain ⟨h3, h4⟩ := Ei h2
   exact ⟨List.mem_cons_of_mem _ h3, h4⟩
def Lr (T : Tbl) (E F : an) (g : GK) (c x : Operand) : Option (Bool × Bool) := match opA T E F g x with
 | some (.bool y) => (match opA T E F g c with
  | some (.bool b) => some (b, y)
  | _ => none)
 | _ => none
def Lt (T : Tbl) (E F : an) (g : GK) (pol : Bool) (c x : Operand) : Option (Bool × Bool) := match c with
 | .tmp r => (match keyOf r pol T with
  | some k => ifS ( T.imp g k.2.1 ) ( match opA T E F (some k.1) x with
    | some (.bool y) => some (k.2.2.2, y)
    | _ => none
   ) none
  | none => none)
 | _ => none
def CL (T : Tbl) (E F : an) (g : GK) (pol : Bool) (c x : Operand) : Option (Bool × Bool) := match Lr T E F g c x with
 | some y => some y
 | none => Lt T E F g pol c x
theorem DK {ρ : Nms} {T : Tbl} {E F : an} {g : GK} {pol b y : Bool} {c x : Operand} (hT : gV T E F) (h : CL T E F g pol c x = some (b, y)) :
  Opd (aq ρ T E F) (T.get g) c (.bool b) ∧ Opd (aq ρ T E F) (T.get g && xZ pol b) x (.bool y) := by
 have weak : ∀ {p q : Bool} {u : Value}, Opd (aq ρ T E F) p x u → Opd (aq ρ T E F) (p && q) x u := fun h n a hf hg => h n a hf (Bool.and_eq_true _ _ ▸ hg).1
 unfold CL at h
 split at h
 ·rename_i z hz
  cases h
  unfold Lr at hz
  split at hz
  ·rename_i y' hx
   split at hz
   ·rename_i b' hc
    cases hz
    have h1 := aC (ρ := ρ) hx
    have h2 := aC (ρ := ρ) hc
    simp only [AV.val] at h1 h2
    exact ⟨h2, weak h1⟩
   ·cases hz
  ·cases hz
 ·unfold Lt at h
  split at h
  ·rename_i r
   split at h
   ·rename_i k hk
    obtain ⟨h1, h2⟩ := aw h
    split at h2
    ·rename_i y' hx
     cases h2
     obtain ⟨k1, k2, k3⟩ := Ei hk
     obtain ⟨k4, k5⟩ := hT _ k1
     have h3 := aC (ρ := ρ) hx
     simp only [AV.val] at h3
     rw [k2] at k4
     refine ⟨Opd.g (g' := T.get k.2.1) (by rw [ky, k4]; simp [AV.val]) (Tbl.kj h1), fun n a hf hg => h3 n a hf ?_⟩
     rw [k5, k3]
     simp only [Bool.and_eq_true] at hg ⊢
     exact ⟨Tbl.kj h1 hg.1, hg.2⟩
    ·cases h2
   ·cases h
  ·cases h
def isF : Operand → Bool
 | .const (.bool b) => !b
 | _ => false
def JV : Operand → Bool
 | .const (.bool b) => b
 | _ => false
theorem NQ {x : Operand} (h : isF x = true) : x = .const (.bool false) := by
 unfold isF at h
 split at h
 ·rename_i b; cases b
  ·rfl
  ·cases h
 ·cases h
theorem MH {x : Operand} (h : JV x = true) : x = .const (.bool true) := by
 unfold JV at h
 split at h
 ·rename_i b; cases b
  ·cases h
  ·rfl
 ·cases h
def yz (P : Program) (t : TypeId) : Bool := match P.underlying t with
 | some d => !(la d)
 | none => false
theorem Ax {P : Program} {t : TypeId} (h : yz P t = true) : ∃ d, P.underlying t = some d ∧ la d = false := by
 unfold yz at h
 split at h
 ·rename_i d hd; exact ⟨d, hd, by simpa using h⟩
 ·cases h
def loA (T : Tbl) (E F : an) (g : GK) : Option Operand → Option Int
 | none => some 0
 | some y => match opA T E F g y with
  | some (.int _ i) => some i
  | _ => none
def hiA (T : Tbl) (E F : an) (g : GK) : Option Operand → Option (Option Int)
 | none => some none
 | some y => match opA T E F g y with
  | some (.int _ i) => some (some i)
  | _ => none
theorem z5 {ρ : Nms} {T : Tbl} {E F : an} {g : GK} {lo : Option Operand} {i : Int} (h : loA T E F g lo = some i) : (match (motive := Option Operand → Prop) lo with | none => i = 0 | some y => ∃ k, Opd (aq ρ T E F) (T.get g) y (.int k i)) := by
 cases lo with
 | none => cases h; rfl
 | some y =>
  unfold loA at h
  dsimp only at h
  split at h
  ·rename_i k j hy
   cases h
   have := aC (ρ := ρ) hy
   simp only [AV.val] at this
   exact ⟨k, this⟩
  ·cases h
theorem CY {ρ : Nms} {T : Tbl} {E F : an} {g : GK} {hi : Option Operand} {j : Option Int} {len : Nat} (h : hiA T E F g hi = some j) : (match (motive := Option Operand → Prop) hi with | none => (j.getD (len : Int)) = (len : Int) | some y => ∃ k, Opd (aq ρ T E F) (T.get g) y (.int k (j.getD (len : Int)))) := by
 cases hi with
 | none => cases h; rfl
 | some y =>
  unfold hiA at h
  dsimp only at h
  split at h
  ·rename_i k j hy
   cases h
   have := aC (ρ := ρ) hy
   simp only [AV.val] at this
   exact ⟨k, this⟩
  ·cases h
def Dq (X : Cx) (T : Tbl) (E F : an) (g : GK) (c : Callee) (xs : List Operand) (ts : List TypeId) : CV := match c, xs, ts with
 | .builtin .len, [x], [t] => ifS ( isStr X.P t ) ( (match opA T E F g x with
   | some (.str l) => pv (.int .i64 (l.length : Int))
   | _ => none)
  ) none
 | .builtin .max, [x, y], [_, _] => (match opA T E F g x, opA T E F g y with
  | some (.int k m), some (.int k' l) => ifS ( gf k k' ) ( pv (.int k (max m l)) ) none
  | _, _ => none)
 | .builtin .min, [x, y], [_, _] => (match opA T E F g x, opA T E F g y with
  | some (.int k m), some (.int k' l) => ifS ( gf k k' ) ( pv (.int k (min m l)) ) none
  | _, _ => none)
 | _, _, _ => none
def Jm (X : Cx) (T : Tbl) (E F : an) (g : GK) : Op → CV
 | .move x => (match opA T E F g x with
  | some v => pv v
  | none => none)
 | .assign x => (match opA T E F g x with
  | some v => pv v
  | none => none)
 | .pick c a b => ifS ( isF b ) ( (match CL T E F g true c a with
   | some y => pv (.bool (y.1 && y.2))
   | none => none)
  ) <| ifS ( JV a ) ( (match CL T E F g false c b with
   | some y => pv (.bool (y.1 || y.2))
   | none => none)
  ) none
 | .nilCheck x => (match opA T E F g x with
  | some v => ifS ( Lw v ) ( pv v ) none
  | none => none)
 | .extract x i => (match opA T E F g x with
  | some (.tuple l) => (match l[i]? with
   | some v => pv v
   | none => none)
  | _ => none)
 | .unOp op _ x => (match opA T E F g x with
  | some v => JJ op v
  | none => none)
 | .binOp op t x y _ => (match opA T E F g x with
  | some u => (match opA T E F g y with
   | some v => GC X.P t op u v
   | none => none)
  | none => none)
 | .convert s d x => (match opA T E F g x with
  | some (.int _ m) => ifS ( KT X.P s ) (match tyK X.P d with
   | some k => pv (.int k (k.wrap m))
   | none => none) none
  | _ => none)
 | .index t x y => ifS ( isStr X.P t ) ( (match opA T E F g x, opA T E F g y with
   | some (.str l), some (.int _ i) => some (some (inB i l.length), .int .u8 (dJ l i))
   | _, _ => none)
  ) none
 | .slice t x lo hi none => ifS ( isStr X.P t ) ( (match opA T E F g x with
   | some (.str l) => (match loA T E F g lo with
    | some i => (match hiA T E F g hi with
     | some j => some (some (j8 i (j.getD (l.length : Int)) l.length), .str (cut l i (j.getD (l.length : Int))))
     | none => none)
    | none => none)
   | _ => none)
  ) none
 | .field t x k => (match opA T E F g x with
  | some (.agg cs) => (match Hq X.P t k with
   | some f => (match lS X.P f.1 (cs.drop f.2.1) with
    | some v => pv v
    | none => none)
   | none => none)
  | _ => none)
 | .fieldAddr t x k => (match Hq X.P t k with
  | some f => ifS ( Nat.beq f.2.2 0 ) none (match opA T E F g x with
   | some (.ptr id o) => pv (.ptr id (o + f.2.1))
   | some (.adr id o) => pv (.adr id (o + f.2.1))
   | _ => none)
  | none => none)
 | .build t ps => (match sE T E F g (ps.toList.map (·.2)) with
  | some vs => (match Dr X.P t ((ps.toList.map (·.1)).zip vs) with
   | some cs => pv (.agg cs)
   | none => none)
  | none => none)
 | .makeFunc (.func f) a b => (match sE T E F g a.toList with
  | some us => (match sE T E F g b.toList with
   | some vs => pv (.fn f us vs)
   | none => none)
  | none => none)
 | .makeInterface t x => (match opA T E F g x with
  | some v => ifS ( yz X.P t ) ( pv (.ifc t v) ) none
  | none => none)
 | .typeAssert x _ t false => (match opA T E F g x with
  | some (.ifc t' v) => ifS ( Nat.beq t t' && yz X.P t ) ( pv v ) none
  | _ => none)
 | .call c => Dq X T E F g c.callee c.args.toList c.argTypes.toList
 | _ => none
theorem add_plain {b o k : Nat} : (⟨b, o, none⟩ : Addr).add k = ⟨b, o + k, none⟩ := by
 unfold Addr.add
 split
 ·rename_i h; subst h; rfl
 ·rfl
theorem add_add {a : Addr} {j k : Nat} : (a.add j).add k = a.add (j + k) := by
 by_cases hj : j = 0
 ·subst hj
  have : a.add 0 = a := by simp [Addr.add]
  rw [this, Nat.zero_add]
 ·by_cases hk : k = 0
  ·subst hk; simp [Addr.add]
  ·simp [Addr.add, hj, hk, Nat.add_assoc]
theorem KW {α : Type} {l : List α} {v : α} (h : l.head? = some v) : l[0]? = some v := by
 cases l with
 | nil => simp at h
 | cons a l => simpa using h
section
variable {X : Cx} {ρ : Nms} {T : Tbl} {E F : an} {g : GK} {w : World} {dst : Option Tmp} {ty : TypeId} {pos : String} {af : Array Edge} {gd : Option (Nat × Bool)}
theorem o7 {t : TypeId} {off : Nat} {cs : List AV} {v : AV} (h : lS X.P t (cs.drop off) = some v) : ∃ d n bytes z, X.P.underlying t = some d ∧ (j6 d = true → TI X.P t n bytes z) ∧
  (if j6 d then some (.agg (((AV.ah ρ cs).drop off).take n).toArray) else (AV.ah ρ cs)[off]?) = some (v.val ρ) := by
 unfold lS at h
 split at h
 ·rename_i d hd
  rcases fD h with ⟨h1, h2⟩ | ⟨h1, h2⟩
  ·split at h2
   ·rename_i x hx
    obtain ⟨n, bytes, z⟩ := x
    obtain ⟨h3, h4⟩ := aw h2
    cases h4
    refine ⟨d, n, bytes, z, hd, fun _ => fg hx, ?_⟩
    rw [if_pos h1]
    simp only [AV.val, AV.jn, AV.fJ]
   ·cases h2
  ·refine ⟨d, 0, 0, .bool false, hd, (fun h => by rw [h1] at h; cases h), ?_⟩
   rw [if_neg (by rw [h1]; simp)]
   have h3 := AV.DE (ρ := ρ) (KW h2)
   rw [AV.fJ, List.getElem?_drop] at h3
   simpa using h3
 ·cases h
theorem Hj {c : Callee} {xs : Array Operand} {ts : Array TypeId} {cv : Option Bool × AV} (h : Dq X T E F g c xs.toList ts.toList = some cv) :
  pF X.P (aq ρ T E F) ρ (T.get g) ⟨dst, .call ⟨c, xs, ts⟩, ty, pos, af, gd⟩ w cv := by
 obtain ⟨xs⟩ := xs
 obtain ⟨ts⟩ := ts
 unfold Dq at h
 split at h
 ·rename_i x t e1 e2
  simp only at e1 e2; subst e1; subst e2
  obtain ⟨h1, h2⟩ := aw h
  split at h2
  ·rename_i l hx
   have := aC (ρ := ρ) hx
   simp only [AV.val] at this
   exact .pv h2 (KV (nf h1) this)
  ·cases h2
 ·rename_i x y t t' e1 e2
  simp only at e1 e2; subst e1; subst e2
  split at h
  ·rename_i k m k' l hx hy
   obtain ⟨h1, h2⟩ := aw h
   have := kr h1; subst this
   have h3 := aC (ρ := ρ) hx
   have h4 := aC (ρ := ρ) hy
   simp only [AV.val] at h3 h4
   exact .pv h2 (JC h3 h4 (Kh _ _ _ _ _))
  ·cases h
 ·rename_i x y t t' e1 e2
  simp only at e1 e2; subst e1; subst e2
  split at h
  ·rename_i k m k' l hx hy
   obtain ⟨h1, h2⟩ := aw h
   have := kr h1; subst this
   have h3 := aC (ρ := ρ) hx
   have h4 := aC (ρ := ρ) hy
   simp only [AV.val] at h3 h4
   exact .pv h2 (JH h3 h4 (Ki _ _ _ _ _))
  ·cases h
 ·cases h
theorem Lf {op : Op} {cv : Option Bool × AV} (hT : gV T E F) (h : Jm X T E F g op = some cv) :
  pF X.P (aq ρ T E F) ρ (T.get g) ⟨dst, op, ty, pos, af, gd⟩ w cv := by
 unfold Jm at h
 split at h
 ·split at h
  ·rename_i v hv; exact .pv h (Kt (aC hv))
  ·cases h
 ·split at h
  ·rename_i v hv; exact .pv h (HF (aC hv))
  ·cases h
 ·rename_i c a b
  rcases fD h with ⟨h1, h2⟩ | ⟨_, h2⟩
  ·have := NQ h1; subst this
   split at h2
   ·rename_i y hy
    obtain ⟨k1, k2⟩ := DK (ρ := ρ) (b := y.1) (y := y.2) hT hy
    exact .pv h2 (Nb k1 (by simpa [xZ] using k2))
   ·cases h2
  ·obtain ⟨h1, h2⟩ := aw h2
   have := MH h1; subst this
   split at h2
   ·rename_i y hy
    obtain ⟨k1, k2⟩ := DK (ρ := ρ) (b := y.1) (y := y.2) hT hy
    exact .pv h2 (Of k1 (by simpa [xZ] using k2))
   ·cases h2
 ·split at h
  ·rename_i v hv
   obtain ⟨h1, h2⟩ := aw h
   exact .pv h2 (H7 (aC hv) h1)
  ·cases h
 ·split at h
  ·rename_i l hv
   split at h
   ·rename_i v hl
    have h3 := aC (ρ := ρ) hv
    simp only [AV.val] at h3
    exact .pv h (EX h3 (AV.DE hl))
   ·cases h
  ·cases h
 ·split at h
  ·rename_i v hv; exact JN (aC hv) h
  ·cases h
 ·split at h
  ·rename_i u hu
   split at h
   ·rename_i v hv
    exact IH (aC hu) (aC hv) h
   ·cases h
  ·cases h
 ·split at h
  ·rename_i k' m hx
   obtain ⟨h1, h2⟩ := aw h
   obtain ⟨ds, hds⟩ := N7 h1
   split at h2
   ·rename_i k hk
    have h3 := aC (ρ := ρ) hx
    simp only [AV.val] at h3
    exact .pv h2 (KU hds (Aq hk) h3)
   ·cases h2
  ·cases h
 ·obtain ⟨h1, h2⟩ := aw h
  split at h2
  ·rename_i l k i hx hy
   have h3 := aC (ρ := ρ) hx
   have h4 := aC (ρ := ρ) hy
   simp only [AV.val] at h3 h4
   cases h2
   exact fun hc => JS (nf h1) h3 h4 (fun hg => hc _ rfl hg)
  ·cases h2
 ·obtain ⟨h1, h2⟩ := aw h
  split at h2
  ·rename_i l hx
   split at h2
   ·rename_i i hi
    split at h2
    ·rename_i j hj
     have h3 := aC (ρ := ρ) hx
     simp only [AV.val] at h3
     cases h2
     exact fun hc => JE (nf h1) h3 (z5 hi) (CY hj) (fun hg => hc _ rfl hg)
    ·cases h2
   ·cases h2
  ·cases h2
 ·split at h
  ·rename_i cs hx
   split at h
   ·rename_i f hf
    obtain ⟨ft, off, n⟩ := f
    split at h
    ·rename_i v hv
     obtain ⟨fs, f, i, k1, k2, k3, k4, k5, k6⟩ := F1 hf
     obtain ⟨d, n', bytes, z, c1, c2, c3⟩ := o7 (ρ := ρ) hv
     have h3 := aC (ρ := ρ) hx
     simp only [AV.val] at h3
     cases hd : j6 d
     ·refine .pv h (fun n2 a hf hg => ?_)
      have h5 := h3 n2 a hf hg
      rw [hd] at c3
      simp only [Bool.false_eq_true, if_false] at c3
      have hp := Gp (P := X.P) (w := w) c1 hd c3
      subst k3; subst k4
      simp only [execOp, h5, Instr.field, Sem.run_bind, run_underlying k1, Result.andThen_ok, k2, asAgg, Sem.run_pure, hp]
     ·exact .pv h (HG k1 k2 k3 k4 c1 (c2 hd) h3 c3)
    ·cases h
   ·cases h
  ·cases h
 ·split at h
  ·rename_i f hf
   obtain ⟨ft, off, n⟩ := f
   obtain ⟨fs, f, i, k1, k2, k3, k4, k5, k6⟩ := F1 hf
   obtain ⟨h1, h2⟩ := Ha h
   have hfo : Fv X.P _ _ off := ⟨fs, f, i, k1, k2, k4, by rw [k3]; exact k5, by rw [k6]; exact Nat.ne_of_beq_eq_false h1⟩
   split at h2
   ·rename_i id o hx
    have h3 := aC (ρ := ρ) hx
    simp only [AV.val] at h3
    refine .pv h2 ?_
    simp only [AV.val]
    have := wN (dst := dst) (ty := ty) (pos := pos) (af := af) (gd := gd) (w := w) hfo h3
    rwa [add_plain] at this
   ·rename_i id o hx
    have h3 := aC (ρ := ρ) hx
    simp only [AV.val] at h3
    refine .pv h2 ?_
    simp only [AV.val]
    have := wN (dst := dst) (ty := ty) (pos := pos) (af := af) (gd := gd) (w := w) hfo h3
    rwa [add_add] at this
   ·cases h2
  ·cases h
 ·rename_i t ps
  split at h
  ·rename_i vs hvs
   split at h
   ·rename_i cs hcs
    refine .pv h ?_
    simp only [AV.val]
    have h3 := mc (ρ := ρ) hvs
    have := HM (P := X.P) (w := w) (dst := dst) (ty := ty) (pos := pos) (af := af) (gd := gd) (t := t) (v := .agg (AV.ah ρ cs).toArray) h3 (fun w => by
     rw [← zE]; exact Ip hcs)
    simpa using this
   ·cases h
  ·cases h
 ·rename_i f a b
  split at h
  ·rename_i us hus
   split at h
   ·rename_i vs hvs
    refine .pv h ?_
    simp only [AV.val]
    have := DL (P := X.P) (w := w) (dst := dst) (ty := ty) (pos := pos) (af := af) (gd := gd) (fn := .func f) (mc (ρ := ρ) hus) (mc (ρ := ρ) hvs)
    simpa using this
   ·cases h
  ·cases h
 ·split at h
  ·rename_i v hv
   obtain ⟨h1, h2⟩ := aw h
   obtain ⟨d, k1, k2⟩ := Ax h1
   refine .pv h2 ?_
   simp only [AV.val]
   exact E5 k1 k2 (aC hv)
  ·cases h
 ·split at h
  ·rename_i t' v hv
   obtain ⟨h1, h2⟩ := aw h
   simp only [Bool.and_eq_true] at h1
   obtain ⟨d, k1, k2⟩ := Ax h1.2
   have h3 := aC (ρ := ρ) hv
   simp only [AV.val] at h3
   have e := Nat.eq_of_beq_eq_true h1.1
   subst e
   exact .pv h2 (EO k1 k2 h3)
  ·cases h
 ·exact Hj h
 ·cases h
end
end Go.Proofs.YtdhgpnejphlfpaaGreatDoor
namespace Go.Proofs.YtdhgpnejphlfpaaGreatDoor
open Go.Lib
def pO (G H : List Row) : AV → AV
 | .nv u => (match fE G H (isEq u) with
  | some (_, .eq _ v) => v
  | _ => .nv u)
 | v => v
theorem C7 {ρ : Nms} {T : Tbl} {G H : List Row} {Φ : Ctx} {w : World} (hs : Sat (items ρ T G ++ (items ρ T H ++ Φ)) w) {v : AV} : (pO G H v).val ρ = v.val ρ := by
 unfold pO
 split
 ·rename_i u
  split
  ·rename_i s j v' h
   obtain ⟨h1, h2⟩ := cG h
   have h3 := Src.holds hs h1
   have : j = u := Nat.eq_of_beq_eq_true h2
   subst this
   simp only [AV.val]
   exact h3.symm
  ·rfl
 ·rfl
theorem xw {ρ : Nms} {T : Tbl} {G H : List Row} {Φ : Ctx} {w : World} (hs : Sat (items ρ T G ++ (items ρ T H ++ Φ)) w) : (l : List AV) → AV.ah ρ (l.map (pO G H)) = AV.ah ρ l
 | [] => rfl
 | v :: l => by simp only [List.map_cons, AV.ah]; rw [C7 hs, xw hs l]
def AN : Ty → Bool
 | .i _ | .bo | .s | .un => true
 | .p x y => AN x && AN y
 | _ => false
def rB : (t : Ty) → t.T → List AV
 | .i k, x => [.int k x]
 | .bo, x => [.bool x]
 | .s, x => [.str x]
 | .p a b, x => rB a x.1 ++ rB b x.2
 | _, _ => []
theorem zN {ρ : Nms} {M : Nat → Prop} {w : World} : (t : Ty) → (x : t.T) → (vs : List Value) → AN t = true → t.rep.rd M w vs x → vs = AV.ah ρ (rB t x)
 | .i k, x, vs, _, h => by simp only [rB, AV.ah, AV.val]; exact h
 | .bo, x, vs, _, h => by simp only [rB, AV.ah, AV.val]; exact h
 | .s, x, vs, _, h => by simp only [rB, AV.ah, AV.val]; exact h
 | .un, x, vs, _, h => by simp only [rB, AV.ah]; exact h
 | .p a b, x, vs, hf, h => by
  simp only [AN, Bool.and_eq_true] at hf
  obtain ⟨us, us', rfl, h1, h2⟩ := h
  rw [rB, df, ← zN a x.1 us hf.1 h1, ← zN b x.2 us' hf.2 h2]
 | .l _, _, _, hf, _ => by cases hf
 | .ex, _, _, hf, _ => by cases hf
 | .n, _, _, hf, _ => by cases hf
 | .mp _ _, _, _, hf, _ => by cases hf
def DX (T : Tbl) (G H : List Row) (g : GK) (q off : Nat) : Option (List AV) := match fE G H (Ld q) with
 | some (_, .kn g' _ id ver u _ x) => ifS ( T.imp g g' && AN u ) ( match fE G H (nk id) with
  | some (_, .own _ _ _ _ ver') => ifS ( Nat.beq ver ver' ) ( some ((rB u x).drop off) ) none
  | _ => none ) none
 | _ => none
theorem Bo {t t' : Ty} {l : List t.T} {l' : List t'.T} {y : Dyn} (h : y = ⟨.l t, l⟩) (h' : y = ⟨.l t', l'⟩) : ∃ e : t = t', e ▸ l = l' := by
 rw [h] at h'
 cases h'
 exact ⟨rfl, rfl⟩
theorem HN {ρ : Nms} {T : Tbl} {G H : List Row} {Φ : Ctx} {w : World} {g : GK} {q off : Nat} {vs : List AV} (hs : Sat (items ρ T G ++ (items ρ T H ++ Φ)) w) (h : DX T G H g q off = some vs) (hg : T.get g = true) :
  aM w ((ρ q).a.add off) (AV.ah ρ vs) := by
 unfold DX at h
 split at h
 ·rename_i s g' q' id ver u i xe hf
  obtain ⟨h1, h2⟩ := aw h
  simp only [Bool.and_eq_true] at h1
  split at h2
  ·rename_i s2 id' u' e l ver' hf2
   obtain ⟨h3, h4⟩ := aw h2
   cases h4
   obtain ⟨f1, f2⟩ := cG hf
   obtain ⟨f3, f4⟩ := cG hf2
   have e1 : q' = q := Nat.eq_of_beq_eq_true f2
   have e2 : id' = id := Nat.eq_of_beq_eq_true f4
   have e3 : ver = ver' := Nat.eq_of_beq_eq_true h3
   subst e1; subst e2; subst e3
   obtain ⟨hO, hy2⟩ := Src.holds hs f3
   obtain ⟨l0, b1, b2, b3⟩ := (Src.holds hs f1) (Tbl.kj h1.1 hg)
   obtain ⟨e4, e5⟩ := Bo b1 hy2
   subst e4
   simp only at e5
   subst e5
   obtain ⟨_, us, e6, e7⟩ := hO.atA b2
   rw [zN (ρ := ρ) u xe us h1.2 e7] at e6
   rw [← b3] at e6
   refine e6.sub _ ?_
   rw [AV.fJ, List.take_of_length_le (Nat.le_refl _)]
  ·cases h2
 ·cases h
def wZ (T : Tbl) (G H : List Row) (g : GK) : AV → Option (List AV)
 | .ptr id off => (match fE G H (yF id) with
  | some (_, .box _ _ vs) => some ((vs.drop off).map (pO G H))
  | _ => none)
 | .adr id off => (match fE G H (On id) with
  | some (_, .elm g' _ vs) => ifS ( T.imp g g' ) ( some (vs.drop off) ) none
  | _ => DX T G H g id off)
 | _ => none
theorem BW {ρ : Nms} {T : Tbl} {G H : List Row} {Φ : Ctx} {w : World} {g : GK} {v : AV} {vs : List AV} (hs : Sat (items ρ T G ++ (items ρ T H ++ Φ)) w) (h : wZ T G H g v = some vs) (hg : T.get g = true) :
  ∃ p, v.val ρ = .pointer (some p) ∧ aM w p (AV.ah ρ vs) := by
 have sub : ∀ {p : Addr} {us : List AV} {off : Nat}, aM w p (AV.ah ρ us) → aM w (p.add off) (AV.ah ρ (us.drop off)) := fun h => by
  refine h.sub _ ?_
  rw [AV.fJ, List.take_of_length_le (Nat.le_refl _)]
 unfold wZ at h
 split at h
 ·rename_i id off
  split at h
  ·rename_i s j t us hf
   cases h
   obtain ⟨h1, h2⟩ := cG hf
   have : j = id := Nat.eq_of_beq_eq_true h2
   subst this
   have hb : er w (ρ j).b t (AV.ah ρ us) := Src.holds hs h1
   refine ⟨⟨(ρ j).b, off, none⟩, by simp only [AV.val], ?_⟩
   rw [xw hs, AV.fJ]
   exact hb.part off (by rw [List.take_of_length_le (Nat.le_refl _)])
  ·cases h
 ·rename_i id off
  split at h
  ·rename_i s g' j us hf
   obtain ⟨h3, h4⟩ := aw h
   cases h4
   obtain ⟨h1, h2⟩ := cG hf
   have : j = id := Nat.eq_of_beq_eq_true h2
   subst this
   have hb := Src.holds hs h1
   exact ⟨_, by simp only [AV.val], sub (hb (Tbl.kj h3 hg)).2⟩
  ·exact ⟨(ρ id).a.add off, by simp only [AV.val], HN hs h hg⟩
 ·cases h
def DZ (t : Ty) (v : AV) : Option t.T := match t, v with
 | .i k, .int k' x => ifS ( gf k k' ) ( some x ) none
 | .s, .str x => some x
 | .bo, .bool x => some x
 | _, _ => none
theorem Bm {ρ : Nms} {t : Ty} {v : AV} {x : t.T} (h : DZ t v = some x) : v.val ρ = uw t x := by
 unfold DZ at h
 split at h
 ·obtain ⟨h1, h2⟩ := aw h
  have := kr h1; subst this
  cases h2
  simp only [AV.val]; rfl
 ·cases h; simp only [AV.val]; rfl
 ·cases h; simp only [AV.val]; rfl
 ·cases h
def Hu (t : Ty) (x : t.T) : AV := match t, x with
 | .i k, x => .int k x
 | .s, x => .str x
 | .bo, x => .bool x
 | _, _ => .bool false
theorem F6 {ρ : Nms} {t : Ty} {x : t.T} : (Hu t x).val ρ = uw t x := by
 cases t <;> simp only [Hu, uw, AV.val]
instance keyBEq (t : Ty) : BEq t.T := match t with
 | .i _ => (inferInstance : BEq Int)
 | .s => (inferInstance : BEq Str)
 | .bo => (inferInstance : BEq Bool)
 | _ => ⟨fun _ _ => false⟩
def Ty.qC : (t : Ty) → t.T
 | .i _ => (0 : Int)
 | .bo => false
 | .s => ([] : Str)
 | .un => ()
 | .n => (0 : Nat)
 | .p x y => (x.qC, y.qC)
 | .l x => ([] : List x.T)
 | .mp k v => (none : Option (List (k.T × v.T)))
 | .ex => Ex.mk 0 0 0 []
def GB (P : Program) (kt : TypeId) (k : Ty) : Bool := match k with
 | .i k => (match tyK P kt with
  | some k' => gf k k'
  | none => false)
 | .s => isStr P kt
 | _ => false
theorem AY {P : Program} {kt : TypeId} {k : Ty} (h : GB P kt k = true) : sS P kt (uw k) := by
 unfold GB at h
 split at h
 ·split at h
  ·rename_i k' hk
   have := kr h; subst this
   exact sS.int (Aq hk)
  ·cases h
 ·exact sS.str (nf h)
 ·cases h
def GM (v : Ty) (z : Value) : Bool := match v, z with
 | .i k, .int k' x => gf k k' && decide (x = 0)
 | .bo, .bool b => !b
 | .s, .string b => b.data.toList.isEmpty
 | _, _ => false
theorem JL {v : Ty} {z : Value} (h : GM v z = true) : z = uw v v.qC := by
 unfold GM at h
 split at h
 ·simp only [Bool.and_eq_true, decide_eq_true_eq] at h
  have := kr h.1; subst this
  rw [h.2]; rfl
 ·rename_i b; cases b
  ·rfl
  ·cases h
 ·rename_i b
  have : b.data.toList = [] := by simpa using h
  show _ = S []
  unfold S
  rw [← this]
 ·cases h
def CZ (P : Program) (t : TypeId) : Option (TypeId × TypeId) := match P.underlying t with
 | some (.map k v) => some (k, v)
 | _ => none
theorem A7 {P : Program} {t : TypeId} {p : TypeId × TypeId} (h : CZ P t = some p) : P.underlying t = some (.map p.1 p.2) := by
 unfold CZ at h
 split at h
 ·rename_i k v hk; cases h; exact hk
 ·cases h
def jo (P : Program) (t : TypeId) : Option TypeId := match P.underlying t with
 | some (.slice e) => some e
 | _ => none
theorem cU {P : Program} {t e : TypeId} (h : jo P t = some e) : P.underlying t = some (.slice e) := by
 unfold jo at h
 split at h
 ·rename_i k hk; cases h; exact hk
 ·cases h
structure SlA where
 g : GK
 t : Ty
 l : List t.T
def slA (G H : List Row) (id : Nat) : Option SlA := match fE G H (nk id) with
 | some (_, .sli g _ t l _) => some ⟨g, t, l⟩
 | some (_, .own _ t _ l _) => some ⟨none, t, l⟩
 | _ => none
theorem Dj {ρ : Nms} {T : Tbl} {G H : List Row} {Φ : Ctx} {w : World} {id : Nat} {s : SlA} (hs : Sat (items ρ T G ++ (items ρ T H ++ Φ)) w) (h : slA G H id = some s) (hg : T.get s.g = true) :
  (SRd s.t.rep (Ctx.M (items ρ T G ++ (items ρ T H ++ Φ))) w (sl (ρ id).v) s.l) ∨ ∃ e, Own s.t.rep e (Ctx.M (items ρ T G ++ (items ρ T H ++ Φ))) w (sl (ρ id).v) s.l (slR (ρ id).v) := by
 unfold slA at h
 split at h
 ·rename_i s' g j t l b hf
  cases h
  obtain ⟨h1, h2⟩ := cG hf
  have : j = id := Nat.eq_of_beq_eq_true h2
  subst this
  exact .inl ((Src.holds hs h1) hg).1
 ·rename_i s' j t e l ks hf
  cases h
  obtain ⟨h1, h2⟩ := cG hf
  have : j = id := Nat.eq_of_beq_eq_true h2
  subst this
  exact .inr ⟨e, (Src.holds hs h1).1⟩
 ·cases h
theorem Ga {ρ : Nms} {T : Tbl} {G H : List Row} {Φ : Ctx} {w : World} {id : Nat} {s : SlA} (hs : Sat (items ρ T G ++ (items ρ T H ++ Φ)) w) (h : slA G H id = some s) (hg : T.get s.g = true) : Len (sl (ρ id).v) s.l.length := by
 rcases Dj hs h hg with h | ⟨e, h⟩
 ·exact h.len
 ·exact h.len
theorem Ni {ρ : Nms} {T : Tbl} {G H : List Row} {Φ : Ctx} {w : World} {id : Nat} {s : SlA} (hs : Sat (items ρ T G ++ (items ρ T H ++ Φ)) w) (h : slA G H id = some s) (hg : T.get s.g = true) : SRd s.t.rep (fun _ => False) w (sl (ρ id).v) s.l := by
 rcases Dj hs h hg with h | ⟨e, h⟩
 ·exact h.mv (Mv.weaken w fun _ h => h.elim)
 ·exact h.freeze (fun _ _ h => h) (Mv.weaken w fun _ h => h.elim)
def KG (T : Tbl) (G H : List Row) (g : GK) (v : AV) : Option (List Int) := match v with
 | .sl id => (match slA G H id with
  | some ⟨g', .i .u8, l⟩ => ifS ( T.imp g g' ) ( some l ) none
  | _ => none)
 | .raw (.slice none 0 0) => some []
 | _ => none
theorem M5 {ρ : Nms} {T : Tbl} {G H : List Row} {Φ : Ctx} {w : World} {g : GK} {v : AV} {l : List Int} (hs : Sat (items ρ T G ++ (items ρ T H ++ Φ)) w) (h : KG T G H g v = some l) (hg : T.get g = true) : SRd (RI .u8) (fun _ => False) w (v.val ρ) l := by
 unfold KG at h
 split at h
 ·split at h
  ·rename_i g' l' hl
   obtain ⟨h1, h2⟩ := aw h
   cases h2
   have := Ni hs hl (Tbl.kj h1 hg)
   simp only [AV.val]
   exact this
  ·cases h
 ·cases h; simp only [AV.val]; exact SRd.nil
 ·cases h
def EJ (X : Cx) (T : Tbl) (E F : an) (G H : List Row) (g : GK) (c : Callee) (xs : List Operand) (ts : List TypeId) : CV := match c, xs, ts with
 | .builtin .len, [x], [t] => (match jo X.P t with
  | some _ => (match opA T E F g x with
   | some (.sl id) => (match slA G H id with
    | some s => ifS ( T.imp g s.g ) ( pv (.int .i64 (s.l.length : Int)) ) none
    | none => none)
   | some (.raw (.slice none 0 0)) => pv (.int .i64 0)
   | _ => none)
  | none => none)
 | _, _, _ => none
def GX (X : Cx) (T : Tbl) (E F : an) (G H : List Row) (g : GK) : Op → CV
 | .load t x => (match opA T E F g x with
  | some v => (match wZ T G H g v with
   | some cs => (match lS X.P t cs with
    | some v => pv v
    | none => none)
   | none => none)
  | none => none)
 | .convert s d x => ifS ( isStr X.P d ) ( (match jo X.P s with
  | some e => (match tyK X.P e with
   | some .u8 => (match opA T E F g x with
    | some v => (match KG T G H g v with
     | some l => pv (.str (strOf l))
     | none => none)
    | none => none)
   | _ => none)
  | none => none) ) none
 | .lookup t x y ok => (match CZ X.P t with
  | some p => (match opA T E F g x with
   | some (.mp id) => (match opA T E F g y with
    | some kv => (match fE G H (Kj id) with
     | some (_, .mp _ k v d) => (match tiA X.P p.2 with
      | some z => ifS ( GB X.P p.1 k && GM v z.2.2 ) ( (match DZ k kv with
       | some key => ifS ( ok ) ( pv (.tuple [Hu v (rC d key v.qC), .bool (Bi d key)]) ) <| pv (Hu v (rC d key v.qC))
       | none => none) ) none
      | none => none)
     | _ => none)
    | none => none)
   | _ => none)
  | none => none)
 | .call c => EJ X T E F G H g c.callee c.args.toList c.argTypes.toList
 | _ => none
section
variable {X : Cx} {ρ : Nms} {T : Tbl} {E F : an} {G H : List Row} {Φ : Ctx} {g : GK} {w : World} {dst : Option Tmp} {ty : TypeId} {pos : String} {af : Array Edge} {gd : Option (Nat × Bool)}
theorem JM {P : Program} {Ev : Env} {b : Bool} {o : Oper} {v : Value} (h : b = true → Run P Ev b o w v) : Run P Ev b o w v := fun n a hf hg => h hg n a hf hg
theorem JU {x : Operand} {t : TypeId} {u v : AV} {cs : List AV} (hs : Sat (items ρ T G ++ (items ρ T H ++ Φ)) w) (hx : opA T E F g x = some u) (hc : wZ T G H g u = some cs) (h : lS X.P t cs = some v) :
  Run X.P (aq ρ T E F) (T.get g) ⟨dst, .load t x, ty, pos, af, gd⟩ w (v.val ρ) := JM fun hg => by
 obtain ⟨p, hp, hc⟩ := BW hs hc hg
 have hx' := aC (ρ := ρ) hx
 rw [hp] at hx'
 have h' : lS X.P t (cs.drop 0) = some v := by simpa using h
 obtain ⟨d, n, bytes, z, c1, c2, c3⟩ := o7 (ρ := ρ) h'
 cases hd : j6 d
 ·rw [hd] at c3
  simp only [Bool.false_eq_true, if_false] at c3
  refine xj c1 hd hx' (fun _ => ?_)
  have := hc.sub (us := [v.val ρ]) 0 (by
   cases hq : AV.ah ρ cs with
   | nil => rw [hq] at c3; cases c3
   | cons a l => rw [hq] at c3; cases c3; simp)
  simpa [Addr.add] using this
 ·unfold lS at h
  rw [c1] at h
  rcases fD h with ⟨_, h2⟩ | ⟨h1, _⟩
  ·split at h2
   ·rename_i q hq
    obtain ⟨n, bytes, z⟩ := q
    obtain ⟨h3, h4⟩ := aw h2
    cases h4
    have hl : n ≤ cs.length := Nat.le_of_ble_eq_true h3
    simp only [AV.val]
    refine xC c1 hd (fg hq) hx' (fun _ => ?_) ?_
    ·have := hc.sub (us := AV.ah ρ (cs.take n)) 0 (by
      rw [AV.jn, List.drop_zero, List.length_take, AV.aW, Nat.min_eq_left hl])
     simpa [Addr.add] using this
    ·rw [AV.aW, List.length_take, Nat.min_eq_left hl]
   ·cases h2
  ·rw [hd] at h1; cases h1
theorem G7 {c : Callee} {xs : Array Operand} {ts : Array TypeId} {cv : Option Bool × AV} (hs : Sat (items ρ T G ++ (items ρ T H ++ Φ)) w) (h : EJ X T E F G H g c xs.toList ts.toList = some cv) :
  pF X.P (aq ρ T E F) ρ (T.get g) ⟨dst, .call ⟨c, xs, ts⟩, ty, pos, af, gd⟩ w cv := by
 obtain ⟨xs⟩ := xs
 obtain ⟨ts⟩ := ts
 unfold EJ at h
 split at h
 ·rename_i x t e1 e2
  simp only at e1 e2; subst e1; subst e2
  split at h
  ·rename_i e he
   split at h
   ·rename_i id hx
    have h3 := aC (ρ := ρ) hx
    simp only [AV.val] at h3
    split at h
    ·rename_i s hsl
     obtain ⟨h1, h2⟩ := aw h
     exact .pv h2 (JM fun hg => Ca (cU he) h3 (Ga hs hsl (Tbl.kj h1 hg)))
    ·cases h
   ·rename_i hx
    have h3 := aC (ρ := ρ) hx
    simp only [AV.val] at h3
    exact .pv h (Ca (n := 0) (cU he) h3 ⟨_, _, rfl⟩)
   ·cases h
  ·cases h
 ·cases h
theorem CW {op : Op} {cv : Option Bool × AV} (hs : Sat (items ρ T G ++ (items ρ T H ++ Φ)) w) (h : GX X T E F G H g op = some cv) :
  pF X.P (aq ρ T E F) ρ (T.get g) ⟨dst, op, ty, pos, af, gd⟩ w cv := by
 unfold GX at h
 split at h
 ·split at h
  ·rename_i v hv
   split at h
   ·rename_i cs hcs
    split at h
    ·rename_i v' hv'
     exact .pv h (JU hs hv hcs hv')
    ·cases h
   ·cases h
  ·cases h
 ·obtain ⟨h1, h2⟩ := aw h
  split at h2
  ·rename_i e he
   split at h2
   ·rename_i hk
    split at h2
    ·rename_i v hv
     split at h2
     ·rename_i l hl
      refine .pv h2 (JM fun hg => ?_)
      have h3 := aC (ρ := ρ) hv
      simp only [AV.val]
      exact MF (M := fun _ => False) (cU he) (Aq hk) (nf h1) h3 (fun _ => M5 hs hl hg)
     ·cases h2
    ·cases h2
   ·cases h2
  ·cases h2
 ·rename_i t x y ok
  split at h
  ·rename_i p hp
   split at h
   ·rename_i id hx
    split at h
    ·rename_i kv hy
     split at h
     ·rename_i s j k v d hf
      split at h
      ·rename_i z hz
       obtain ⟨h1, h2⟩ := aw h
       simp only [Bool.and_eq_true] at h1
       split at h2
       ·rename_i key hkey
        obtain ⟨f1, f2⟩ := cG hf
        have : j = id := Nat.eq_of_beq_eq_true f2
        subst this
        have hb := Src.holds hs f1
        have h3 := aC (ρ := ρ) hx
        have h4 := aC (ρ := ρ) hy
        simp only [AV.val] at h3
        rw [Bm hkey] at h4
        obtain ⟨z1, z2, z3⟩ := z
        have hz' : (zeroValue p.2).run X.P w = .ok (uw v v.qC) w := by
         rw [← JL h1.2]; exact (fg hz).zero w
        cases ok
        ·refine .pv h2 ?_
         rw [F6]
         exact Hx (AY h1.1) (A7 hp) hz' h3 h4 (fun _ => hb)
        ·refine .pv h2 ?_
         simp only [AV.val, AV.ah]
         rw [F6]
         exact DQ (AY h1.1) (A7 hp) hz' h3 h4 (fun _ => hb)
       ·cases h2
      ·cases h
     ·cases h
    ·cases h
   ·cases h
  ·cases h
 ·exact G7 hs h
 ·cases h
end
def bb (P : Program) (E : Env) (o : Oper) (w : World) (R : Value → World → Prop) : Prop :=
 ∀ n a, Fits n E a → (∃ v w', (execOp a.eval o).run P w = .ok (.value v) w' ∧ R v w') ∨ (∃ w', (execOp a.eval o).run P w = .ok .skip w' ∧ R undef w') ∨
  (∃ (f : FuncId) (args : List Value), (execOp a.eval o).run P w = .ok (.enter f args.toArray) w ∧ o6 P f args w R)
section
variable {P : Program} {σ : Option Nat} {Q : ba} {n : Nat} {D : List Deferred} {E : Env} {w : World} {ops : Array Oper} {rest : List Oper} {o : Oper} {R S : Value → World → Prop}
theorem bb.mono (h : bb P E o w R) (k : ∀ v w', R v w' → S v w') : bb P E o w S := fun n a hf => by
 rcases h n a hf with ⟨v, w', h1, h2⟩ | ⟨w', h1, h2⟩ | ⟨f, args, h1, h2⟩
 ·exact .inl ⟨v, w', h1, k _ _ h2⟩
 ·exact .inr (.inl ⟨w', h1, k _ _ h2⟩)
 ·exact .inr (.inr ⟨f, args, h1, h2.mono k⟩)
theorem bb.run {v : Value} (h : Run P E true o w v) (k : R v w) : bb P E o w R := fun n a hf => .inl ⟨v, w, h n a hf rfl, k⟩
theorem bb.oB {v : Value} {w' : World} (h : pQ P E o w v w') (k : R v w') : bb P E o w R := fun n a hf => .inl ⟨v, w', h n a hf, k⟩
theorem bb.GO {w' : World} (h : w8 P E o w w') (k : R undef w') : bb P E o w R := fun n a hf => .inr (.inl ⟨w', h n a hf, k⟩)
theorem bb.upon (hd : bb P E o w R) {a : Act} (hf : Fits n E a) {next : Act → World → Prop} (h : ∀ v w', R v w' → next (a.put o.dst v) w') : o.uponIn (FW σ) 0 P a next Q ((execOp a.eval o).run P w) := by
 rcases hd n a hf with ⟨v, w', h1, h2⟩ | ⟨w', h1, h2⟩ | ⟨f, args, h1, h2⟩
 ·rw [h1, Oper.uponIn_value]; exact h _ _ h2
 ·rw [h1, Oper.uponIn_skip]; exact h _ _ h2
 ·rw [h1]; exact rk h2 (fun v w' hv => h v w' hv) (fun _ _ hv => hv.elim)
def pg (dst : Option Tmp) (g : Bool) (v : Value) (E : Env) : Env := match dst with
 | some d => (d, g, v) :: E
 | none => E
def A6 (n : Nat) : Option Tmp → Bool
 | some d => Nat.blt d n
 | none => true
theorem Fits.pg {E : Env} {a : Act} (h : Fits n E a) {d : Option Tmp} {g : Bool} {v : Value} (hd : A6 n d = true) : Fits n (pg d g v E) (a.put d (rW g v)) := by
 cases d with
 | none => exact h
 | some d => exact h.put hd
theorem Nf (hd : bb P E o w R) (hp : jl o = true) (hg : o.guard = none) (hn : A6 n o.dst = true)
  (h : ∀ v w', R v w' → WL P σ ops Q n D rest (pg o.dst true v E) w') : WL P σ ops Q n D (o :: rest) E w := fun a hf hD =>
 wpListIn_plain hg fun K hK => ld hp (hd.upon hf fun v w' hv => hK _ _ (h v w' hv _ (hf.pg hn) (by rw [jO]; exact hD)))
theorem Kk {j : Nat} {pol : Bool} {rj : Tmp} {gj bj : Bool} {g : Bool} (hd : g = true → bb P E o w R) (h0 : g = false → ∃ v, R v w) (hp : jl o = true) (hgd : o.guard = some (j, pol)) (hj : (ops[j]?).bind (·.dst) = some rj)
  (hl : look E rj = some (gj, .bool bj)) (hnj : Nat.blt rj n = true) (hG : (gj && (bj == pol)) = g) (hn : A6 n o.dst = true)
  (h : ∀ v w', R v w' → WL P σ ops Q n D rest (pg o.dst g v E) w') : WL P σ ops Q n D (o :: rest) E w := fun a hf hD =>
 wpListIn_step fun K hK => by
  rw [xv hgd hj hl hf hnj, hG]
  cases g
  ·simp only [Bool.false_eq_true, if_false]
   obtain ⟨v, hv⟩ := h0 rfl
   have := hf.pg (d := o.dst) (g := false) (v := v) hn
   exact ⟨fun _ _ => trivial, hK _ _ (h _ _ hv _ this (by rw [jO]; exact hD))⟩
  ·simp only [if_true]
   exact ld hp ((hd rfl).upon hf fun v w' hv => hK _ _ (h v w' hv _ (hf.pg hn) (by rw [jO]; exact hD)))
end
end Go.Proofs.YtdhgpnejphlfpaaGreatDoor
namespace Go.Proofs.YtdhgpnejphlfpaaGreatDoor
open Go.Lib
abbrev Go_ (R : Type) := StB → Option R
def dh (dst : Option Tmp) (g : GK) (v : AV) (E : an) : an := match dst with
 | some d => (d, g, v) :: E
 | none => E
def aJ {R : Type} (r : R) (K : Go_ R) (T : Tbl) (fr : Fr) (st : StB) (g : GK) (dst : Option Tmp) (ρ : Nms) (Φ : Ctx) (v : Value) (w' : World) : Prop :=
 ∃ (ρ' : Nms) (st' : StB) (av : AV), K st' = some r ∧ aE st.c ρ ρ' ∧ st.c ≤ st'.c ∧ st'.E = dh dst g av st.E ∧ av.val ρ' = v ∧ aq ρ' T st.E fr.F = aq ρ T st.E fr.F ∧
  items ρ' T fr.H = items ρ T fr.H ∧ Sat (items ρ' T st'.G ++ (items ρ' T fr.H ++ Φ)) w'
def Ok2 (P : Program) (T : Tbl) (g : GK) (Ev : Env) (o : Oper) (w : World) (O : Value → World → Prop) : Prop :=
 (T.get g = true → bb P Ev o w O) ∧ (T.get g = false → ∃ v, O v w)
section
variable {R : Type} {r : R} {K : Go_ R} {T : Tbl} {fr : Fr} {st st' : StB} {g : GK} {dst : Option Tmp} {ρ ρ' : Nms} {Φ : Ctx} {v : Value} {w w' : World}
theorem StB.dN : st.low fr = true ↔ an.low st.c st.E = true ∧ an.low st.c fr.F = true ∧ bg st.c st.G = true ∧ bg st.c fr.H = true := by
 simp only [StB.low, Bool.and_eq_true, and_assoc]
theorem q8 (hl : st.low fr = true) (ha : aE st.c ρ ρ') : aq ρ' T st.E fr.F = aq ρ T st.E fr.F := by
 obtain ⟨h1, h2, _, _⟩ := StB.dN.1 hl
 rw [aq, qm ha h1, qm ha h2]
theorem aJ.new {av : AV} (hl : st.low fr = true) (hK : K st' = some r) (ha : aE st.c ρ ρ') (hc : st.c ≤ st'.c) (hE : st'.E = dh dst g av st.E) (hv : av.val ρ' = v)
  (hs : Sat (items ρ' T st'.G ++ (items ρ T fr.H ++ Φ)) w') : aJ r K T fr st g dst ρ Φ v w' := by
 have e := aX (T := T) ha (StB.dN.1 hl).2.2.2
 exact ⟨ρ', st', av, hK, ha, hc, hE, hv, q8 hl ha, e, by rw [e]; exact hs⟩
theorem aJ.old {av : AV} (hK : K st' = some r) (hc : st.c ≤ st'.c) (hE : st'.E = dh dst g av st.E) (hv : av.val ρ = v)
  (hs : Sat (items ρ T st'.G ++ (items ρ T fr.H ++ Φ)) w') : aJ r K T fr st g dst ρ Φ v w' :=
 ⟨ρ, st', av, hK, .refl, hc, hE, hv, rfl, rfl, hs⟩
theorem aJ.push {av : AV} {x : Nm} {row : Row} (hl : st.low fr = true) (hK : K { st with c := st.c + 1, E := dh dst g av st.E, G := row :: st.G } = some r) (hv : av.val (ρ.set st.c x) = v)
  (hs : Sat (row.item (ρ.set st.c x) T :: (items ρ T st.G ++ (items ρ T fr.H ++ Φ))) w') : aJ r K T fr st g dst ρ Φ v w' := by
 refine aJ.new hl hK Nms.bh (Nat.le_succ _) rfl hv ?_
 have e := aX (T := T) (Nms.bh (ρ := ρ) (j := st.c) (x := x)) (StB.dN.1 hl).2.2.1
 show Sat (items (ρ.set st.c x) T (row :: st.G) ++ _) w'
 rw [items, List.map_cons]
 rw [items] at e
 rw [e]
 exact hs
theorem iB {G : List Row} {row : Row} {j : Nat} {Δ : Ctx} (hj : j < G.length) : items ρ T (G.set j row) ++ Δ = (items ρ T G ++ Δ).set j (row.item ρ T) := by
 rw [List.set_append_left _ _ (by simpa [items] using hj)]
 simp only [items, List.map_set]
theorem aJ.upd {av : AV} {x : Nm} {row : Row} {j : Nat} (hl : st.low fr = true) (hj : j < st.G.length) (hK : K { st with c := st.c + 1, E := dh dst g av st.E, G := st.G.set j row } = some r) (hv : av.val (ρ.set st.c x) = v)
  (hs : Sat ((items ρ T st.G ++ (items ρ T fr.H ++ Φ)).set j (row.item (ρ.set st.c x) T)) w') : aJ r K T fr st g dst ρ Φ v w' := by
 refine aJ.new hl hK Nms.bh (Nat.le_succ _) rfl hv ?_
 have e := aX (T := T) (Nms.bh (ρ := ρ) (j := st.c) (x := x)) (StB.dN.1 hl).2.2.1
 show Sat (items (ρ.set st.c x) T (st.G.set j row) ++ _) w'
 rw [iB hj, e]
 exact hs
end
def Okq (P : Program) (T : Tbl) (g : GK) (Ev : Env) (o : Oper) (w : World) (O : Value → World → Prop) : Prop := ∃ v, (∀ w', Run P Ev (T.get g) o w' v) ∧ O v w
theorem Okq.ok2 {P : Program} {T : Tbl} {g : GK} {Ev : Env} {o : Oper} {w : World} {O : Value → World → Prop} (h : Okq P T g Ev o w O) : Ok2 P T g Ev o w O := by
 obtain ⟨v, h1, h2⟩ := h
 exact ⟨fun hg => bb.run (by have := h1 w; rwa [hg] at this) h2, fun _ => ⟨v, h2⟩⟩
theorem bb.gd {P : Program} {E : Env} {dst : Option Tmp} {op : Op} {ty : TypeId} {pos : String} {af : Array Edge} {gd : Option (Nat × Bool)} {w : World} {R : Value → World → Prop} (h : bb P E ⟨dst, op, ty, pos, af, none⟩ w R) : bb P E ⟨dst, op, ty, pos, af, gd⟩ w R :=
 fun n a hf => h n a hf
/-! elements laid out, and read -/
def Ty.n' : Ty → Nat
 | .i _ | .bo | .s | .l _ => 1
 | .un | .n | .mp _ _ => 0
 | .p x y => x.n' + y.n'
 | .ex => 4
theorem Ty.vy : (t : Ty) → t.rep.n = t.n'
 | .i _ | .bo | .s | .l _ | .un | .n | .mp _ _ | .ex => rfl
 | .p x y => by show x.rep.n + y.rep.n = _; rw [Ty.vy x, Ty.vy y]; rfl
def mat : (t : Ty) → t.T → Nat → List AV × List Row × Nat
 | .i k, x, c => ([.int k x], [], c)
 | .bo, x, c => ([.bool x], [], c)
 | .s, x, c => ([.str x], [], c)
 | .un, _, c => ([], [], c)
 | .n, _, c => ([], [], c)
 | .mp _ _, _, c => ([], [], c)
 | .p a b, x, c => match mat a x.1 c with
  | (u, p, c) => match mat b x.2 c with
   | (v, q, c) => (u ++ v, p ++ q, c)
 | .l t, x, c => ([.sl c], [.sli none c t x false], c + 1)
 | .ex, x, c => ([.int .i64 x.op, .int .i64 x.n, .int .i64 x.at_, .sl c], [.sli none c .ex x.l false], c + 1)
structure Oz (T : Tbl) (M : Nat → Prop) (w : World) (vs : List Value) (c : Nat) (ρ ρ' : Nms) (m : List AV × List Row × Nat) : Prop where
 ag : aE c ρ ρ'
 le : c ≤ m.2.2
 lw : AV.bJ m.2.2 m.1 = true
 eq : AV.ah ρ' m.1 = vs
 rl : ∀ r ∈ m.2.1, r.low m.2.2 = true
 rs : ∀ r ∈ m.2.1, ∃ j t l, r = .sli none j t l false
 rp : ∀ r ∈ m.2.1, (r.item ρ' T).P M w
theorem Row.eB {c d : Nat} (hcd : c ≤ d) {r : Row} (h : r.low c = true) : r.low d = true := by
 cases r <;> simp only [Row.low, Bool.and_eq_true, Nat.blt_eq] at h ⊢
 ·exact ⟨by omega, AV.iC hcd _ h.2⟩
 ·omega
 ·omega
 ·omega
 ·exact ⟨by omega, AV.iC hcd _ h.2⟩
 ·omega
 ·omega
 ·exact ⟨by omega, AV.eB hcd _ h.2⟩
theorem uR {T : Tbl} {M : Nat → Prop} {w : World} : (t : Ty) → (x : t.T) → (c : Nat) → (vs : List Value) → t.rep.rd M w vs x → (ρ : Nms) → ∃ ρ', Oz T M w vs c ρ ρ' (mat t x c)
 | .i k, x, c, vs, h, ρ => ⟨ρ, .refl, Nat.le_refl _, rfl, by cases h; simp [mat, AV.ah, AV.val], (fun _ h => by cases h), (fun _ h => by cases h), (fun _ h => by cases h)⟩
 | .bo, x, c, vs, h, ρ => ⟨ρ, .refl, Nat.le_refl _, rfl, by cases h; simp [mat, AV.ah, AV.val], (fun _ h => by cases h), (fun _ h => by cases h), (fun _ h => by cases h)⟩
 | .s, x, c, vs, h, ρ => ⟨ρ, .refl, Nat.le_refl _, rfl, by cases h; simp [mat, AV.ah, AV.val], (fun _ h => by cases h), (fun _ h => by cases h), (fun _ h => by cases h)⟩
 | .un, x, c, vs, h, ρ => ⟨ρ, .refl, Nat.le_refl _, rfl, by cases h; simp [mat, AV.ah], (fun _ h => by cases h), (fun _ h => by cases h), (fun _ h => by cases h)⟩
 | .n, x, c, vs, h, ρ => h.elim
 | .mp _ _, x, c, vs, h, ρ => h.elim
 | .p a b, x, c, vs, h, ρ => by
  obtain ⟨us, us', rfl, h1, h2⟩ := h
  obtain ⟨ρ1, m1⟩ := uR (T := T) a x.1 c us h1 ρ
  obtain ⟨ρ2, m2⟩ := uR (T := T) b x.2 (mat a x.1 c).2.2 us' h2 ρ1
  refine ⟨ρ2, m1.ag.trans m2.ag m1.le, Nat.le_trans m1.le m2.le, yX (AV.iC m2.le _ m1.lw) m2.lw, ?_, fun r hr => ?_, fun r hr => ?_, fun r hr => ?_⟩
  ·simp only [mat, df]; rw [AV.bH m2.ag _ m1.lw, m1.eq, m2.eq]
  ·rcases List.mem_append.1 hr with hr | hr
   ·exact Row.eB m2.le (m1.rl r hr)
   ·exact m2.rl r hr
  ·rcases List.mem_append.1 hr with hr | hr
   ·exact m1.rs r hr
   ·exact m2.rs r hr
  ·rcases List.mem_append.1 hr with hr | hr
   ·rw [Row.rE m2.ag (m1.rl r hr)]; exact m1.rp r hr
   ·exact m2.rp r hr
 | .l t, x, c, vs, h, ρ => by
  obtain ⟨v, rfl, h⟩ := h
  refine ⟨ρ.set c { nm0 with v := v }, Nms.bh, Nat.le_succ _, by simp [mat, AV.bJ, AV.low], by simp [mat, AV.ah, AV.val, Nms.cj], fun r hr => ?_, fun r hr => ?_, fun r hr => ?_⟩
  ·simp only [mat, List.mem_singleton] at hr; subst hr; simp [Row.low, mat]
  ·simp only [mat, List.mem_singleton] at hr; subst hr; exact ⟨_, _, _, rfl⟩
  ·simp only [mat, List.mem_singleton] at hr; subst hr
   simp only [Row.item, Nms.cj]
   exact fun _ => ⟨h, fun hb => by cases hb⟩
 | .ex, x, c, vs, h, ρ => by
  obtain ⟨v, rfl, hq⟩ := Gq h
  refine ⟨ρ.set c { nm0 with v := v }, Nms.bh, Nat.le_succ _, by simp [mat, AV.bJ, AV.low], by simp [mat, AV.ah, AV.val, Nms.cj], fun r hr => ?_, fun r hr => ?_, fun r hr => ?_⟩
  ·simp only [mat, List.mem_singleton] at hr; subst hr; simp [Row.low, mat]
  ·simp only [mat, List.mem_singleton] at hr; subst hr; exact ⟨_, _, _, rfl⟩
  ·simp only [mat, List.mem_singleton] at hr; subst hr
   simp only [Row.item, Nms.cj]
   exact fun _ => ⟨hq, fun hb => by cases hb⟩
theorem xG : (t : Ty) → (x : t.T) → (c : Nat) → c ≤ (mat t x c).2.2
 | .i _, _, _ | .bo, _, _ | .s, _, _ | .un, _, _ | .n, _, _ | .mp _ _, _, _ => Nat.le_refl _
 | .p a b, x, c => Nat.le_trans (xG a x.1 c) (xG b x.2 _)
 | .l _, _, _ | .ex, _, _ => Nat.le_succ _
theorem xr : (t : Ty) → (x : t.T) → (c : Nat) → ∀ r ∈ (mat t x c).2.1, ∃ j t l, r = .sli none j t l false
 | .i _, _, _, _, h | .bo, _, _, _, h | .s, _, _, _, h | .un, _, _, _, h | .n, _, _, _, h | .mp _ _, _, _, _, h => by cases h
 | .p a b, x, c, r, h => by
  rcases List.mem_append.1 h with h | h
  ·exact xr a x.1 c r h
  ·exact xr b x.2 _ r h
 | .l _, _, _, r, h => by
  simp only [mat, List.mem_singleton] at h; subst h; exact ⟨_, _, _, rfl⟩
 | .ex, _, _, r, h => by
  simp only [mat, List.mem_singleton] at h; subst h; exact ⟨_, _, _, rfl⟩
def oD (g : GK) (r : Row) : Row := match g, r with
 | none, r => r
 | some g, .sli _ id t l b => .sli (some g) id t l b
 | some _, r => r
theorem nK {ρ : Nms} {T : Tbl} {g : GK} {M : Nat → Prop} {w : World} {j : Nat} {t : Ty} {l : List t.T} (h : T.get g = true → ((Row.sli none j t l false).item ρ T).P M w) :
  ((oD g (.sli none j t l false)).item ρ T).cS = true ∧ ((oD g (.sli none j t l false)).item ρ T).P M w := by
 cases g with
 | none => exact ⟨rfl, h (Tbl.get_none)⟩
 | some k =>
  refine ⟨rfl, fun hg => ?_⟩
  exact h hg (Tbl.get_none)
theorem vc {Γ : Ctx} {w : World} (h : Sat Γ w) : ∀ (new : List Item), (∀ it ∈ new, it.cS = true ∧ it.P Γ.M w) → Sat (new ++ Γ) w := fun new hn => by
 have key : ∀ new : List Item, (∀ it ∈ new, it.cS = true ∧ it.P Γ.M w) → new.all (·.cS) = true ∧ Jy Γ.M w new := fun new => by
  induction new with
  | nil => exact fun _ => ⟨rfl, trivial⟩
  | cons it l ih =>
   intro hn
   obtain ⟨h1, h2⟩ := ih (fun jt hj => hn jt (List.mem_cons_of_mem _ hj))
   obtain ⟨h3, h4⟩ := hn it (List.mem_cons_self ..)
   exact ⟨by simp only [List.all_cons, Bool.and_eq_true]; exact ⟨h3, h1⟩, h4, h2⟩
 exact h.Nq new (key new hn).1 (key new hn).2
def qx (G H : List Row) (t : Ty) (v : AV) : Option (List t.T) := match v with
 | .sl j => (match fE G H (nk j) with
  | some (_, .sli none _ t' l _) => Dyn.asL t ⟨.l t', l⟩
  | _ => none)
 | .raw (.slice none 0 0) => some []
 | _ => none
where Dyn.asL (t : Ty) (d : Dyn) : Option (List t.T) := d.as (.l t)
theorem sH {t t' : Ty} {l : List t'.T} {l' : List t.T} (h : qx.Dyn.asL t ⟨.l t', l⟩ = some l') : ∃ e : t' = t, e ▸ l = l' := by
 have := Dyn.yn h
 cases this
 exact ⟨rfl, rfl⟩
theorem Bs {ρ : Nms} {T : Tbl} {G H : List Row} {Φ : Ctx} {w : World} {t : Ty} {v : AV} {l : List t.T} (hs : Sat (items ρ T G ++ (items ρ T H ++ Φ)) w) (h : qx G H t v = some l) :
  SRd t.rep (Ctx.M (items ρ T G ++ (items ρ T H ++ Φ))) w (v.val ρ) l := by
 unfold qx at h
 split at h
 ·rename_i j
  split at h
  ·rename_i s j' t' l' b hf
   obtain ⟨h1, h2⟩ := cG hf
   have : j' = j := Nat.eq_of_beq_eq_true h2
   subst this
   obtain ⟨rfl, rfl⟩ := sH h
   simp only [AV.val]
   exact ((Src.holds hs h1) Tbl.get_none).1
  ·cases h
 ·cases h; simp only [AV.val]; exact SRd.nil
 ·cases h
def rdA (G H : List Row) : (t : Ty) → List AV → Option (t.T × List AV)
 | .i k, vs => (match vs with
  | .int k' x :: vs => ifS ( gf k k' ) ( some (x, vs) ) none
  | _ => none)
 | .bo, vs => (match vs with
  | .bool x :: vs => some (x, vs)
  | _ => none)
 | .s, vs => (match vs with
  | .str x :: vs => some (x, vs)
  | _ => none)
 | .un, vs => some ((), vs)
 | .p a b, vs => (match rdA G H a vs with
  | some x => (match rdA G H b x.2 with
   | some y => some ((x.1, y.1), y.2)
   | none => none)
  | none => none)
 | .l t, vs => (match vs with
  | v :: vs => (match qx G H t v with
   | some l => some (l, vs)
   | none => none)
  | _ => none)
 | .ex, vs => (match vs with
  | .int .i64 a :: .int .i64 b :: .int .i64 c :: v :: vs => (match qx G H .ex v with
   | some l => some (Ex.mk a b c l, vs)
   | none => none)
  | _ => none)
 | _, _ => none
theorem Ah {ρ : Nms} {T : Tbl} {G H : List Row} {Φ : Ctx} {w : World} (hs : Sat (items ρ T G ++ (items ρ T H ++ Φ)) w) : (t : Ty) → (vs : List AV) → (x : t.T × List AV) → rdA G H t vs = some x →
  ∃ us, vs = us ++ x.2 ∧ t.rep.rd (Ctx.M (items ρ T G ++ (items ρ T H ++ Φ))) w (AV.ah ρ us) x.1
 | .i k, vs, x, h => by
  unfold rdA at h
  split at h
  ·rename_i k' y us
   obtain ⟨h1, h2⟩ := aw h
   have := kr h1; subst this
   cases h2
   exact ⟨[.int k y], rfl, by simp only [AV.ah, AV.val]; rfl⟩
  ·cases h
 | .bo, vs, x, h => by
  unfold rdA at h
  split at h
  ·rename_i y us
   cases h
   exact ⟨[.bool y], rfl, by simp only [AV.ah, AV.val]; rfl⟩
  ·cases h
 | .s, vs, x, h => by
  unfold rdA at h
  split at h
  ·rename_i y us
   cases h
   exact ⟨[.str y], rfl, by simp only [AV.ah, AV.val]; rfl⟩
  ·cases h
 | .un, vs, x, h => by
  unfold rdA at h
  cases h
  exact ⟨[], rfl, by simp only [AV.ah]; rfl⟩
 | .n, vs, x, h => by unfold rdA at h; cases h
 | .mp _ _, vs, x, h => by unfold rdA at h; cases h
 | .p a b, vs, x, h => by
  unfold rdA at h
  split at h
  ·rename_i y hy
   split at h
   ·rename_i z hz
    cases h
    obtain ⟨us, e1, h1⟩ := Ah hs a vs y hy
    obtain ⟨us', e2, h2⟩ := Ah hs b y.2 z hz
    refine ⟨us ++ us', by rw [e1, e2, List.append_assoc], ?_⟩
    rw [df]
    exact ⟨_, _, rfl, h1, h2⟩
   ·cases h
  ·cases h
 | .l t, vs, x, h => by
  unfold rdA at h
  split at h
  ·rename_i v us
   split at h
   ·rename_i l hl
    cases h
    refine ⟨[v], rfl, ?_⟩
    simp only [AV.ah]
    exact (Bs hs hl).rsl
   ·cases h
  ·cases h
 | .ex, vs, x, h => by
  unfold rdA at h
  split at h
  ·rename_i a b c v us
   split at h
   ·rename_i l hl
    cases h
    refine ⟨[.int .i64 a, .int .i64 b, .int .i64 c, v], rfl, ?_⟩
    simp only [AV.ah, AV.val]
    exact yZ (Bs hs hl).rsl
   ·cases h
  ·cases h
def rd1 (G H : List Row) (t : Ty) (vs : List AV) : Option t.T := match rdA G H t vs with
 | some (x, []) => some x
 | _ => none
theorem Ix {ρ : Nms} {T : Tbl} {G H : List Row} {Φ : Ctx} {w : World} (hs : Sat (items ρ T G ++ (items ρ T H ++ Φ)) w) {t : Ty} {vs : List AV} {x : t.T} (h : rd1 G H t vs = some x) :
  t.rep.rd (Ctx.M (items ρ T G ++ (items ρ T H ++ Φ))) w (AV.ah ρ vs) x := by
 unfold rd1 at h
 split at h
 ·rename_i y hy
  cases h
  obtain ⟨us, e1, h1⟩ := Ah hs t vs _ hy
  simp only [List.append_nil] at e1
  rw [e1]; exact h1
 ·cases h
def rdL (G H : List Row) (t : Ty) : Nat → List AV → Option (List t.T)
 | 0, vs => (match vs with
  | [] => some []
  | _ => none)
 | k + 1, vs => (match rdA G H t vs with
  | some x => (match rdL G H t k x.2 with
   | some l => some (x.1 :: l)
   | none => none)
  | none => none)
theorem IY {ρ : Nms} {T : Tbl} {G H : List Row} {Φ : Ctx} {w : World} (hs : Sat (items ρ T G ++ (items ρ T H ++ Φ)) w) {t : Ty} : (k : Nat) → (vs : List AV) → (l : List t.T) → rdL G H t k vs = some l →
  l.length = k ∧ ARd t.rep (Ctx.M (items ρ T G ++ (items ρ T H ++ Φ))) w (AV.ah ρ vs) l
 | 0, vs, l, h => by
  unfold rdL at h
  split at h
  ·cases h; exact ⟨rfl, by simp only [AV.ah]; exact ARd.nil⟩
  ·cases h
 | k + 1, vs, l, h => by
  unfold rdL at h
  split at h
  ·rename_i x hx
   split at h
   ·rename_i l' hl
    cases h
    obtain ⟨us, e1, h1⟩ := Ah hs t vs x hx
    obtain ⟨h2, h3⟩ := IY hs k x.2 l' hl
    refine ⟨by simp [h2], ?_⟩
    rw [e1, df]
    exact ARd.cons h1 h3
   ·cases h
  ·cases h
/-! freezing -/
def frz (ids : List Nat) : List Row → List Row
 | [] => []
 | r :: G => (match r with
  | .own id t e l ver => ifS ( vU id ids ) ( .sli none id t l false ) <| .own id t e l ver
  | r => r) :: frz ids G
theorem Gh {ρ : Nms} {T : Tbl} {ids : List Nat} {w : World} : {G : List Row} → {A B : Ctx} → Sat (A ++ (items ρ T G ++ B)) w → Sat (A ++ (items ρ T (frz ids G) ++ B)) w
 | [], _, _, h => h
 | r :: G, A, B, h => by
  have step : ∀ r' : Row, Sat (A ++ (items ρ T (r' :: G) ++ B)) w → Sat (A ++ (items ρ T (r' :: frz ids G) ++ B)) w := fun r' h => by
   have h' : Sat ((A ++ [r'.item ρ T]) ++ (items ρ T G ++ B)) w := by simpa [items] using h
   have := Gh (ids := ids) h'
   simpa [items] using this
  unfold frz
  split
  ·rename_i id t e l ver
   cases hm : vU id ids
   ·exact step _ h
   ·refine step _ ?_
    have hi : (A ++ (items ρ T (Row.own id t e l ver :: G) ++ B))[A.length]? = some (rZ t.rep e (ρ id).v l ((ρ ver).y = ⟨.l t, l⟩)) := by
     rw [List.getElem?_append_right (Nat.le_refl _)]
     simp [items, Row.item]
    have h2 := h.upd hi (new := (Row.sli none id t l false).item ρ T) ((Ext.refl w).chg _) (fun b hb => by cases hb) (fun M' m hn => fun _ => ⟨(h.at_ hi).1.freeze (fun b hb => hn b hb (fun hb => by cases hb)) m, fun hb => by cases hb⟩)
    rw [List.set_append_right _ _ (Nat.le_refl _)] at h2
    simpa [items] using h2
  ·exact step _ h
theorem pK {c : Nat} {ids : List Nat} : {G : List Row} → bg c G = true → bg c (frz ids G) = true
 | [], _ => rfl
 | r :: G, h => by
  simp only [bg, Bool.and_eq_true] at h
  unfold frz
  simp only [bg, Bool.and_eq_true]
  refine ⟨?_, pK h.2⟩
  split
  ·rename_i id t e l ver
   have h1 := h.1
   simp only [Row.low, Bool.and_eq_true] at h1
   cases vU id ids
   ·simp only [Row.low, Bool.and_eq_true]; exact h1
   ·simp only [Row.low]; exact h1.1
  ·exact h.1
theorem jL {ρ : Nms} {T : Tbl} {ids : List Nat} {w : World} {G : List Row} {B : Ctx} (h : Sat (items ρ T G ++ B) w) : Sat (items ρ T (frz ids G) ++ B) w := Gh (A := []) h
def AV.sls : AV → List Nat
 | .sl id => [id]
 | .agg l => sls0 l
 | _ => []
where sls0 : List AV → List Nat
 | [] => []
 | .sl id :: l => id :: sls0 l
 | _ :: l => sls0 l
end Go.Proofs.YtdhgpnejphlfpaaGreatDoor
namespace Go.Proofs.YtdhgpnejphlfpaaGreatDoor
open Go.Lib
section
variable {X : Cx} {R : Type} {r : R} {K : Go_ R} {T : Tbl} {fr : Fr} {st : StB} {g : GK} {d : Tmp} {ρ : Nms} {Φ : Ctx} {w : World} {ty : TypeId} {pos : String} {af : Array Edge} {gd : Option (Nat × Bool)}
theorem Ok2.none_ {P : Program} {Ev : Env} {o : Oper} {O : Value → World → Prop} (h : bb P Ev o w O) : Ok2 P T none Ev o w O := ⟨fun _ => h, fun hg => by rw [Tbl.get_none] at hg; cases hg⟩
/-! new blocks -/
def Ly (P : Program) (t : TypeId) : Option (List AV) := match tiA P t with
 | some z => some (z.2.2.cells.toList.map cst)
 | none => none
def JD (st : StB) (d : Tmp) (t : TypeId) (cs : List AV) (K : Go_ R) : Option R := K { st with c := st.c + 1, E := dh (some d) none (.ptr st.c 0) st.E, G := .box st.c t cs :: st.G }
theorem DG {t : TypeId} {cs : List AV} (hl : st.low fr = true) (hs : Sat (items ρ T st.G ++ (items ρ T fr.H ++ Φ)) w) (hcs : AV.bJ st.c cs = true) (h : JD st d t cs K = some r) :
  aJ r K T fr st none (some d) ρ Φ (.pointer (some ⟨w.heap.size, 0, none⟩)) (w.alloc (.cells (AV.ah ρ cs).toArray t)) := by
 refine aJ.push (x := { nm0 with b := w.heap.size }) hl h (by simp only [AV.val, Nms.cj]) ?_
 simp only [Row.item, Nms.cj]
 rw [AV.bH Nms.bh _ hcs]
 exact hs.push (gO _ _) (fun b hb => by
  have : b = w.heap.size := by simpa [box] using hb
  subst this; simp) (fun _ _ => heap_alloc_new w _)
def Ec (X : Cx) (st : StB) (d : Tmp) (t : TypeId) (K : Go_ R) : Option R := match Ly X.P t with
 | some cs => JD st d t cs K
 | none => none
theorem Iy {t : TypeId} (hl : st.low fr = true) (hs : Sat (items ρ T st.G ++ (items ρ T fr.H ++ Φ)) w) (h : Ec X st d t K = some r) :
  Ok2 X.P T none (aq ρ T st.E fr.F) ⟨some d, .alloc t, ty, pos, af, gd⟩ w (aJ r K T fr st none (some d) ρ Φ) := by
 unfold Ec at h
 split at h
 ·rename_i cs hcs
  unfold Ly at hcs
  split at hcs
  ·rename_i z hz
   cases hcs
   obtain ⟨n, b, z⟩ := z
   refine .none_ (bb.gd (bb.oB (Gr (zs := z.cells.toList) (fg hz) (by simp)) ?_))
   have := DG hl hs Ej h
   rwa [nA] at this
  ·cases hcs
 ·cases h
def JF (T : Tbl) (fr : Fr) (st : StB) (d : Tmp) (t : TypeId) (x : Operand) (K : Go_ R) : Option R := match opA T st.E fr.F none x with
 | some v => ifS ( xY v && AV.bJ st.c (cf v) ) ( JD st d t (cf v) K ) none
 | none => none
theorem L4 {t : TypeId} {x : Operand} (hl : st.low fr = true) (hs : Sat (items ρ T st.G ++ (items ρ T fr.H ++ Φ)) w) (h : JF T fr st d t x K = some r) :
  Ok2 X.P T none (aq ρ T st.E fr.F) ⟨some d, .box t x, ty, pos, af, gd⟩ w (aJ r K T fr st none (some d) ρ Φ) := by
 unfold JF at h
 split at h
 ·rename_i v hv
  obtain ⟨h1, h2⟩ := aw h
  simp only [Bool.and_eq_true] at h1
  exact .none_ (bb.gd (bb.oB (K5 (dx hv) (qi h1.1)) (DG hl hs h1.2 h2)))
 ·cases h
/-! stores -/
def GH : AV → Bool
 | .agg _ | .tuple _ | .nv _ => false
 | .raw v => v.oneCell'
 | _ => true
theorem Jt {v : AV} (h : GH v = true) : (v.val ρ).oneCell' = true := by
 cases v with
 | agg l => cases h
 | tuple l => cases h
 | nv l => cases h
 | raw v => simp only [AV.val]; exact h
 | _ => simp only [AV.val]; rfl
theorem yu : {l : List AV} → l.all GH = true → (AV.ah ρ l).all Value.oneCell' = true
 | [], _ => by simp [AV.ah]
 | v :: l, h => by
  simp only [List.all_cons, Bool.and_eq_true] at h
  simp only [AV.ah, List.all_cons, Bool.and_eq_true]
  exact ⟨Jt h.1, yu h.2⟩
def DN (P : Program) (st : StB) (t : TypeId) (id off : Nat) (v : AV) (K : Go_ R) : Option R := match m8 (yF id) st.G with
 | some (j, .box _ e vs) => (match tiA P t with
  | some z => ifS ( xY v && (cf v).all GH && Nat.beq (cf v).length z.1 && Nat.ble (off + (cf v).length) vs.length ) (
    K { st with G := st.G.set j (.box id e (nJ vs off (cf v))) } ) none
  | none => none)
 | _ => none
theorem IM {t : TypeId} {x y : Operand} {id off : Nat} {v : AV} (hs : Sat (items ρ T st.G ++ (items ρ T fr.H ++ Φ)) w) (hx : opA T st.E fr.F none x = some (.ptr id off)) (hy : opA T st.E fr.F none y = some v) (h : DN X.P st t id off v K = some r) :
  bb X.P (aq ρ T st.E fr.F) ⟨none, .store t x y, ty, pos, af, gd⟩ w (aJ r K T fr st none none ρ Φ) := by
 unfold DN at h
 split at h
 ·rename_i j id' e vs hf
  split at h
  ·rename_i z hz
   obtain ⟨n, bytes, z⟩ := z
   obtain ⟨h1, h2⟩ := aw h
   simp only [Bool.and_eq_true] at h1
   obtain ⟨⟨⟨a1, a2⟩, a3⟩, a4⟩ := h1
   obtain ⟨f1, f2⟩ := kM hf
   have : id' = id := Nat.eq_of_beq_eq_true f2
   subst this
   have hx' := dx (ρ := ρ) hx
   have hy' := dx (ρ := ρ) hy
   simp only [AV.val] at hx'
   have hi := iL (ρ := ρ) (T := T) (Φ := items ρ T fr.H ++ Φ) f1
   have hb : er w (ρ id').b e (AV.ah ρ vs) := hs.at_ hi
   obtain ⟨hr, hC, hB⟩ := Gn (P := X.P) (E := aq ρ T st.E fr.F) (w := w) (dst := none) (ty := ty) (pos := pos) (af := af) (fg hz) hx' hy' (qi a1) (by rw [AV.aW]; exact Nat.eq_of_beq_eq_true a3) (yu a2) hb (by rw [AV.aW, AV.aW]; exact a4) pU
   refine bb.gd (bb.GO hr (aJ.old (av := .raw undef) h2 (Nat.le_refl _) rfl (by simp only [AV.val]) ?_))
   have hj : j < st.G.length := (List.getElem?_eq_some_iff.1 f1).1
   show Sat (items ρ T (st.G.set j _) ++ _) _
   rw [iB hj]
   refine hs.upd hi hC (fun c hc => ?_) (fun _ _ _ => hB)
   have : c = (ρ id').b := by simpa [Row.item, box] using hc
   subst this; exact ⟨hB.lt, .inl (by simp [Row.item, box])⟩
  ·cases h
 ·cases h
theorem FQ {t : Ty} {e : TypeId} {p : SLV} {l l' : List t.T} {q q' : Prop} {i : Nat} {Γ : Ctx} {w' : World} (hs : Sat Γ w) (hi : Γ[i]? = some (rZ t.rep e p l q)) (hq : q') (hC : Chg (blk (sl p)) w w') (hsz : w'.heap.size = w.heap.size) (hR : slR p = blk (sl p))
  (hP : ∀ M', Mv Γ.M w M' w' → OSl t.rep e M' w' (sl p) l') : Sat (Γ.set i (rZ t.rep e p l' q')) w' := by
 refine hs.upd hi (by rw [← hR] at hC; exact hC) (fun c hc => ⟨by rw [hsz]; exact (hs.at_ hi).1.lt c hc, .inl hc⟩) (fun M' m _ => ⟨?_, hq⟩)
 show Own t.rep e M' w' (sl p) l' (slR p)
 rw [hR]
 exact Own.of (hP M' m)
theorem rM {c : Nat} : ∀ {G : List Row} {j : Nat} {r : Row}, bg c G = true → G[j]? = some r → r.low c = true := fun {G} => by
 induction G with
 | nil => intro j r _ h; simp at h
 | cons r0 G ih =>
  intro j r h h'
  simp only [bg, Bool.and_eq_true] at h
  cases j with
  | zero => simp at h'; subst h'; exact h.1
  | succ j => exact ih h.2 (by simpa using h')
def DY (P : Program) (fr : Fr) (st : StB) (t : TypeId) (q off : Nat) (v : AV) (K : Go_ R) : Option R :=
 match fE (frz (AV.sls.sls0 (cf v)) st.G) fr.H (Ld q) with
 | some (_, .kn none _ id ver u i x) => (match m8 (nk id) (frz (AV.sls.sls0 (cf v)) st.G) with
  | some (j, .own _ u' e l ver') => (match tiA P t with
   | some z => ifS ( Nat.beq ver ver' && xY v && (cf v).all GH && Nat.beq (cf v).length z.1 && AV.bJ st.c (cf v) ) (
     ifS ( Nat.beq off 0 && Nat.beq (cf v).length u'.n' ) ( match rd1 (frz (AV.sls.sls0 (cf v)) st.G) fr.H u' (cf v) with
      | some y => K { st with c := st.c + 1, G := (frz (AV.sls.sls0 (cf v)) st.G).set j (.own id u' e (List.set l i.toNat y) st.c) }
      | none => none ) <|
      ifS ( Nat.ble (off + (cf v).length) (mat u x (st.c + 1)).1.length ) ( match rd1 ((mat u x (st.c + 1)).2.1 ++ frz (AV.sls.sls0 (cf v)) st.G) fr.H u' (nJ (mat u x (st.c + 1)).1 off (cf v)) with
       | some y => K { st with c := (mat u x (st.c + 1)).2.2, G := (mat u x (st.c + 1)).2.1 ++ (frz (AV.sls.sls0 (cf v)) st.G).set j (.own id u' e (List.set l i.toNat y) st.c) }
       | none => none ) none ) none
   | none => none)
  | _ => none)
 | _ => none
theorem I5 {t : TypeId} {x y : Operand} {q off : Nat} {v : AV} (hl : st.low fr = true) (hs : Sat (items ρ T st.G ++ (items ρ T fr.H ++ Φ)) w) (hx : opA T st.E fr.F none x = some (.adr q off)) (hy : opA T st.E fr.F none y = some v) (h : DY X.P fr st t q off v K = some r) :
  bb X.P (aq ρ T st.E fr.F) ⟨none, .store t x y, ty, pos, af, gd⟩ w (aJ r K T fr st none none ρ Φ) := by
 unfold DY at h
 have hGl := pK (ids := AV.sls.sls0 (cf v)) (StB.dN.1 hl).2.2.1
 replace hs := jL (ids := AV.sls.sls0 (cf v)) hs
 generalize frz (AV.sls.sls0 (cf v)) st.G = G at h hGl hs
 split at h
 ·rename_i s q' id ver u i xe hf
  split at h
  ·rename_i j id' u' e l ver' hr
   split at h
   ·rename_i z hz
    obtain ⟨n, bytes, z⟩ := z
    obtain ⟨h1, h2⟩ := aw h
    simp only [Bool.and_eq_true] at h1
    obtain ⟨⟨⟨⟨a1, a2⟩, a3⟩, a4⟩, a5⟩ := h1
    obtain ⟨f1, f2⟩ := cG hf
    obtain ⟨k1, k2⟩ := kM hr
    have e1 : q' = q := Nat.eq_of_beq_eq_true f2
    have e2 : id' = id := Nat.eq_of_beq_eq_true k2
    have e3 : ver = ver' := Nat.eq_of_beq_eq_true a1
    subst e1; subst e2; subst e3
    have hx' := dx (ρ := ρ) hx
    have hy' := dx (ρ := ρ) hy
    simp only [AV.val] at hx'
    obtain ⟨l0, b1, b2, b3⟩ := (Src.holds hs f1) Tbl.get_none
    have hi := iL (ρ := ρ) (T := T) (Φ := items ρ T fr.H ++ Φ) k1
    obtain ⟨c1, c2⟩ := hs.at_ hi
    obtain ⟨e4, e5⟩ := Bo b1 c2
    subst e4
    simp only at e5
    subst e5
    obtain ⟨o1, o2⟩ := c1.osl b2
    obtain ⟨o3, vs0, o4, o5⟩ := c1.atA b2
    have hj : j < G.length := (List.getElem?_eq_some_iff.1 k1).1
    have hcl : (AV.ah ρ (cf v)).length = n := by rw [AV.aW]; exact Nat.eq_of_beq_eq_true a4
    rw [b3] at hx'
    rcases fD h2 with ⟨h3, h4⟩ | ⟨_, h4⟩
    ·simp only [Bool.and_eq_true] at h3
     have e6 : off = 0 := Nat.eq_of_beq_eq_true h3.1
     subst e6
     split at h4
     ·rename_i y' hy2
      have hrd := Ix hs hy2
      have hlv : vs0.length = u.rep.n := u.rep.len o5
      have hlu : (AV.ah ρ (cf v)).length = u.rep.n := u.rep.len hrd
      have hset : ki vs0 0 (AV.ah ρ (cf v)) = AV.ah ρ (cf v) := by
       unfold ki
       simp only [List.take_zero, List.nil_append, Nat.zero_add]
       rw [List.drop_eq_nil_of_le (by omega), List.append_nil]
      obtain ⟨w', hr, hC, hsz, hP⟩ := qK (P := X.P) (E := aq ρ T st.E fr.F) (w := w) (dst := none) (ty := ty) (pos := pos) (af := af) (fg hz) hx' hy' (qi a2) hcl (yu a3) o3 o1 o4 hlv (Nat.ble_eq_true_of_le (by omega)) hset hrd (fun b hb => Ctx.kI hi (by rw [← o2] at hb; exact hb))
      refine bb.gd (bb.GO hr (aJ.new (ρ' := ρ.set st.c { nm0 with y := ⟨.l u, List.set l0 i.toNat y'⟩ }) (av := .raw undef) hl h4 Nms.bh (Nat.le_succ _) rfl (by simp only [AV.val]) ?_))
      show Sat (items _ T (G.set j _) ++ _) _
      rw [iB hj, aX Nms.bh hGl]
      have := FQ (q' := ((ρ.set st.c { nm0 with y := ⟨.l u, List.set l0 i.toNat y'⟩ }) st.c).y = ⟨.l u, List.set l0 i.toNat y'⟩) hs hi (by rw [Nms.cj]) hC hsz o2 hP
      have hlt := (List.getElem?_eq_some_iff.1 k1).2
      have hidlt : (ρ.set st.c { nm0 with y := ⟨.l u, List.set l0 i.toNat y'⟩ }) id' = ρ id' := by
       have hrow := rM hGl k1
       simp only [Row.low, Bool.and_eq_true, Nat.blt_eq] at hrow
       exact Nms.bh _ hrow.1
      simp only [Row.item, hidlt]
      exact this
     ·cases h4
    ·obtain ⟨h5, h6⟩ := aw h4
     split at h6
     ·rename_i y' hy2
      obtain ⟨ρ1, m1⟩ := uR (T := T) u xe (st.c + 1) vs0 o5 (ρ.set st.c { nm0 with y := ⟨.l u, List.set l0 i.toNat y'⟩ })
      have ag : aE st.c ρ ρ1 := Nms.bh.trans m1.ag (Nat.le_succ _)
      generalize mat u xe (st.c + 1) = m at h5 h6 hy2 m1
      have hs1 : Sat (items ρ1 T m.2.1 ++ (items ρ T G ++ (items ρ T fr.H ++ Φ))) w := vc hs _ (fun it hit => by
       obtain ⟨r, hr1, rfl⟩ := List.mem_map.1 hit
       obtain ⟨j1, t1, l1, rfl⟩ := m1.rs _ hr1
       exact ⟨rfl, m1.rp _ hr1⟩)
      have eG := aX (T := T) ag hGl
      have eH := aX (T := T) ag (StB.dN.1 hl).2.2.2
      have hs2 : Sat (items ρ1 T (m.2.1 ++ G) ++ (items ρ1 T fr.H ++ Φ)) w := by
       rw [aU, List.append_assoc, eG, eH]; exact hs1
      have hrd := Ix hs2 hy2
      rw [aU, List.append_assoc, eG, eH, ← pU, m1.eq, AV.bH ag _ a5] at hrd
      have hi1 : (items ρ1 T m.2.1 ++ (items ρ T G ++ (items ρ T fr.H ++ Φ)))[m.2.1.length + j]? = some ((Row.own id' u e l0 ver).item ρ T) := by
       rw [List.getElem?_append_right (by simp [items])]
       have : m.2.1.length + j - (items ρ1 T m.2.1).length = j := by simp [items]
       rw [this]; exact hi
      obtain ⟨d1, d2⟩ := hs1.at_ hi1
      obtain ⟨p1, p2⟩ := d1.osl b2
      have hlv : vs0.length = u.rep.n := u.rep.len o5
      obtain ⟨w', hr, hC, hsz, hP⟩ := qK (P := X.P) (E := aq ρ T st.E fr.F) (w := w) (dst := none) (ty := ty) (pos := pos) (af := af) (fg hz) hx' hy' (qi a2) hcl (yu a3) o3 p1 o4 hlv (by
       have := m1.eq
       rw [← this, AV.aW, AV.aW]; exact h5) rfl hrd (fun b hb => Ctx.kI hi1 (by rw [← p2] at hb; exact hb))
      refine bb.gd (bb.GO hr (aJ.new (ρ' := ρ1) (av := .raw undef) hl h6 ag (Nat.le_trans (Nat.le_succ _) m1.le) rfl (by simp only [AV.val]) ?_))
      have hy1 : (ρ1 st.c).y = ⟨.l u, List.set l0 i.toNat y'⟩ := by rw [m1.ag _ (Nat.lt_succ_self _), Nms.cj]
      have := FQ hs1 hi1 hy1 hC hsz p2 hP
      have hrow := rM hGl k1
      simp only [Row.low, Bool.and_eq_true, Nat.blt_eq] at hrow
      show Sat (items ρ1 T (m.2.1 ++ G.set j _) ++ _) _
      rw [aU, List.append_assoc, iB hj, eG]
      rw [List.set_append_right _ _ (by simp [items])] at this
      have e7 : m.2.1.length + j - (items ρ1 T m.2.1).length = j := by simp [items]
      rw [e7] at this
      simp only [Row.item, ag _ hrow.1]
      exact this
     ·cases h6
   ·cases h
  ·cases h
 ·cases h
end
end Go.Proofs.YtdhgpnejphlfpaaGreatDoor
namespace Go.Proofs.YtdhgpnejphlfpaaGreatDoor
open Go.Lib
section
variable {X : Cx} {R : Type} {r : R} {K : Go_ R} {T : Tbl} {fr : Fr} {st : StB} {g : GK} {d : Tmp} {ρ : Nms} {Φ : Ctx} {w : World} {ty : TypeId} {pos : String} {af : Array Edge} {gd : Option (Nat × Bool)}
def CG {α : Type} (T : Tbl) (g : GK) (z : α) (m : Option α) (k : α → Option R) : Option R := match g with
 | none => m.bind k
 | some _ => ax (T.get g) z m k
theorem wz {α : Type} {z : α} {m : Option α} {k : α → Option R} (h : CG T g z m k = some r) : ∃ y, (T.get g = true → m = some y) ∧ k y = some r := by
 unfold CG at h
 split at h
 ·obtain ⟨y, h1, h2⟩ := rG h
  exact ⟨y, fun _ => h1, h2⟩
 ·obtain ⟨y, h1, _, h2⟩ := AB h
  exact ⟨y, h1, h2⟩
def NS (T : Tbl) (g : GK) (st : StB) (d : Tmp) (t : Ty) (l : List t.T) (i : Int) (K : Go_ R) : Option R :=
 CG T g t.qC (idx l i) fun x => K { st with c := (mat t x (st.c + 1)).2.2, E := dh (some d) g (.adr st.c 0) st.E, G := .elm g st.c (mat t x (st.c + 1)).1 :: ((mat t x (st.c + 1)).2.1.map (oD g) ++ st.G) }
def O5 (T : Tbl) (g : GK) (st : StB) (d : Tmp) (id ver : Nat) (t : Ty) (l : List t.T) (i : Int) (K : Go_ R) : Option R :=
 CG T g t.qC (idx l i) fun x => K { st with c := st.c + 1, E := dh (some d) g (.adr st.c 0) st.E, G := .kn g st.c id ver t i x :: st.G }
def He (X : Cx) (T : Tbl) (fr : Fr) (st : StB) (g : GK) (d : Tmp) (t : TypeId) (x y : Operand) (K : Go_ R) : Option R := match jo X.P t with
 | some e => (match tiA X.P e with
  | some z => (match opA T st.E fr.F g x with
   | some (.sl id) => (match opA T st.E fr.F g y with
    | some (.int _ i) => (match fE st.G fr.H (nk id) with
     | some (_, .sli g' _ t l _) => ifS ( T.imp g g' && Nat.beq z.1 t.n' ) ( NS T g st d t l i K ) none
     | some (_, .own _ t _ l ver) => ifS ( Nat.beq z.1 t.n' ) ( O5 T g st d id ver t l i K ) none
     | _ => none)
    | _ => none)
   | _ => none)
  | none => none)
 | none => none
theorem FE {t : TypeId} {x y : Operand} (hl : st.low fr = true) (hs : Sat (items ρ T st.G ++ (items ρ T fr.H ++ Φ)) w) (h : He X T fr st g d t x y K = some r) :
  Okq X.P T g (aq ρ T st.E fr.F) ⟨some d, .indexAddr t x y, ty, pos, af, gd⟩ w (aJ r K T fr st g (some d) ρ Φ) := by
 unfold He at h
 split at h
 ·rename_i e he
  split at h
  ·rename_i z hz
   obtain ⟨n, bytes, z⟩ := z
   split at h
   ·rename_i id hx
    split at h
    ·rename_i k i hy
     have hx' := aC (ρ := ρ) hx
     have hy' := aC (ρ := ρ) hy
     simp only [AV.val] at hx' hy'
     split at h
     ·rename_i s g' id' t l b hf
      obtain ⟨h1, h2⟩ := aw h
      simp only [Bool.and_eq_true] at h1
      have hn : n = t.rep.n := (Nat.eq_of_beq_eq_true h1.2).trans t.vy.symm
      obtain ⟨f1, f2⟩ := cG hf
      have : id' = id := Nat.eq_of_beq_eq_true f2
      subst this
      obtain ⟨x', b1, b2⟩ := wz h2
      have hT := Src.holds hs f1
      -- the element, where g holds
      have key : ∃ (p : Addr) (ρ1 : Nms), aE st.c ρ ρ1 ∧ (ρ1 st.c).a = p ∧ (T.get g = true → mL (sl (ρ id').v) i n p) ∧
        ∀ it ∈ items ρ1 T (.elm g st.c (mat t x' (st.c + 1)).1 :: ((mat t x' (st.c + 1)).2.1.map (oD g))), it.cS = true ∧ it.P (Ctx.M (items ρ T st.G ++ (items ρ T fr.H ++ Φ))) w := by
       cases hg : T.get g
       ·refine ⟨⟨0, 0, none⟩, ρ.set st.c nm0, Nms.bh, by rw [Nms.cj]; rfl, (fun h => by cases h), fun it hit => ?_⟩
        rw [items, List.map_cons] at hit
        rcases List.mem_cons.1 hit with rfl | hit
        ·exact ⟨rfl, fun h => by rw [hg] at h; cases h⟩
        ·obtain ⟨r1, hr1, rfl⟩ := List.mem_map.1 hit
         obtain ⟨r2, hr2, rfl⟩ := List.mem_map.1 hr1
         obtain ⟨j1, t1, l1, rfl⟩ := xr _ _ _ _ hr2
         exact nK (fun h => by rw [hg] at h; cases h)
       ·have hS := (hT (Tbl.kj h1.1 hg)).1
        obtain ⟨e1, vs, e2, e3, e4⟩ := hS.atA (b1 hg)
        obtain ⟨ρ1, m1⟩ := uR (T := T) t x' (st.c + 1) vs e3 (ρ.set st.c { nm0 with a := elA (sl (ρ id').v) i t.rep.n })
        have ha1 : (ρ1 st.c).a = elA (sl (ρ id').v) i t.rep.n := by rw [m1.ag _ (Nat.lt_succ_self _), Nms.cj]
        refine ⟨elA (sl (ρ id').v) i t.rep.n, ρ1, Nms.bh.trans m1.ag (Nat.le_succ _), ha1, fun _ => by rw [hn]; exact e1, fun it hit => ?_⟩
        rw [items, List.map_cons] at hit
        rcases List.mem_cons.1 hit with rfl | hit
        ·refine ⟨rfl, fun _ => ?_⟩
         show ¬ Ctx.M _ (ρ1 st.c).a.block ∧ aM w (ρ1 st.c).a _
         rw [ha1, m1.eq]
         exact ⟨e4, e2⟩
        ·obtain ⟨r1, hr1, rfl⟩ := List.mem_map.1 hit
         obtain ⟨r2, hr2, rfl⟩ := List.mem_map.1 hr1
         have hp2 := m1.rp _ hr2
         obtain ⟨j1, t1, l1, rfl⟩ := m1.rs _ hr2
         exact nK (fun _ => hp2)
      obtain ⟨p, ρ1, k1, k2, k3, k4⟩ := key
      have hs2 := vc hs _ k4
      have eG := aX (T := T) k1 (StB.dN.1 hl).2.2.1
      have hout : aJ r K T fr st g (some d) ρ Φ (.pointer (some p)) w := by
       refine aJ.new (ρ' := ρ1) hl b2 k1 (Nat.le_trans (Nat.le_succ _) (xG _ _ _)) rfl (by simp only [AV.val, k2]; simp [Addr.add]) ?_
       show Sat (items ρ1 T (Row.elm g st.c _ :: (_ ++ st.G)) ++ _) w
       have e8 : items ρ1 T (Row.elm g st.c (mat t x' (st.c + 1)).1 :: ((mat t x' (st.c + 1)).2.1.map (oD g) ++ st.G)) = items ρ1 T (.elm g st.c (mat t x' (st.c + 1)).1 :: ((mat t x' (st.c + 1)).2.1.map (oD g))) ++ items ρ1 T st.G := by
        simp [items]
       rw [e8, eG, List.append_assoc]
       exact hs2
      exact ⟨_, fun w' => yT (cU he) (fg hz) hx' hy' k3, hout⟩
     ·rename_i s id' t e' l ver hf
      obtain ⟨h1, h2⟩ := aw h
      have hn : n = t.rep.n := (Nat.eq_of_beq_eq_true h1).trans t.vy.symm
      obtain ⟨f1, f2⟩ := cG hf
      have : id' = id := Nat.eq_of_beq_eq_true f2
      subst this
      obtain ⟨x', b1, b2⟩ := wz h2
      obtain ⟨hO, hy2⟩ := Src.holds hs f1
      have hrow : id' < st.c ∧ ver < st.c := by
       have : (Row.own id' t e' l ver).low st.c = true := by
        cases s with
        | top j => exact rM (StB.dN.1 hl).2.2.1 f1
        | frz j => exact rM (StB.dN.1 hl).2.2.2 f1
        | _ => exact f1.elim
       simpa only [Row.low, Bool.and_eq_true, Nat.blt_eq] using this
      have hout : aJ r K T fr st g (some d) ρ Φ (.pointer (some (elA (sl (ρ id').v) i t.rep.n))) w := by
       refine aJ.push (x := { nm0 with a := elA (sl (ρ id').v) i t.rep.n }) hl b2 (by simp only [AV.val, Nms.cj]; simp [Addr.add]) (hs.add rfl ?_)
       intro hg
       rw [Nms.bh _ hrow.1, Nms.bh _ hrow.2, Nms.cj]
       exact ⟨l, hy2, b1 hg, rfl⟩
      exact ⟨_, fun w' => yT (cU he) (fg hz) hx' hy' (fun hg => by rw [hn]; exact (hO.atA (b1 hg)).1), hout⟩
     ·cases h
    ·cases h
   ·cases h
  ·cases h
 ·cases h
def GZ (X : Cx) (T : Tbl) (fr : Fr) (st : StB) (g : GK) (d : Tmp) (t : TypeId) (q off : Nat) (K : Go_ R) : Option R := match fE st.G fr.H (Ld q) with
 | some (_, .kn g' _ id ver u _ x) => (match fE st.G fr.H (nk id) with
  | some (_, .own _ _ _ _ ver') => ifS ( Nat.beq ver ver' && T.imp g g' ) ( match lS X.P t ((mat u x st.c).1.drop off) with
   | some v => K { st with c := (mat u x st.c).2.2, E := dh (some d) g v st.E, G := (mat u x st.c).2.1.map (oD g) ++ st.G }
   | none => none ) none
  | _ => none)
 | _ => none
theorem KC {t : TypeId} {x : Operand} {q off : Nat} (hl : st.low fr = true) (hs : Sat (items ρ T st.G ++ (items ρ T fr.H ++ Φ)) w) (hx : opA T st.E fr.F g x = some (.adr q off)) (h : GZ X T fr st g d t q off K = some r) :
  Ok2 X.P T g (aq ρ T st.E fr.F) ⟨some d, .load t x, ty, pos, af, gd⟩ w (aJ r K T fr st g (some d) ρ Φ) := by
 unfold GZ at h
 split at h
 ·rename_i s g' q' id ver u i xe hf
  split at h
  ·rename_i s2 id' u' e l ver' hf2
   obtain ⟨h1, h2⟩ := aw h
   simp only [Bool.and_eq_true] at h1
   split at h2
   ·rename_i v hv
    obtain ⟨f1, f2⟩ := cG hf
    obtain ⟨f3, f4⟩ := cG hf2
    have e1 : q' = q := Nat.eq_of_beq_eq_true f2
    have e2 : id' = id := Nat.eq_of_beq_eq_true f4
    have e3 : ver = ver' := Nat.eq_of_beq_eq_true h1.1
    subst e1; subst e2; subst e3
    have hx' := aC (ρ := ρ) hx
    simp only [AV.val] at hx'
    have hF := Src.holds hs f1
    obtain ⟨hO, hy2⟩ := Src.holds hs f3
    have key : ∃ (ρ1 : Nms) (vs : List Value), aE st.c ρ ρ1 ∧ AV.ah ρ1 (mat u xe st.c).1 = vs ∧ (T.get g = true → aM w (ρ q').a vs) ∧
      ∀ it ∈ items ρ1 T ((mat u xe st.c).2.1.map (oD g)), it.cS = true ∧ it.P (Ctx.M (items ρ T st.G ++ (items ρ T fr.H ++ Φ))) w := by
     cases hg : T.get g
     ·refine ⟨ρ, _, .refl, rfl, (fun h => by cases h), fun it hit => ?_⟩
      obtain ⟨r1, hr1, rfl⟩ := List.mem_map.1 hit
      obtain ⟨r2, hr2, rfl⟩ := List.mem_map.1 hr1
      obtain ⟨j1, t1, l1, rfl⟩ := xr _ _ _ _ hr2
      exact nK (fun h => by rw [hg] at h; cases h)
     ·obtain ⟨l0, b1, b2, b3⟩ := hF (Tbl.kj h1.2 hg)
      obtain ⟨e4, e5⟩ := Bo b1 hy2
      subst e4
      simp only at e5
      subst e5
      obtain ⟨_, vs, e6, e7⟩ := hO.atA b2
      obtain ⟨ρ1, m1⟩ := uR (T := T) u xe st.c vs e7 ρ
      refine ⟨ρ1, vs, m1.ag, m1.eq, fun _ => by rw [b3]; exact e6, fun it hit => ?_⟩
      obtain ⟨r1, hr1, rfl⟩ := List.mem_map.1 hit
      obtain ⟨r2, hr2, rfl⟩ := List.mem_map.1 hr1
      have hp2 := m1.rp _ hr2
      obtain ⟨j1, t1, l1, rfl⟩ := m1.rs _ hr2
      exact nK (fun _ => hp2)
    obtain ⟨ρ1, vs, k1, k2, k3, k4⟩ := key
    have hs2 := vc hs _ k4
    have eG := aX (T := T) k1 (StB.dN.1 hl).2.2.1
    have hout : aJ r K T fr st g (some d) ρ Φ (v.val ρ1) w := by
     refine aJ.new (ρ' := ρ1) hl h2 k1 (xG _ _ _) rfl rfl ?_
     show Sat (items ρ1 T (_ ++ st.G) ++ _) w
     rw [aU, eG, List.append_assoc]
     exact hs2
    refine ⟨fun hg => bb.gd (bb.run ?_ hout), fun _ => ⟨_, hout⟩⟩
    rw [hg] at hx'
    have hc := k3 hg
    have hsub : aM w ((ρ q').a.add off) (AV.ah ρ1 ((mat u xe st.c).1.drop off)) := by
     refine hc.sub _ ?_
     rw [AV.fJ, k2, List.take_of_length_le (Nat.le_refl _)]
    have h' : lS X.P t (((mat u xe st.c).1.drop off).drop 0) = some v := by simpa using hv
    obtain ⟨dd, n, bytes, z, c1, c2, c3⟩ := o7 (ρ := ρ1) h'
    cases hd : j6 dd
    ·rw [hd] at c3
     simp only [Bool.false_eq_true, if_false] at c3
     refine xj c1 hd hx' (fun _ => ?_)
     have := hsub.sub (us := [v.val ρ1]) 0 (by
      cases hq : AV.ah ρ1 ((mat u xe st.c).1.drop off) with
      | nil => rw [hq] at c3; cases c3
      | cons a l => rw [hq] at c3; cases c3; simp)
     simpa [Addr.add] using this
    ·unfold lS at hv
     rw [c1] at hv
     rcases fD hv with ⟨_, h3⟩ | ⟨h3, _⟩
     ·split at h3
      ·rename_i z2 hz2
       obtain ⟨n2, bytes2, z2⟩ := z2
       obtain ⟨h4, h5⟩ := aw h3
       cases h5
       have hln : n2 ≤ ((mat u xe st.c).1.drop off).length := Nat.le_of_ble_eq_true h4
       simp only [AV.val]
       refine xC c1 hd (fg hz2) hx' (fun _ => ?_) ?_
       ·have := hsub.sub (us := AV.ah ρ1 (((mat u xe st.c).1.drop off).take n2)) 0 (by
         rw [AV.jn, List.drop_zero, List.length_take, AV.aW, Nat.min_eq_left hln])
        simpa [Addr.add] using this
       ·rw [AV.aW, List.length_take, Nat.min_eq_left hln]
      ·cases h3
     ·rw [hd] at h3; cases h3
   ·cases h2
  ·cases h
 ·cases h
end
end Go.Proofs.YtdhgpnejphlfpaaGreatDoor
namespace Go.Proofs.YtdhgpnejphlfpaaGreatDoor
open Go.Lib
section
variable {X : Cx} {R : Type} {r : R} {K : Go_ R} {T : Tbl} {fr : Fr} {st : StB} {g : GK} {d : Tmp} {ρ : Nms} {Φ : Ctx} {w : World} {ty : TypeId} {pos : String} {af : Array Edge} {gd : Option (Nat × Bool)}
/-! cuts -/
def CK : Operand → Operand → Bool
 | .tmp a, .tmp b => Nat.beq a b
 | .const (.int .i64 a), .const (.int .i64 b) => decide (a = b)
 | _, _ => false
theorem EK {x y : Operand} (h : CK x y = true) : x = y := by
 unfold CK at h
 split at h
 ·rw [Nat.eq_of_beq_eq_true h]
 ·rw [of_decide_eq_true h]
 ·cases h
def GJ (_T : Tbl) (g : GK) (st : StB) (d : Tmp) (G : List Row) (t : Ty) (l : List t.T) (i j : Int) (clip : Bool) (K : Go_ R) : Option R :=
 K { st with c := st.c + 1, E := dh (some d) g (.sl st.c) st.E, G := .sli g st.c t (lh l i j) clip :: G }
def HD (X : Cx) (T : Tbl) (fr : Fr) (st : StB) (g : GK) (d : Tmp) (t : TypeId) (x : Operand) (lo hi mx : Option Operand) (K : Go_ R) : Option R := match jo X.P t with
 | some e => (match tiA X.P e with
  | some z => (match opA T st.E fr.F g x with
   | some (.sl id) => (match loA T st.E fr.F g lo with
    | some i => (match hiA T st.E fr.F g hi with
     | some j => (match fE (frz [id] st.G) fr.H (nk id) with
      | some (_, .sli g' _ u l _) => ifS ( T.imp g g' && Nat.beq z.1 u.n' ) ( match mx with
       | none => wD (some (j8 i (j.getD (l.length : Int)) l.length)) (g.map fun _ => T.get g) (GJ T g st d (frz [id] st.G) u l i (j.getD (l.length : Int)) false K)
       | some y => (match hi with
        | some h => (match opA T st.E fr.F g y with
         | some (.int _ m) => ifS (CK h y) ( wD (some (wC i m m l.length)) (g.map fun _ => T.get g) (GJ T g st d (frz [id] st.G) u l i m true K) )
          ( wD (some (wC i (j.getD (l.length : Int)) m l.length)) (g.map fun _ => T.get g) (GJ T g st d (frz [id] st.G) u l i (j.getD (l.length : Int)) false K) )
         | _ => none)
        | none => none) ) none
      | _ => none)
     | none => none)
    | none => none)
   | _ => none)
  | none => none)
 | none => none
theorem zA {G : List Row} {t : Ty} {l : List t.T} {i j : Int} {clip : Bool} {p : SLV} (hl : st.low fr = true) (hGl : bg st.c G = true) (hs : Sat (items ρ T G ++ (items ρ T fr.H ++ Φ)) w)
  (hp : T.get g = true → SRd t.rep (Ctx.M (items ρ T G ++ (items ρ T fr.H ++ Φ))) w (sl p) (lh l i j) ∧ (clip = true → p.2.2 = (lh l i j).length)) (h : GJ T g st d G t l i j clip K = some r) :
  aJ r K T fr st g (some d) ρ Φ (sl p) w := by
 refine aJ.new (ρ' := ρ.set st.c { nm0 with v := p }) hl h Nms.bh (Nat.le_succ _) rfl (by simp only [AV.val, Nms.cj]) ?_
 show Sat (items _ T (_ :: G) ++ _) w
 have e := aX (T := T) (Nms.bh (ρ := ρ) (j := st.c) (x := { nm0 with v := p })) hGl
 rw [items, List.map_cons]
 rw [items] at e
 rw [e]
 refine hs.add rfl ?_
 simp only [Row.item, Nms.cj]
 exact hp
theorem F4 {t : TypeId} {x : Operand} {lo hi mx : Option Operand} (hl : st.low fr = true) (hs : Sat (items ρ T st.G ++ (items ρ T fr.H ++ Φ)) w) (h : HD X T fr st g d t x lo hi mx K = some r) :
  Okq X.P T g (aq ρ T st.E fr.F) ⟨some d, .slice t x lo hi mx, ty, pos, af, gd⟩ w (aJ r K T fr st g (some d) ρ Φ) := by
 unfold HD at h
 split at h
 ·rename_i e he
  split at h
  ·rename_i z hz
   obtain ⟨n, bytes, z⟩ := z
   split at h
   ·rename_i id hx
    split at h
    ·rename_i i hi
     split at h
     ·rename_i j hj
      replace hs := jL (ids := [id]) hs
      have hGl := pK (ids := [id]) (StB.dN.1 hl).2.2.1
      have hx' := aC (ρ := ρ) hx
      simp only [AV.val] at hx'
      split at h
      ·rename_i s g' id' u l b hf
       obtain ⟨h1, h2⟩ := aw h
       simp only [Bool.and_eq_true] at h1
       have hn : n = u.rep.n := (Nat.eq_of_beq_eq_true h1.2).trans u.vy.symm
       obtain ⟨f1, f2⟩ := cG hf
       have : id' = id := Nat.eq_of_beq_eq_true f2
       subst this
       have hT := Src.holds hs f1
       have hS : T.get g = true → SRd u.rep _ w (sl (ρ id').v) l := fun hg => (hT (Tbl.kj h1.1 hg)).1
       have hti := fg hz
       rw [hn] at hti
       split at h2
       ·obtain ⟨h3, h4⟩ := lQ h2
        obtain ⟨p, k1, k2⟩ := SRd.ON hS (fun hg => h3 _ rfl hg)
        have hout := zA (p := p) hl hGl hs (fun hg => ⟨k2 hg, fun hb => by cases hb⟩) h4
        exact ⟨_, fun w' => H2 (cU he) hti hx' (fun hg => (hS hg).len) (z5 hi) (CY hj) k1, hout⟩
       ·rename_i y
        split at h2
        ·rename_i hh
         split at h2
         ·rename_i k m hy
          have hy' := aC (ρ := ρ) hy
          simp only [AV.val] at hy'
          rcases fD h2 with ⟨h5, h6⟩ | ⟨_, h6⟩
          ·have := EK h5
           subst this
           obtain ⟨h3, h4⟩ := lQ h6
           have key : ∃ p : SLV, (T.get g = true → AE (sl (ρ id').v) i m m u.rep.n (sl p)) ∧ (T.get g = true → SRd u.rep (Ctx.M (items ρ T (frz [id'] st.G) ++ (items ρ T fr.H ++ Φ))) w (sl p) (lh l i m) ∧ (true = true → p.2.2 = (lh l i m).length)) := by
            cases hg : T.get g
            ·exact ⟨(none, 0, 0), (fun h => by cases h), (fun h => by cases h)⟩
            ·obtain ⟨p, q1, q2⟩ := SRd.Ol (hS hg) (h3 _ rfl hg)
             exact ⟨_, fun _ => q1, fun _ => ⟨q2, fun _ => rfl⟩⟩
           obtain ⟨p, k1, k2⟩ := key
           have hout := zA (p := p) hl hGl hs k2 h4
           exact ⟨_, fun w' => AA (lo := lo) (hi := some hh) (cU he) hti hx' (fun hg => (hS hg).len) (z5 hi) ⟨k, hy'⟩ hy' k1, hout⟩
          ·obtain ⟨h3, h4⟩ := lQ h6
           obtain ⟨p, k1, k2⟩ := SRd.Ls hS (fun hg => h3 _ rfl hg)
           have hout := zA (p := p) hl hGl hs (fun hg => ⟨k2 hg, fun hb => by cases hb⟩) h4
           exact ⟨_, fun w' => AA (lo := lo) (hi := some hh) (cU he) hti hx' (fun hg => (hS hg).len) (z5 hi) (CY (len := l.length) hj) hy' k1, hout⟩
         ·cases h2
        ·cases h2
      ·cases h
     ·cases h
    ·cases h
   ·cases h
  ·cases h
 ·cases h
/-! literals -/
def KD (len : Nat) (z : List AV) : List AV := (List.replicate len z).flatten
theorem Kd {len : Nat} {z : List AV} : AV.ah ρ (KD len z) = (List.replicate len (AV.ah ρ z)).flatten := by
 unfold KD
 induction len with
 | zero => simp [AV.ah]
 | succ n ih => simp only [List.replicate_succ, List.flatten_cons, df, ih]
def Kl (X : Cx) (T : Tbl) (fr : Fr) (st : StB) (g : GK) (d : Tmp) (t : TypeId) (len : Nat) (ps : List (Nat × Operand)) (K : Go_ R) : Option R := match jo X.P t with
 | some e => (match yx X.tys e with
  | some u => (match tiA X.P e with
   | some z => (match sE T st.E fr.F g (ps.map (·.2)) with
    | some vs => (match yj (fun i => some (i * z.1, z.1)) ((ps.map (·.1)).zip vs) (KD len (z.2.2.cells.toList.map cst)) with
     | some cs => (match rdL (frz (AV.sls (.agg vs) ++ (vs.map AV.sls).flatten) st.G) fr.H u len cs with
      | some xs => ifS ( Nat.beq z.1 u.n' && Nat.beq z.2.2.cells.size z.1 && Nat.ble (len * z.1) 16777216 ) ( match g with
       | none => ifS ( Nat.blt 0 (len * z.1) || Nat.beq len 0 && ps.isEmpty ) ( K { st with c := st.c + 1, E := dh (some d) none (.sl st.c) st.E, G := .own st.c u e xs st.c :: frz (AV.sls (.agg vs) ++ (vs.map AV.sls).flatten) st.G } ) none
       | some _ => ifS ( Nat.blt 0 (len * z.1) ) ( K { st with c := st.c + 1, E := dh (some d) g (.sl st.c) st.E, G := .sli g st.c u xs false :: frz (AV.sls (.agg vs) ++ (vs.map AV.sls).flatten) st.G } ) none ) none
      | none => none)
     | none => none)
    | none => none)
   | none => none)
  | none => none)
 | none => none
theorem ss {t : Ty} {e : TypeId} {p : SLV} {l : List t.T} {G : List Row} {w' : World} {st' : StB} (hl : st.low fr = true) (hGl : bg st.c G = true) (hs : Sat (items ρ T G ++ (items ρ T fr.H ++ Φ)) w) (hE : Ext w w')
  (hR : ∀ b ∈ slR p, b < w'.heap.size ∧ w.heap.size ≤ b) (hP : ∀ M', Mv (Ctx.M (items ρ T G ++ (items ρ T fr.H ++ Φ))) w M' w' → Own t.rep e M' w' (sl p) l (slR p))
  (hst : st' = { st with c := st.c + 1, E := dh (some d) none (.sl st.c) st.E, G := .own st.c t e l st.c :: G }) (hK : K st' = some r) : aJ r K T fr st none (some d) ρ Φ (sl p) w' := by
 subst hst
 refine aJ.new (ρ' := ρ.set st.c { nm0 with v := p, y := ⟨.l t, l⟩ }) hl hK Nms.bh (Nat.le_succ _) rfl (by simp only [AV.val, Nms.cj]) ?_
 show Sat (items _ T (_ :: G) ++ _) w'
 have e := aX (T := T) (Nms.bh (ρ := ρ) (j := st.c) (x := { nm0 with v := p, y := ⟨.l t, l⟩ })) hGl
 rw [items, List.map_cons]
 rw [items] at e
 rw [e]
 refine hs.push hE (fun b hb => ?_) (fun M' m => ?_)
 ·simp only [Row.item, Nms.cj] at hb
  exact hR b hb
 ·simp only [Row.item, Nms.cj]
  exact ⟨hP M' m, trivial⟩
theorem w4 {b n c : Nat} : blk (sl (some ⟨b, 0, none⟩, n, c)) = [b] := rfl
theorem yh {p : SLV} {b : Nat} (h : b ∈ slR p) : b ∈ blk (sl p) := by
 unfold slR at h
 split at h
 ·cases h
 ·exact h
theorem Md {t : TypeId} {len : Nat} {ps : Array (Nat × Operand)} (hl : st.low fr = true) (hs : Sat (items ρ T st.G ++ (items ρ T fr.H ++ Φ)) w) (h : Kl X T fr st g d t len ps.toList K = some r) :
  Ok2 X.P T g (aq ρ T st.E fr.F) ⟨some d, .buildSlice t len ps, ty, pos, af, gd⟩ w (aJ r K T fr st g (some d) ρ Φ) := by
 obtain ⟨ps⟩ := ps
 simp only at h
 unfold Kl at h
 split at h
 ·rename_i e he
  split at h
  ·rename_i u hu
   split at h
   ·rename_i z hz
    obtain ⟨n, bytes, z⟩ := z
    split at h
    ·rename_i vs hvs
     split at h
     ·rename_i cs hcs
      have hGl := pK (ids := AV.sls (.agg vs) ++ (vs.map AV.sls).flatten) (StB.dN.1 hl).2.2.1
      replace hs := jL (ids := AV.sls (.agg vs) ++ (vs.map AV.sls).flatten) hs
      generalize frz (AV.sls (.agg vs) ++ (vs.map AV.sls).flatten) st.G = G at h hGl hs
      split at h
      ·rename_i xs hxs
       obtain ⟨h1, h2⟩ := aw h
       simp only [Bool.and_eq_true] at h1
       obtain ⟨⟨a1, a2⟩, a3⟩ := h1
       have hn : n = u.rep.n := (Nat.eq_of_beq_eq_true a1).trans u.vy.symm
       have hzs : z.cells.size = n := Nat.eq_of_beq_eq_true a2
       obtain ⟨k1, k2⟩ := IY hs _ _ _ hxs
       have hti := fg hz
       have hfill := wu (ρ := ρ) hcs
       rw [zE, Kd, nA] at hfill
       have hlit : 0 < n → vX n len z.cells.toList ((ps.map (·.1)).zip (AV.ah ρ vs)) = some (AV.ah ρ cs).toArray := fun hpos => by
        unfold vX
        have e1 := BJ z.cells.toList (by simp [hzs]; exact hpos) len
        simp only [Array.length_toList, hzs] at e1
        simp only [Array.length_toList, hzs]
        rw [← hfill, ← e1]
       have hops := mc (ρ := ρ) hvs
       subst hn
       cases g with
       | none =>
        obtain ⟨h3, h4⟩ := aw h2
        simp only [Bool.or_eq_true, Bool.and_eq_true] at h3
        have hops : l9 (aq ρ T st.E fr.F) true (ps.map (·.2)) (AV.ah ρ vs) := by simpa using hops
        rcases h3 with h3 | ⟨h3, h5⟩
        ·have hpos : 0 < u.rep.n := by
          have : 0 < len * u.rep.n := by simpa using h3
          exact Nat.pos_of_ne_zero (fun e => by simp [e] at this)
         have hrun := tM (P := X.P) (w := w) (dst := some d) (ty := ty) (pos := pos) (af := af) (cU he) hti (zs := z.cells.toList) (by simp) h3 a3 hops (hlit hpos)
         have hlen : len * 1 ≤ len * u.rep.n := Nat.mul_le_mul_left _ hpos
         have h9 := Nat.le_of_ble_eq_true a3
         have h8 : Nat.ble len 9223372036854775807 = true := Nat.ble_eq_true_of_le (by omega)
         refine .none_ (bb.gd (bb.oB hrun ?_))
         have := ss (d := d) (t := u) (e := e) (p := (some ⟨w.heap.size, 0, none⟩, len, len)) hl hGl hs (gO w (.cells (AV.ah ρ cs).toArray e)) (fun b hb => by
          have := yh hb
          rw [w4] at this
          simp only [List.mem_singleton] at this
          subst this; simp) (fun M' m => (Own.of (OSl.fresh (heap_alloc_new w _) k1 h8 (k2.mv m))).AM) rfl h4
         exact this
        ·have e0 : len = 0 := Nat.eq_of_beq_eq_true h3
         subst e0
         have e1 : ps = [] := by simpa using h5
         subst e1
         have hx0 : xs = [] := List.eq_nil_of_length_eq_zero k1
         subst hx0
         have hrun := zl (P := X.P) (E := aq ρ T st.E fr.F) (w := w) (dst := some d) (ty := ty) (pos := pos) (af := af) (cU he) hti
         refine .none_ (bb.gd (bb.oB hrun ?_))
         have := ss (d := d) (t := u) (e := e) (p := (some ⟨w.heap.size, 0, none⟩, 0, 0)) hl hGl hs (gO w (.cells ([] : List Value).toArray e)) (fun b hb => by
          have := yh hb
          rw [w4] at this
          simp only [List.mem_singleton] at this
          subst this; simp) (fun M' m => (Own.of (OSl.fresh (heap_alloc_new w _) rfl rfl ARd.nil)).AM) rfl h4
         exact this
       | some k =>
        obtain ⟨h3, h4⟩ := aw h2
        have hpos : 0 < u.rep.n := by
         have : 0 < len * u.rep.n := by simpa using h3
         exact Nat.pos_of_ne_zero (fun e => by simp [e] at this)
        refine ⟨fun hg => ?_, fun hg => ?_⟩
        ·rw [hg] at hops
         have hrun := tM (P := X.P) (w := w) (dst := some d) (ty := ty) (pos := pos) (af := af) (cU he) hti (zs := z.cells.toList) (by simp) h3 a3 hops (hlit hpos)
         refine bb.gd (bb.oB hrun ?_)
         have h1 := hs.ext (gO w (.cells (AV.ah ρ cs).toArray e))
         have hf : SRd u.rep (Ctx.M (items ρ T G ++ (items ρ T fr.H ++ Φ))) (w.alloc (.cells (AV.ah ρ cs).toArray e)) (sl (some ⟨w.heap.size, 0, none⟩, len, len)) xs :=
          SRd.fresh (heap_alloc_new w _) (fun hm => by have := hs.lt hm; omega) k1 (k2.mv ((gO w _).mv _))
         refine aJ.new (ρ' := ρ.set st.c { nm0 with v := (some ⟨w.heap.size, 0, none⟩, len, len) }) (av := .sl st.c) hl h4 Nms.bh (Nat.le_succ _) rfl (by simp only [AV.val, Nms.cj]; rfl) ?_
         show Sat (items _ T (_ :: G) ++ _) _
         have e := aX (T := T) (Nms.bh (ρ := ρ) (j := st.c) (x := { nm0 with v := (some ⟨w.heap.size, 0, none⟩, len, len) })) hGl
         rw [items, List.map_cons]
         rw [items] at e
         rw [e]
         refine h1.add rfl ?_
         simp only [Row.item, Nms.cj]
         exact fun _ => ⟨hf, fun hb => by cases hb⟩
        ·refine ⟨_, aJ.new (ρ' := ρ.set st.c nm0) (av := .sl st.c) hl h4 Nms.bh (Nat.le_succ _) rfl rfl ?_⟩
         show Sat (items _ T (_ :: G) ++ _) _
         have e := aX (T := T) (Nms.bh (ρ := ρ) (j := st.c) (x := nm0)) hGl
         rw [items, List.map_cons]
         rw [items] at e
         rw [e]
         refine hs.add rfl ?_
         exact fun h => by rw [hg] at h; cases h
      ·cases h
     ·cases h
    ·cases h
   ·cases h
  ·cases h
 ·cases h
end
end Go.Proofs.YtdhgpnejphlfpaaGreatDoor
namespace Go.Proofs.YtdhgpnejphlfpaaGreatDoor
open Go.Lib
section
variable {X : Cx} {R : Type} {r : R} {K : Go_ R} {T : Tbl} {fr : Fr} {st : StB} {g : GK} {d : Tmp} {ρ : Nms} {Φ : Ctx} {w : World} {ty : TypeId} {pos : String} {af : Array Edge} {gd : Option (Nat × Bool)}
def Gx (X : Cx) (T : Tbl) (fr : Fr) (st : StB) (d : Tmp) (t : TypeId) (x y : Operand) (K : Go_ R) : Option R := match jo X.P t with
 | some e => (match yx X.tys e with
  | some u => (match tiA X.P e with
   | some z => (match opA T st.E fr.F none x with
    | some (.int _ l) => ifS ( CK x y && Nat.beq z.1 u.n' && Nat.beq z.2.2.cells.size z.1 && Nat.blt 0 z.1 ) (
     match rd1 [] [] u (z.2.2.cells.toList.map cst) with
     | some zx => chk (decide (0 ≤ l)) (chk (bu l.toNat z.2.1) (K { st with c := st.c + 1, E := dh (some d) none (.sl st.c) st.E, G := .own st.c u e (List.replicate l.toNat zx) st.c :: st.G }))
     | none => none ) none
    | _ => none)
   | none => none)
  | none => none)
 | none => none
theorem CX {t : Ty} {v : AV} {l : List t.T} (h : qx [] [] t v = some l) : ∀ (M : Nat → Prop) (w : World), SRd t.rep M w (v.val ρ) l := by
 unfold qx at h
 split at h
 ·rename_i j
  split at h
  ·rename_i hf; simp [fE, m8] at hf
  ·cases h
 ·cases h; intro M w; simp only [AV.val]; exact SRd.nil
 ·cases h
theorem AS : (t : Ty) → (vs : List AV) → (x : t.T × List AV) → rdA [] [] t vs = some x → ∃ us, vs = us ++ x.2 ∧ ∀ (M : Nat → Prop) (w : World), t.rep.rd M w (AV.ah ρ us) x.1
 | .i k, vs, x, h => by
  unfold rdA at h
  split at h
  ·rename_i k' y us
   obtain ⟨h1, h2⟩ := aw h
   have := kr h1; subst this
   cases h2
   exact ⟨[.int k y], rfl, fun M w => by simp only [AV.ah, AV.val]; rfl⟩
  ·cases h
 | .bo, vs, x, h => by
  unfold rdA at h
  split at h
  ·rename_i y us
   cases h
   exact ⟨[.bool y], rfl, fun M w => by simp only [AV.ah, AV.val]; rfl⟩
  ·cases h
 | .s, vs, x, h => by
  unfold rdA at h
  split at h
  ·rename_i y us
   cases h
   exact ⟨[.str y], rfl, fun M w => by simp only [AV.ah, AV.val]; rfl⟩
  ·cases h
 | .un, vs, x, h => by
  unfold rdA at h
  cases h
  exact ⟨[], rfl, fun M w => by simp only [AV.ah]; rfl⟩
 | .n, vs, x, h => by unfold rdA at h; cases h
 | .mp _ _, vs, x, h => by unfold rdA at h; cases h
 | .p a b, vs, x, h => by
  unfold rdA at h
  split at h
  ·rename_i y hy
   split at h
   ·rename_i z hz
    cases h
    obtain ⟨us, e1, h1⟩ := AS a vs y hy
    obtain ⟨us', e2, h2⟩ := AS b y.2 z hz
    refine ⟨us ++ us', by rw [e1, e2, List.append_assoc], fun M w => ?_⟩
    rw [df]
    exact ⟨_, _, rfl, h1 M w, h2 M w⟩
   ·cases h
  ·cases h
 | .l t, vs, x, h => by
  unfold rdA at h
  split at h
  ·rename_i v us
   split at h
   ·rename_i l hl
    cases h
    refine ⟨[v], rfl, fun M w => ?_⟩
    simp only [AV.ah]
    exact (CX hl M w).rsl
   ·cases h
  ·cases h
 | .ex, vs, x, h => by
  unfold rdA at h
  split at h
  ·rename_i a b c v us
   split at h
   ·rename_i l hl
    cases h
    refine ⟨[.int .i64 a, .int .i64 b, .int .i64 c, v], rfl, fun M w => ?_⟩
    simp only [AV.ah, AV.val]
    exact yZ (CX hl M w).rsl
   ·cases h
  ·cases h
theorem KE {t : TypeId} {x y : Operand} (hl : st.low fr = true) (hs : Sat (items ρ T st.G ++ (items ρ T fr.H ++ Φ)) w) (h : Gx X T fr st d t x y K = some r) :
  Ok2 X.P T none (aq ρ T st.E fr.F) ⟨some d, .makeSlice t x y, ty, pos, af, gd⟩ w (aJ r K T fr st none (some d) ρ Φ) := by
 unfold Gx at h
 split at h
 ·rename_i e he
  split at h
  ·rename_i u hu
   split at h
   ·rename_i z hz
    obtain ⟨n, bytes, z⟩ := z
    split at h
    ·rename_i k l hx
     obtain ⟨h1, h2⟩ := aw h
     simp only [Bool.and_eq_true] at h1
     obtain ⟨⟨⟨a1, a2⟩, a3⟩, a4⟩ := h1
     have := EK a1
     subst this
     have hn : n = u.rep.n := (Nat.eq_of_beq_eq_true a2).trans u.vy.symm
     have hzs : z.cells.size = n := Nat.eq_of_beq_eq_true a3
     split at h2
     ·rename_i zx hzx
      obtain ⟨b1, h3⟩ := nz h2
      obtain ⟨b2, h4⟩ := nz h3
      have hx' := dx (ρ := ρ) hx
      simp only [AV.val] at hx'
      have hti := fg hz
      subst hn
      have hzr : ∀ (M : Nat → Prop) (w : World), u.rep.rd M w z.cells.toList zx := by
       unfold rd1 at hzx
       split at hzx
       ·rename_i y' hy'
        cases hzx
        obtain ⟨us, e1, h5⟩ := AS (ρ := ρ) u _ _ hy'
        simp only [List.append_nil] at e1
        intro M w
        have := h5 M w
        rw [← e1, nA] at this
        exact this
       ·cases hzx
      obtain ⟨w', hr, hE, hlt, hO⟩ := Ic (P := X.P) (E := aq ρ T st.E fr.F) (w := w) (dst := some d) (ty := ty) (pos := pos) (af := af) (cU he) hti (zs := z.cells.toList) (by simp) (by simpa using hzs) (by simpa using a4) hx' hx' b1 b2 hzr
      refine .none_ (bb.gd (bb.oB hr ?_))
      exact ss (d := d) (t := u) (e := e) (p := (some ⟨w.heap.size, 0, none⟩, l.toNat, l.toNat)) hl (StB.dN.1 hl).2.2.1 hs hE (fun b hb => by
       have := yh hb
       rw [w4] at this
       simp only [List.mem_singleton] at this
       subst this; exact ⟨hlt, Nat.le_refl _⟩) (fun M' m => (Own.of (hO M')).AM) rfl h4
     ·cases h2
    ·cases h
   ·cases h
  ·cases h
 ·cases h
/-! appends -/
def JB (X : Cx) (T : Tbl) (fr : Fr) (st : StB) (d : Tmp) (t : TypeId) (x y : Operand) (K : Go_ R) : Option R := match jo X.P t with
 | some e => (match yx X.tys e with
  | some u => (match tiA X.P e with
   | some z => (match opA T st.E fr.F none x with
    | some a => (match opA T st.E fr.F none y with
     | some b => ifS ( Nat.beq z.1 u.n' && Nat.beq z.2.2.cells.size z.1 && Nat.blt 0 z.1 ) ( match qx (frz b.sls st.G) fr.H u b with
      | some ys => (match a with
       | .sl id => (match fE (frz b.sls st.G) fr.H (nk id) with
        | some (.top j, .own _ u' e' xs _) => ifS ( Nat.beq e e' ) ( match qx.Dyn.asL u ⟨.l u', xs⟩ with
         | some xs => chk (bu (xs.length + ys.length) z.2.1) (K { st with c := st.c + 1, E := dh (some d) none (.sl st.c) st.E, G := (frz b.sls st.G).set j (.own st.c u e (xs ++ ys) st.c) })
         | none => none ) none
        | some (_, .sli none _ u' xs true) => (match qx.Dyn.asL u ⟨.l u', xs⟩ with
         | some xs => (match ys with
          | y :: ys => chk (bu (xs.length + (y :: ys).length) z.2.1) (K { st with c := st.c + 1, E := dh (some d) none (.sl st.c) st.E, G := .own st.c u e (xs ++ y :: ys) st.c :: frz b.sls st.G })
          | [] => none)
         | none => none)
        | _ => none)
       | .raw (.slice none 0 0) => chk (bu (([] : List u.T).length + ys.length) z.2.1) (K { st with c := st.c + 1, E := dh (some d) none (.sl st.c) st.E, G := .own st.c u e ([] ++ ys) st.c :: frz b.sls st.G })
       | _ => none)
      | none => none ) none
     | none => none)
    | none => none)
   | none => none)
  | none => none)
 | none => none
theorem MB {t : TypeId} {x y : Operand} (hl : st.low fr = true) (hs : Sat (items ρ T st.G ++ (items ρ T fr.H ++ Φ)) w) (h : JB X T fr st d t x y K = some r) :
  Ok2 X.P T none (aq ρ T st.E fr.F) ⟨some d, .call ⟨.builtin .append, #[x, y], #[t, t]⟩, ty, pos, af, gd⟩ w (aJ r K T fr st none (some d) ρ Φ) := by
 unfold JB at h
 split at h
 ·rename_i e he
  split at h
  ·rename_i u hu
   split at h
   ·rename_i z hz
    obtain ⟨n, bytes, z⟩ := z
    split at h
    ·rename_i a hx
     split at h
     ·rename_i b hy
      obtain ⟨h1, h2⟩ := aw h
      simp only [Bool.and_eq_true] at h1
      obtain ⟨⟨a1, a2⟩, a3⟩ := h1
      have hn : n = u.rep.n := (Nat.eq_of_beq_eq_true a1).trans u.vy.symm
      have hzs : z.cells.size = n := Nat.eq_of_beq_eq_true a2
      have hti := fg hz
      subst hn
      have hGl := pK (ids := b.sls) (StB.dN.1 hl).2.2.1
      replace hs := jL (ids := b.sls) hs
      generalize frz b.sls st.G = G at h2 hGl hs
      have hx' := dx (ρ := ρ) hx
      have hy' := dx (ρ := ρ) hy
      have hpos : 0 < u.rep.n := by simpa using a3
      split at h2
      ·rename_i ys hys
       have hyr := Bs hs hys
       split at h2
       ·rename_i id
        simp only [AV.val] at hx'
        split at h2
        ·rename_i j id' u' e' xs' ver hf
         obtain ⟨h3, h4⟩ := aw h2
         have := Nat.eq_of_beq_eq_true h3
         subst this
         split at h4
         ·rename_i xs hxs
          obtain ⟨eu, ex⟩ := sH hxs
          subst eu
          simp only at ex
          subst ex
          obtain ⟨h5, h6⟩ := nz h4
          obtain ⟨f1, f2⟩ := cG hf
          have : id' = id := Nat.eq_of_beq_eq_true f2
          subst this
          have hi := iL (ρ := ρ) (T := T) (Φ := items ρ T fr.H ++ Φ) f1
          obtain ⟨hO, _⟩ := hs.at_ hi
          obtain ⟨v', R', w', hr, hC, hR, hP⟩ := y5 (P := X.P) (E := aq ρ T st.E fr.F) (w := w) (dst := some d) (ty := ty) (pos := pos) (af := af) (cU he) hti hzs hpos hx' hy' hO hyr (fun b hb => Ctx.kI hi hb) h5
          have mv0 : Mv (Ctx.M (items ρ T G ++ (items ρ T fr.H ++ Φ))) w (Ctx.M (items ρ T G ++ (items ρ T fr.H ++ Φ))) w' := ⟨hC.size, fun b hb hn => ⟨hn, hC.block b hb (fun hc => hn (Ctx.kI hi hc))⟩⟩
          have hO' := hP _ mv0
          have hv : ∃ p : SLV, v' = sl p := by
           obtain ⟨a, cap, hv⟩ := hO'.len
           exact ⟨(a, _, cap), hv⟩
          obtain ⟨p, rfl⟩ := hv
          have hj : j < G.length := (List.getElem?_eq_some_iff.1 f1).1
          refine .none_ (bb.gd (bb.oB hr (aJ.new (ρ' := ρ.set st.c { nm0 with v := p, y := ⟨.l u', xs' ++ ys⟩ }) hl h6 Nms.bh (Nat.le_succ _) rfl (by simp only [AV.val, Nms.cj]) ?_)))
          show Sat (items _ T (G.set j _) ++ _) _
          rw [iB hj, aX Nms.bh hGl]
          refine hs.upd hi hC (fun b hb => ?_) (fun M' m _ => ?_)
          ·simp only [Row.item, Nms.cj] at hb
           exact hR b (hO'.canon.1 b hb)
          ·simp only [Row.item, Nms.cj]
           exact ⟨hO'.canon.2 _ _ (hP M' m), trivial⟩
         ·cases h4
        ·rename_i s' id' u' xs' hf
         split at h2
         ·rename_i xs hxs
          obtain ⟨eu, ex⟩ := sH hxs
          subst eu
          simp only at ex
          subst ex
          split at h2
          ·rename_i y0 ys0
           obtain ⟨h5, h6⟩ := nz h2
           obtain ⟨f1, f2⟩ := cG hf
           have : id' = id := Nat.eq_of_beq_eq_true f2
           subst this
           obtain ⟨hS, hcl⟩ := (Src.holds hs f1) Tbl.get_none
           have hcl := hcl rfl
           obtain ⟨ad, cap, hlen⟩ := hS.len
           have ep : (ρ id').v = ((ρ id').v.1, xs'.length, xs'.length) := by
            simp only [sl, Value.slice.injEq] at hlen
            ext1
            ·rfl
            ·ext1
             ·exact hlen.2.1
             ·exact hcl
           rw [ep] at hS hx'
           obtain ⟨i', hi', hsz', hby, hzz⟩ := hti.out
           subst hby
           obtain ⟨v', w', hr, hE, hB, hP⟩ := Al t ty e i' z (cU he) hi' hzz hsz' hzs hS hyr (List.cons_ne_nil _ _) h5
           have hO' := Own.of (hP _ (hE.mv _))
           have hv : ∃ p : SLV, v' = sl p := by
            obtain ⟨a, cap, hv⟩ := hO'.len
            exact ⟨(a, _, cap), hv⟩
           obtain ⟨p, rfl⟩ := hv
           have hrun : pQ X.P (aq ρ T st.E fr.F) ⟨some d, .call ⟨.builtin .append, #[x, y], #[t, t]⟩, ty, pos, af, none⟩ w (sl p) w' := fun n' a hf => by
            simp [execOp, resolve, invoke, builtin, hx' n' a hf rfl, hy' n' a hf rfl, show (Builtin.append_ #[t, t] ty #[sl ((ρ id').v.1, xs'.length, xs'.length), AV.val ρ b]).run X.P w = _ from hr]
           refine .none_ (bb.gd (bb.oB hrun ?_))
           exact ss (d := d) (t := u') (e := e) (p := p) hl hGl hs hE (fun b hb => hB b (yh hb)) (fun M' m => (Own.of (hP M' m)).AM) rfl h6
          ·cases h2
         ·cases h2
        ·cases h2
       ·simp only [AV.val] at hx'
        obtain ⟨h5, h6⟩ := nz h2
        obtain ⟨v', R', w', hr, hC, hR, hP⟩ := y5 (P := X.P) (E := aq ρ T st.E fr.F) (w := w) (dst := some d) (ty := ty) (pos := pos) (af := af) (xs := ([] : List u.T)) (cU he) hti hzs hpos hx' hy' Own.nil hyr (fun b hb => by cases hb) h5
        have hE : Ext w w' := ⟨hC.os, hC.tape, hC.output, hC.size, fun b hb => hC.block b hb (fun h => by cases h)⟩
        have hO' := hP _ (hE.mv _)
        have hv : ∃ p : SLV, v' = sl p := by
         obtain ⟨a, cap, hv⟩ := hO'.len
         exact ⟨(a, _, cap), hv⟩
        obtain ⟨p, rfl⟩ := hv
        refine .none_ (bb.gd (bb.oB hr ?_))
        exact ss (d := d) (t := u) (e := e) (p := p) hl hGl hs hE (fun b hb => by
         obtain ⟨q1, q2⟩ := hR b (hO'.canon.1 b hb)
         rcases q2 with q2 | q2
         ·cases q2
         ·exact ⟨q1, q2⟩) (fun M' m => hO'.canon.2 _ _ (hP M' m)) rfl h6
       ·cases h2
      ·cases h2
     ·cases h
    ·cases h
   ·cases h
  ·cases h
 ·cases h
end
end Go.Proofs.YtdhgpnejphlfpaaGreatDoor
namespace Go.Proofs.YtdhgpnejphlfpaaGreatDoor
open Go.Lib
noncomputable def both {R : Type} (a b : Option R) : Option R := open Classical in if a = b then a else none
theorem BS {R : Type} {a b : Option R} {r : R} (h : both a b = some r) : a = some r ∧ b = some r := by
 unfold both at h
 split at h
 ·rename_i e; exact ⟨h, e ▸ h⟩
 ·cases h
noncomputable def GR {α R : Type} (l : List α) (k1 k0 : Option R) : Option R := match l with
 | [] => both k1 k0
 | _ :: _ => k0
theorem BM {α R : Type} {l : List α} {k1 k0 : Option R} {r : R} (h : GR l k1 k0 = some r) : k0 = some r ∧ (l = [] → k1 = some r) := by
 unfold GR at h
 split at h
 ·obtain ⟨h1, h2⟩ := BS h; exact ⟨h2, fun _ => h1⟩
 ·exact ⟨h, fun e => by cases e⟩
section
variable {X : Cx} {R : Type} {r : R} {K : Go_ R} {T : Tbl} {fr : Fr} {st : StB} {g : GK} {d : Tmp} {ρ : Nms} {Φ : Ctx} {w : World} {ty : TypeId} {pos : String} {af : Array Edge} {gd : Option (Nat × Bool)}
def HB (X : Cx) (st : StB) (d : Tmp) (t : TypeId) (K : Go_ R) : Option R := match CZ X.P t with
 | some p => (match yx X.tys p.1 with
  | some k => (match yx X.tys p.2 with
   | some v => K { st with c := st.c + 1, E := dh (some d) none (.mp st.c) st.E, G := .mp st.c k v (some []) :: st.G }
   | none => none)
  | none => none)
 | none => none
theorem J8 {t : TypeId} (hl : st.low fr = true) (hs : Sat (items ρ T st.G ++ (items ρ T fr.H ++ Φ)) w) (h : HB X st d t K = some r) :
  Ok2 X.P T none (aq ρ T st.E fr.F) ⟨some d, .makeMap t none, ty, pos, af, gd⟩ w (aJ r K T fr st none (some d) ρ Φ) := by
 unfold HB at h
 split at h
 ·rename_i p hp
  split at h
  ·rename_i k hk
   split at h
   ·rename_i v hv
    have hrun : pQ X.P (aq ρ T st.E fr.F) ⟨some d, .makeMap t none, ty, pos, af, none⟩ w (.map (some w.heap.size)) (w.alloc (.map #[] 0)) := fun n a hf => by simp [execOp, Instr.makeMap]
    refine .none_ (bb.gd (bb.oB hrun (aJ.push (x := { nm0 with m := some w.heap.size }) hl h (by simp only [AV.val, Nms.cj]) ?_)))
    simp only [Row.item, Nms.cj]
    exact hs.push (gO _ _) (fun b hb => by
     have : b = w.heap.size := by simpa [omap, vM] using hb
     subst this
     exact ⟨by show _ < (w.heap.push _).size; simp, Nat.le_refl _⟩) (fun M' m => .inr ⟨_, #[], 0, [], rfl, rfl, by show (w.heap.push _)[w.heap.size]? = _; simp, rfl⟩)
   ·cases h
  ·cases h
 ·cases h
def GY (X : Cx) (T : Tbl) (fr : Fr) (st : StB) (t : TypeId) (x y z : Operand) (K : Go_ R) : Option R := match CZ X.P t with
 | some p => (match opA T st.E fr.F none x with
  | some (.mp id) => (match m8 (Kj id) st.G with
   | some (j, .mp _ k v md) => (match opA T st.E fr.F none y with
    | some kv => (match opA T st.E fr.F none z with
     | some vv => (match DZ k kv with
      | some key => (match DZ v vv with
       | some val => ifS ( GB X.P p.1 k ) ( md.bind fun l => K { st with G := st.G.set j (.mp id k v (some (uv l key val))) } ) none
       | none => none)
      | none => none)
     | none => none)
    | none => none)
   | _ => none)
  | _ => none)
 | none => none
theorem KN {t : TypeId} {x y z : Operand} (hs : Sat (items ρ T st.G ++ (items ρ T fr.H ++ Φ)) w) (h : GY X T fr st t x y z K = some r) :
  Ok2 X.P T none (aq ρ T st.E fr.F) ⟨none, .mapUpdate t x y z, ty, pos, af, gd⟩ w (aJ r K T fr st none none ρ Φ) := by
 unfold GY at h
 split at h
 ·rename_i p hp
  split at h
  ·rename_i id hx
   split at h
   ·rename_i j id' k v md hf
    split at h
    ·rename_i kv hy
     split at h
     ·rename_i vv hz
      split at h
      ·rename_i key hkey
       split at h
       ·rename_i val hval
        obtain ⟨h1, h2⟩ := aw h
        obtain ⟨l, hmd, h3⟩ := rG h2
        subst hmd
        obtain ⟨f1, f2⟩ := kM hf
        have : id' = id := Nat.eq_of_beq_eq_true f2
        subst this
        have hx' := dx (ρ := ρ) hx
        have hy' := dx (ρ := ρ) hy
        have hz' := dx (ρ := ρ) hz
        simp only [AV.val] at hx'
        rw [Bm hkey] at hy'
        rw [Bm hval] at hz'
        have hi := iL (ρ := ρ) (T := T) (Φ := items ρ T fr.H ++ Φ) f1
        obtain ⟨w', hr, hC, hsz, hm⟩ := A3 (P := X.P) (E := aq ρ T st.E fr.F) (w := w) (ty := ty) (pos := pos) (af := af) (AY h1) (A7 hp) hx' hy' hz' (hs.omap hi)
        refine .none_ (bb.gd (bb.GO hr (aJ.old (av := .raw undef) h3 (Nat.le_refl _) rfl (by simp only [AV.val]) ?_)))
        have hj : j < st.G.length := (List.getElem?_eq_some_iff.1 f1).1
        show Sat (items ρ T (st.G.set j _) ++ _) _
        rw [iB hj]
        exact hs.upd hi hC (fun b hb => ⟨hm.lt b hb, .inl hb⟩) (fun M' m _ => hm)
       ·cases h
      ·cases h
     ·cases h
    ·cases h
   ·cases h
  ·cases h
 ·cases h
def J4 (X : Cx) (T : Tbl) (fr : Fr) (st : StB) (d : Tmp) (t : TypeId) (x : Operand) (K : Go_ R) : Option R := match opA T st.E fr.F none x with
 | some (.str s) => ifS ( isStr X.P t ) ( K { st with c := st.c + 1, E := dh (some d) none (.ptr st.c 0) st.E, G := .it st.c s 0 :: st.G } ) none
 | _ => none
theorem MI {t : TypeId} {x : Operand} (hl : st.low fr = true) (hs : Sat (items ρ T st.G ++ (items ρ T fr.H ++ Φ)) w) (h : J4 X T fr st d t x K = some r) :
  Ok2 X.P T none (aq ρ T st.E fr.F) ⟨some d, .range t x, ty, pos, af, gd⟩ w (aJ r K T fr st none (some d) ρ Φ) := by
 unfold J4 at h
 split at h
 ·rename_i s hx
  obtain ⟨h1, h2⟩ := aw h
  have hx' := dx (ρ := ρ) hx
  simp only [AV.val] at hx'
  have hrun : pQ X.P (aq ρ T st.E fr.F) ⟨some d, .range t x, ty, pos, af, none⟩ w (.pointer (some ⟨w.heap.size, 0, none⟩)) (w.alloc (.stringIter ⟨s.toArray⟩ 0)) := fun n' a hf => by
   simp [execOp, hx' n' a hf rfl, Instr.range, run_underlying (nf h1), S]
  refine .none_ (bb.gd (bb.oB hrun (aJ.push (x := { nm0 with b := w.heap.size }) hl h2 (by simp only [AV.val, Nms.cj]) ?_)))
  simp only [Row.item, Nms.cj]
  exact hs.push (gO _ _) (fun b hb => by
   have : b = w.heap.size := by simpa [iter] using hb
   subst this; simp) (fun _ _ => heap_alloc_new w _)
 ·cases h
def Jl (T : Tbl) (fr : Fr) (st : StB) (d : Tmp) (x : Operand) (K : Go_ R) : Option R := match opA T st.E fr.F none x with
 | some (.ptr id 0) => (match m8 (Oh id) st.G with
  | some (j, .it _ s p) => cond (decide (p < s.length)) (K { st with E := dh (some d) none (.tuple [.bool true, .int .i64 (p : Int), .int .i32 (mT s p)]) st.E, G := st.G.set j (.it id s (jk s p)) })
   (K { st with E := dh (some d) none (.tuple [.bool false]) st.E })
  | _ => none)
 | _ => none
theorem MK {x : Operand} (hs : Sat (items ρ T st.G ++ (items ρ T fr.H ++ Φ)) w) (h : Jl T fr st d x K = some r) :
  Ok2 X.P T none (aq ρ T st.E fr.F) ⟨some d, .next x true, ty, pos, af, gd⟩ w (aJ r K T fr st none (some d) ρ Φ) := by
 unfold Jl at h
 split at h
 ·rename_i id hx
  split at h
  ·rename_i j id' s p hf
   obtain ⟨f1, f2⟩ := kM hf
   have : id' = id := Nat.eq_of_beq_eq_true f2
   subst this
   have hx' := dx (ρ := ρ) hx
   simp only [AV.val] at hx'
   have hi := iL (ρ := ρ) (T := T) (Φ := items ρ T fr.H ++ Φ) f1
   have hI : zO w (ρ id').b s p := hs.iter hi
   have hg : (getObj (ρ id').b).run X.P w = .ok (.stringIter ⟨s.toArray⟩ p) w := by
    simp only [getObj, Sem.run]; rw [hI]
   rcases wH h with ⟨hq, h2⟩ | ⟨hq, h2⟩
   ·have hq' : p < s.length := by simpa using hq
    have hlt := (Array.getElem?_eq_some_iff.1 hI).1
    have hIt : zO { w with heap := w.heap.setIfInBounds (ρ id').b (.stringIter ⟨s.toArray⟩ (jk s p)) } (ρ id').b s (jk s p) := by
     show (w.heap.setIfInBounds (ρ id').b _)[(ρ id').b]? = _
     rw [Array.getElem?_setIfInBounds_self_of_lt hlt]
    have hC : Chg [(ρ id').b] w { w with heap := w.heap.setIfInBounds (ρ id').b (.stringIter ⟨s.toArray⟩ (jk s p)) } := ⟨rfl, rfl, rfl, by show w.heap.size ≤ (w.heap.setIfInBounds (ρ id').b _).size; simp, fun c _ hcb => by
     show (w.heap.setIfInBounds (ρ id').b _)[c]? = _
     have hne : c ≠ (ρ id').b := by simpa using hcb
     rw [Array.getElem?_setIfInBounds_ne (Ne.symm hne)]⟩
    have hst : (setObj (ρ id').b (.stringIter ⟨s.toArray⟩ (jk s p))).run X.P w = .ok () { w with heap := w.heap.setIfInBounds (ρ id').b (.stringIter ⟨s.toArray⟩ (jk s p)) } := by
     simp only [setObj, Sem.run]; rw [hI]
    have hsz : p < (⟨s.toArray⟩ : ByteArray).size := by rw [kY]; exact hq'
    have e1 : jk s p = p + (Utf8.decode ⟨s.toArray⟩ p).2 := rfl
    have hrun : pQ X.P (aq ρ T st.E fr.F) ⟨some d, .next x true, ty, pos, af, none⟩ w (.tuple #[.bool true, .int .i64 (p : Int), .int .i32 (mT s p)]) { w with heap := w.heap.setIfInBounds (ρ id').b (.stringIter ⟨s.toArray⟩ (jk s p)) } := fun n' a hf => by
     rw [e1] at hst ⊢
     simp only [execOp, hx' n' a hf rfl, Instr.next, Sem.run_bind, hg, Result.andThen_ok, if_pos hsz, Sem.run_pure, hst, goInt]
     rfl
    refine .none_ (bb.gd (bb.oB hrun (aJ.old (av := .tuple [.bool true, .int .i64 (p : Int), .int .i32 (mT s p)]) h2 (Nat.le_refl _) rfl (by simp only [AV.val, AV.ah]) ?_)))
    have hj : j < st.G.length := (List.getElem?_eq_some_iff.1 f1).1
    show Sat (items ρ T (st.G.set j _) ++ _) _
    rw [iB hj]
    exact hs.upd hi hC (fun c hc => by
     have : c = (ρ id').b := by simpa [Row.item, Go.Proofs.YtdhgpnejphlfpaaGreatDoor.iter] using hc
     subst this; exact ⟨(Array.getElem?_eq_some_iff.1 hIt).1, .inl (by simp [Row.item, Go.Proofs.YtdhgpnejphlfpaaGreatDoor.iter])⟩) (fun _ _ _ => hIt)
   ·have hq' : ¬ p < s.length := by simpa using hq
    have hrun : pQ X.P (aq ρ T st.E fr.F) ⟨some d, .next x true, ty, pos, af, none⟩ w (.tuple #[.bool false]) w := fun n' a hf => by
     have hsz : ¬ p < (⟨s.toArray⟩ : ByteArray).size := by rw [kY]; exact hq'
     simp only [execOp, hx' n' a hf rfl, Instr.next, Sem.run_bind, hg, Result.andThen_ok, if_neg hsz, Sem.run_pure]
    exact .none_ (bb.gd (bb.oB hrun (aJ.old (av := .tuple [.bool false]) h2 (Nat.le_refl _) rfl (by simp only [AV.val, AV.ah]) hs)))
  ·cases h
 ·cases h
def KO (X : Cx) (T : Tbl) (fr : Fr) (st : StB) (g : GK) (d : Tmp) (s dt : TypeId) (x : Operand) (K : Go_ R) : Option R := match opA T st.E fr.F g x with
 | some (.str l) => ifS ( isStr X.P s ) ( match jo X.P dt with
  | some e => (match tyK X.P e with
   | some .u8 => K { st with c := st.c + 1, E := dh (some d) g (.sl st.c) st.E, G := .sli g st.c (.i .u8) (bytesOf l) false :: st.G }
   | _ => none)
  | none => none ) none
 | _ => none
theorem MA {s dt : TypeId} {x : Operand} (hl : st.low fr = true) (hs : Sat (items ρ T st.G ++ (items ρ T fr.H ++ Φ)) w) (h : KO X T fr st g d s dt x K = some r) :
  Ok2 X.P T g (aq ρ T st.E fr.F) ⟨some d, .convert s dt x, ty, pos, af, gd⟩ w (aJ r K T fr st g (some d) ρ Φ) := by
 unfold KO at h
 split at h
 ·rename_i l hx
  obtain ⟨h1, h2⟩ := aw h
  split at h2
  ·rename_i e he
   split at h2
   ·rename_i hk
    have hx' := aC (ρ := ρ) hx
    simp only [AV.val] at hx'
    refine ⟨fun hg => ?_, fun hg => ?_⟩
    ·rw [hg] at hx'
     obtain ⟨v', w', hr, hE, hlt, hO⟩ := JK (P := X.P) (E := aq ρ T st.E fr.F) (w := w) (dst := some d) (ty := ty) (pos := pos) (af := af) (nf h1) (cU he) (Aq hk) hx'
     have hf := hO (Ctx.M (items ρ T st.G ++ (items ρ T fr.H ++ Φ))) (fun hm => by have := hs.lt hm; omega)
     obtain ⟨p, rfl⟩ := hf.nk
     refine bb.gd (bb.oB hr (aJ.push (x := { nm0 with v := p }) hl h2 (by simp only [AV.val, Nms.cj]) ((hs.ext hE).add rfl ?_)))
     simp only [Row.item, Nms.cj]
     exact fun _ => ⟨hf, fun hb => by cases hb⟩
    ·exact ⟨_, aJ.push (x := nm0) hl h2 rfl (hs.add rfl fun h => by rw [hg] at h; cases h)⟩
   ·cases h2
  ·cases h2
 ·cases h
noncomputable def Ky (X : Cx) (T : Tbl) (fr : Fr) (st : StB) (d : Tmp) (op : BinOp) (t : TypeId) (x y : Operand) (K : Go_ R) : Option R := match jo X.P t with
 | some _ => (match opA T st.E fr.F none x with
  | some (.sl id) => (match opA T st.E fr.F none y with
   | some (.raw (.slice none 0 0)) => (match slA st.G fr.H id with
    | some ⟨none, _, l⟩ => (match op with
     | .eql => GR l (K { st with E := dh (some d) none (.bool true) st.E }) (K { st with E := dh (some d) none (.bool false) st.E })
     | .neq => GR l (K { st with E := dh (some d) none (.bool false) st.E }) (K { st with E := dh (some d) none (.bool true) st.E })
     | _ => none)
    | _ => none)
   | _ => none)
  | _ => none)
 | none => none
theorem LP {op : BinOp} {t t' : TypeId} {x y : Operand} (hs : Sat (items ρ T st.G ++ (items ρ T fr.H ++ Φ)) w) (h : Ky X T fr st d op t x y K = some r) :
  Ok2 X.P T none (aq ρ T st.E fr.F) ⟨some d, .binOp op t x y t', ty, pos, af, gd⟩ w (aJ r K T fr st none (some d) ρ Φ) := by
 unfold Ky at h
 split at h
 ·rename_i e he
  split at h
  ·rename_i id hx
   split at h
   ·rename_i hy
    split at h
    ·rename_i u l hsl
     have hx' := dx (ρ := ρ) hx
     have hy' := dx (ρ := ρ) hy
     simp only [AV.val] at hx' hy'
     have hlen := Ga hs hsl Tbl.get_none
     have hcase : (nc (sl (ρ id).v) = true ∧ l = []) ∨ nc (sl (ρ id).v) = false := by
      rcases Dj hs hsl Tbl.get_none with hS | ⟨e', hO⟩
      ·rcases Fa hS with ⟨h1, h2⟩ | h1
       ·exact .inl ⟨by rw [h1]; rfl, h2⟩
       ·exact .inr h1
      ·exact EN hO
     have mk : ∀ b : Bool, K { st with E := dh (some d) none (.bool b) st.E } = some r → aJ r K T fr st none (some d) ρ Φ (.bool b) w := fun b hb => aJ.old (av := .bool b) hb (Nat.le_refl _) rfl (by simp only [AV.val]) hs
     split at h
     ·obtain ⟨k0, k1⟩ := BM h
      refine .none_ (bb.gd (bb.run (EV (cU he) hx' hlen hy') ?_))
      rcases hcase with ⟨c1, c2⟩ | c1
      ·rw [c1]; exact mk _ (k1 c2)
      ·rw [c1]; exact mk _ k0
     ·obtain ⟨k0, k1⟩ := BM h
      refine .none_ (bb.gd (bb.run (E8 (cU he) hx' hlen hy') ?_))
      rcases hcase with ⟨c1, c2⟩ | c1
      ·rw [c1]; exact mk _ (k1 c2)
      ·rw [c1]; exact mk _ k0
     ·cases h
    ·cases h
   ·cases h
  ·cases h
 ·cases h
def GV (i : Int) (m : Nat) (k : Nat → Option R) : Nat → Nat → Option R
 | 0, _ => none
 | n + 1, j => cond (i == (j : Int)) (k (j * m)) (GV i m k n (j + 1))
theorem BO {i : Int} {m : Nat} {k : Nat → Option R} : ∀ {n j : Nat}, GV i m k n j = some r → ∃ q, j ≤ q ∧ q < j + n ∧ i = (q : Int) ∧ k (q * m) = some r
 | 0, j, h => by cases h
 | n + 1, j, h => by
  unfold GV at h
  rcases wH h with ⟨h1, h2⟩ | ⟨_, h2⟩
  ·exact ⟨j, Nat.le_refl _, by omega, by simpa using h1, h2⟩
  ·obtain ⟨q, q1, q2, q3, q4⟩ := BO h2
   exact ⟨q, by omega, by omega, q3, q4⟩
def Jj (X : Cx) (T : Tbl) (fr : Fr) (st : StB) (d : Tmp) (t : TypeId) (x y : Operand) (K : Go_ R) : Option R := match X.P.underlying t with
 | some (.array n e) => (match tiA X.P e with
  | some z => (match opA T st.E fr.F none x with
   | some (.ptr id off) => (match opA T st.E fr.F none y with
    | some (.int _ i) => GV i z.1 (fun k => K { st with E := dh (some d) none (.ptr id (off + k)) st.E }) n 0
    | _ => none)
   | _ => none)
  | none => none)
 | _ => none
theorem MU {t : TypeId} {x y : Operand} (hs : Sat (items ρ T st.G ++ (items ρ T fr.H ++ Φ)) w) (h : Jj X T fr st d t x y K = some r) :
  Ok2 X.P T none (aq ρ T st.E fr.F) ⟨some d, .indexAddr t x y, ty, pos, af, gd⟩ w (aJ r K T fr st none (some d) ρ Φ) := by
 unfold Jj at h
 split at h
 ·rename_i n e ht
  split at h
  ·rename_i z hz
   obtain ⟨m, bytes, z⟩ := z
   split at h
   ·rename_i id off hx
    split at h
    ·rename_i k i hy
     obtain ⟨q, _, q2, q3, q4⟩ := BO h
     have hx' := dx (ρ := ρ) hx
     have hy' := dx (ρ := ρ) hy
     simp only [AV.val] at hx' hy'
     have hout : aJ r K T fr st none (some d) ρ Φ (.pointer (some ⟨(ρ id).b, off + q * m, none⟩)) w := aJ.old (av := .ptr id (off + q * m)) q4 (Nat.le_refl _) rfl (by simp only [AV.val]) hs
     have hrun := vB (P := X.P) (w := w) (dst := some d) (ty := ty) (pos := pos) (af := af) (gd := none) ht (fg hz) hx' hy' (by
      intro _; subst q3; exact rP.2 ⟨by omega, by omega⟩)
     have e1 : ((⟨(ρ id).b, off, none⟩ : Addr).add (i.toNat * m)) = ⟨(ρ id).b, off + q * m, none⟩ := by rw [add_plain, q3]; rfl
     rw [e1] at hrun
     exact .none_ (bb.gd (bb.run hrun hout))
    ·cases h
   ·cases h
  ·cases h
 ·cases h
end
end Go.Proofs.YtdhgpnejphlfpaaGreatDoor
namespace Go.Proofs.YtdhgpnejphlfpaaGreatDoor
open Go.Lib
/-! tuples of holes -/
def Tup : List Ty → Type
 | [] => Unit
 | [t] => t.T
 | t :: u :: ts => t.T × Tup (u :: ts)
def unt : (ts : List Ty) → Tup ts → List Dyn
 | [], _ => []
 | [t], x => [⟨t, x⟩]
 | t :: u :: ts, x => ⟨t, x.1⟩ :: unt (u :: ts) x.2
def tup : (ts : List Ty) → List Dyn → Option (Tup ts)
 | [], D => (match D with
  | [] => some ()
  | _ => none)
 | [t], D => (match D with
  | [d] => d.as t
  | _ => none)
 | t :: u :: ts, D => (match D with
  | d :: D => (match d.as t with
   | some x => (match tup (u :: ts) D with
    | some y => some (x, y)
    | none => none)
   | none => none)
  | _ => none)
theorem pR : (ts : List Ty) → {D : List Dyn} → {s : Tup ts} → tup ts D = some s → unt ts s = D
 | [], D, s, h => by
  unfold tup at h
  split at h
  ·rfl
  ·cases h
 | [t], D, s, h => by
  match D, h with
  | [d], h => rw [Dyn.yn (t := t) (d := d) (x := s) h]; rfl
  | [], h => cases h
  | _ :: _ :: _, h => cases h
 | t :: u :: ts, D, s, h => by
  unfold tup at h
  split at h
  ·rename_i d D'
   split at h
   ·rename_i x hx
    split at h
    ·rename_i y hy
     cases h
     show ⟨t, x⟩ :: unt (u :: ts) y = _
     rw [pR (u :: ts) hy, Dyn.yn hx]
    ·cases h
   ·cases h
  ·cases h
def G9 : (ts : List Ty) → Tup ts
 | [] => ()
 | [t] => t.qC
 | t :: u :: ts => (t.qC, G9 (u :: ts))
mutual
def hol : Pt → List Ty
 | .int k => [.i k]
 | .bool => [.bo]
 | .str => [.s]
 | .sli t => [.l t]
 | .own t _ _ => [.l t]
 | .bx _ _ _ vs => lX vs
 | .mp k v _ => [.mp k v]
 | .it => [.s, .n]
 | .agg l => lX l
 | .tup l => lX l
 | .fn _ a b => lX a ++ lX b
 | .ifc _ p => hol p
 | .dat t _ => [t]
 | .sfp => [.bo]
 | _ => []
def lX : List Pt → List Ty
 | [] => []
 | p :: l => hol p ++ lX l
end
def gQ : List (Bool × Nat × Pt) → List Ty
 | [] => []
 | x :: l => hol x.2.2 ++ gQ l
/-! what forms say -/
abbrev Fx := Option (Value × List Value)
def xK (fx : Fx) (v : Value) : Prop := ∀ p, fx = some p → v = p.1
def fxC (fx : Fx) : List Value := match fx with
 | some p => p.2
 | none => []
abbrev Its := List (Bool × Item)
abbrev Bxs := List (Nat × List Value)
def oe (e : Nat) : Nat := e / 2
def ow (e : Nat) : Bool := Nat.beq (e % 2) 1
def Bw : (t : Ty) → t.T → List Value → List (Option TypeId) → List Nm → Its → List Nm → List (Option TypeId) → Prop
 | .i k, x, cs, o, N, I, N', o' => cs = [.int k x] ∧ I = [] ∧ N' = N ∧ o' = o
 | .bo, x, cs, o, N, I, N', o' => cs = [.bool x] ∧ I = [] ∧ N' = N ∧ o' = o
 | .s, x, cs, o, N, I, N', o' => cs = [S x] ∧ I = [] ∧ N' = N ∧ o' = o
 | .un, _, cs, o, N, I, N', o' => cs = [] ∧ I = [] ∧ N' = N ∧ o' = o
 | .p a b, x, cs, o, N, I, N', o' => ∃ c1 c2 N1 I1 I2 o1, Bw a x.1 c1 o N I1 N1 o1 ∧ Bw b x.2 c2 o1 N1 I2 N' o' ∧ cs = c1 ++ c2 ∧ I = I1 ++ I2
 | .l t, x, cs, o, N, I, N', o' => ∃ a : Nm, cs = [sl a.v] ∧ N' = N ++ [a] ∧ ((o = none :: o' ∧ I = [(false, zi true t.rep a.v x false)]) ∨ ∃ e, o = some e :: o' ∧ I = [(ow e, rZ t.rep (oe e) a.v x True)] ∧ a.y = ⟨.l t, x⟩)
 | .ex, x, cs, o, N, I, N', o' => ∃ a : Nm, cs = [.int .i64 x.op, .int .i64 x.n, .int .i64 x.at_, sl a.v] ∧ N' = N ++ [a] ∧ ((o = none :: o' ∧ I = [(false, zi true vR a.v x.l false)]) ∨ ∃ e, o = some e :: o' ∧ I = [(ow e, rZ vR (oe e) a.v x.l True)] ∧ a.y = ⟨.l .ex, x.l⟩)
 | _, _, _, _, _, _, _, _ => False
mutual
def Sem : Pt → Value → Fx → Option Value → List Nm → List Dyn → Its → Bxs → List Nm → Prop
 | .int k, v, _, _, N, D, I, X, N' => ∃ x, v = .int k x ∧ D = [⟨.i k, x⟩] ∧ I = [] ∧ X = [] ∧ N' = N
 | .bool, v, _, _, N, D, I, X, N' => ∃ x, v = .bool x ∧ D = [⟨.bo, x⟩] ∧ I = [] ∧ X = [] ∧ N' = N
 | .str, v, _, _, N, D, I, X, N' => ∃ x, v = S x ∧ D = [⟨.s, x⟩] ∧ I = [] ∧ X = [] ∧ N' = N
 | .sli t, v, _, _, N, D, I, X, N' => ∃ (a : Nm) (l : List t.T), v = sl a.v ∧ D = [⟨.l t, l⟩] ∧ I = [(false, zi true t.rep a.v l false)] ∧ X = [] ∧ N' = N ++ [a]
 | .own t e m, v, fx, _, N, D, I, X, N' => ∃ (a : Nm) (l : List t.T), v = sl a.v ∧ xK fx v ∧ D = [⟨.l t, l⟩] ∧ I = [(m, rZ t.rep e a.v l True)] ∧ X = [] ∧ N' = N ++ [a] ∧ a.y = ⟨.l t, l⟩
 | .slr n, v, _, _, N, D, I, X, N' => ∃ a : Nm, N[n]? = some a ∧ v = sl a.v ∧ D = [] ∧ I = [] ∧ X = [] ∧ N' = N
 | .bx t off m vs, v, fx, _, N, D, I, X, N' => ∃ (a : Nm) (cs : List Value) (I' : Its) (X' : Bxs), v = .pointer (some ⟨a.b, off, none⟩) ∧ xK fx v ∧ qp vs cs (fxC fx) (N ++ [a]) D I' X' N' ∧ I = (m, box a.b t cs) :: I' ∧ X = (ifS m [(N.length, cs)] []) ++ X'
 | .ptr n off, v, _, _, N, D, I, X, N' => ∃ a : Nm, N[n]? = some a ∧ v = .pointer (some ⟨a.b, off, none⟩) ∧ D = [] ∧ I = [] ∧ X = [] ∧ N' = N
 | .mp k u m, v, fx, _, N, D, I, X, N' => ∃ (a : Nm) (d : Option (List (k.T × u.T))), v = .map a.m ∧ xK fx v ∧ D = [⟨.mp k u, d⟩] ∧ I = [(m, omap (uw k) (uw u) (.map a.m) d)] ∧ X = [] ∧ N' = N ++ [a]
 | .it, v, fx, _, N, D, I, X, N' => ∃ (a : Nm) (s : Str) (p : Nat), v = .pointer (some ⟨a.b, 0, none⟩) ∧ xK fx v ∧ D = [⟨.s, s⟩, ⟨.n, p⟩] ∧ I = [(true, iter a.b s p)] ∧ X = [] ∧ N' = N ++ [a]
 | .agg l, v, _, _, N, D, I, X, N' => ∃ cs : List Value, v = .agg cs.toArray ∧ qp l cs [] N D I X N'
 | .tup l, v, _, _, N, D, I, X, N' => ∃ cs : List Value, v = .tuple cs.toArray ∧ qp l cs [] N D I X N'
 | .fn f a b, v, _, _, N, D, I, X, N' => ∃ (us vs : List Value) (D1 D2 : List Dyn) (I1 I2 : Its) (X1 X2 : Bxs) (N1 : List Nm), v = .func (.func f) us.toArray vs.toArray ∧ qp a us [] N D1 I1 X1 N1 ∧ qp b vs [] N1 D2 I2 X2 N' ∧ D = D1 ++ D2 ∧ I = I1 ++ I2 ∧ X = X1 ++ X2
 | .ifc t p, v, _, _, N, D, I, X, N' => ∃ u, v = .iface t u ∧ Sem p u none none N D I X N'
 | .cst c, v, _, _, N, D, I, X, N' => (v = c.val (fun _ => nm0) ∧ ∀ ρ, c.val ρ = c.val (fun _ => nm0)) ∧ D = [] ∧ I = [] ∧ X = [] ∧ N' = N
 | .dat t o, v, _, _, N, D, I, X, N' => ∃ (cs : List Value) (x : t.T) (o' : List (Option TypeId)), v = .agg cs.toArray ∧ D = [⟨t, x⟩] ∧ Bw t x cs o N I N' o' ∧ X = []
 | .sfp, _, _, _, _, _, _, _, _ => False
 | .same, v, fx, sm, N, D, I, X, N' => ((∃ p, fx = some p ∧ v = p.1) ∨ (fx = none ∧ sm = some v)) ∧ D = [] ∧ I = [] ∧ X = [] ∧ N' = N
def qp : List Pt → List Value → List Value → List Nm → List Dyn → Its → Bxs → List Nm → Prop
 | [], vs, _, N, D, I, X, N' => vs = [] ∧ D = [] ∧ I = [] ∧ X = [] ∧ N' = N
 | p :: l, vs, sms, N, D, I, X, N' => ∃ (v : Value) (vs' : List Value) (D1 D2 : List Dyn) (I1 I2 : Its) (X1 X2 : Bxs) (N1 : List Nm), vs = v :: vs' ∧ Sem p v none sms.head? N D1 I1 X1 N1 ∧ qp l vs' sms.tail N1 D2 I2 X2 N' ∧ D = D1 ++ D2 ∧ I = I1 ++ I2 ∧ X = X1 ++ X2
end
def ui (fix : Nat → Fx) (val : Nat → Option Value) : List (Bool × Nat × Pt) → List Nm → List Dyn → Its → Bxs → List Nm → Prop
 | [], N, D, I, X, N' => D = [] ∧ I = [] ∧ X = [] ∧ N' = N
 | x :: l, N, D, I, X, N' => ∃ (v : Value) (D1 D2 : List Dyn) (I1 I2 : Its) (X1 X2 : Bxs) (N1 : List Nm), (ifS x.1 ((fix x.2.1).map (·.1)) (val x.2.1)) = some v ∧ Sem x.2.2 v (ifS x.1 (fix x.2.1) none) none N D1 I1 X1 N1 ∧ ui fix val l N1 D2 I2 X2 N' ∧ D = D1 ++ D2 ∧ I = I1 ++ I2 ∧ X = X1 ++ X2
/-! matching -/
mutual
def AV.same : AV → AV → Bool
 | .fn f a b, v => (match v with
  | .fn f' a' b' => Nat.beq f f' && AV.yq a a' && AV.yq b b'
  | _ => false)
 | .tuple l, v => (match l with
  | [] => (match v with
   | .tuple l => l.isEmpty
   | _ => false)
  | _ => false)
 | .raw u, v => (match v with
  | .raw u' => (match u, u' with
   | .slice none m n, .slice none m' n' => Nat.beq m m' && Nat.beq n n'
   | .pointer none, .pointer none => true
   | .nilFunc, .nilFunc => true
   | .nilIface, .nilIface => true
   | .map none, .map none => true
   | _, _ => false)
  | _ => false)
 | _, _ => false
def AV.yq : List AV → List AV → Bool
 | [], l' => l'.isEmpty
 | v :: l, l' => (match l' with
  | v' :: l' => AV.same v v' && AV.yq l l'
  | [] => false)
end
mutual
theorem AV.wA {ρ ρ' : Nms} : (v : AV) → (v' : AV) → AV.same v v' = true → v'.val ρ' = v.val ρ
 | .fn f a b, v', h => by
  unfold AV.same at h
  split at h
  ·rename_i f' a' b'
   simp only [Bool.and_eq_true] at h
   simp only [AV.val]
   rw [Nat.eq_of_beq_eq_true h.1.1, AV.w6 a a' h.1.2, AV.w6 b b' h.2]
  ·cases h
 | .tuple l, v', h => by
  unfold AV.same at h
  split at h
  ·split at h
   ·rename_i l'
    have : l' = [] := by simpa using h
    subst this; simp only [AV.val, AV.ah]
   ·cases h
  ·cases h
 | .raw u, v', h => by
  unfold AV.same at h
  split at h
  ·rename_i u'
   split at h
   ·simp only [Bool.and_eq_true] at h
    simp only [AV.val]; rw [Nat.eq_of_beq_eq_true h.1, Nat.eq_of_beq_eq_true h.2]
   ·simp only [AV.val]
   ·simp only [AV.val]
   ·simp only [AV.val]
   ·simp only [AV.val]
   ·cases h
  ·cases h
 | .int _ _, v', h | .bool _, v', h | .str _, v', h | .agg _, v', h | .ptr _ _, v', h | .sl _, v', h | .adr _ _, v', h | .ifc _ _, v', h | .mp _, v', h | .gp _, v', h | .nv _, v', h | .sfp _ _, v', h => by unfold AV.same at h; cases h
theorem AV.w6 {ρ ρ' : Nms} : (l : List AV) → (l' : List AV) → AV.yq l l' = true → AV.ah ρ' l' = AV.ah ρ l
 | [], l', h => by
  unfold AV.yq at h
  have : l' = [] := by simpa using h
  subst this; rfl
 | v :: l, l', h => by
  unfold AV.yq at h
  split at h
  ·rename_i v' l'
   simp only [Bool.and_eq_true] at h
   simp only [AV.ah]
   rw [AV.wA v v' h.1, AV.w6 l l' h.2]
  ·cases h
end
structure MR where
 B : List (Option Nat)
 S : List (Bool × Src)
 D : List Dyn
 X : List (Nat × List AV)
def D8 (G H : List Row) (t : Ty) (v : AV) : Option (Option Nat × Src × List t.T) := match v with
 | .sl j => (match fE G H (nk j) with
  | some (s, .sli none _ t' l _) => (match qx.Dyn.asL t ⟨.l t', l⟩ with
   | some l => some (some j, s, l)
   | none => none)
  | _ => none)
 | .raw (.slice none 0 0) => some (none, .nilI t, [])
 | _ => none
def Dw (G H : List Row) (t : Ty) (e : TypeId) (v : AV) : Option (Option Nat × Src × List t.T) := match v with
 | .sl j => (match fE G H (nk j) with
  | some (s, .own _ t' e' l _) => ifS ( Nat.beq e e' ) ( match qx.Dyn.asL t ⟨.l t', l⟩ with
   | some l => some (some j, s, l)
   | none => none
   ) none
  | _ => none)
 | .raw (.slice none 0 0) => some (none, .nilO t e, [])
 | _ => none
structure DR (t : Ty) where
 x : t.T
 vs : List AV
 o : List (Option TypeId)
 B : List (Option Nat)
 S : List (Bool × Src)
def pM (G H : List Row) : (t : Ty) → List AV → List (Option TypeId) → List (Option Nat) → Option (DR t)
 | .i k, vs, o, B => (match vs with
  | .int k' x :: vs => ifS ( gf k k' ) ( some ⟨x, vs, o, B, []⟩ ) none
  | _ => none)
 | .bo, vs, o, B => (match vs with
  | .bool x :: vs => some ⟨x, vs, o, B, []⟩
  | _ => none)
 | .s, vs, o, B => (match vs with
  | .str x :: vs => some ⟨x, vs, o, B, []⟩
  | _ => none)
 | .un, vs, o, B => some ⟨(), vs, o, B, []⟩
 | .p a b, vs, o, B => (match pM G H a vs o B with
  | some d => (match pM G H b d.vs d.o d.B with
   | some e => some ⟨(d.x, e.x), e.vs, e.o, e.B, d.S ++ e.S⟩
   | none => none)
  | none => none)
 | .l t, vs, o, B => (match vs with
  | v :: vs => (match o with
   | none :: o => (match D8 G H t v with
    | some q => some ⟨q.2.2, vs, o, B ++ [q.1], [(false, q.2.1)]⟩
    | none => none)
   | some e :: o => (match Dw G H t (oe e) v with
    | some q => some ⟨q.2.2, vs, o, B ++ [q.1], [(ow e, q.2.1)]⟩
    | none => none)
   | [] => none)
  | [] => none)
 | .ex, vs, o, B => (match vs with
  | .int .i64 a :: .int .i64 b :: .int .i64 c :: v :: vs => (match o with
   | none :: o => (match D8 G H .ex v with
    | some q => some ⟨Ex.mk a b c q.2.2, vs, o, B ++ [q.1], [(false, q.2.1)]⟩
    | none => none)
   | some e :: o => (match Dw G H .ex (oe e) v with
    | some q => some ⟨Ex.mk a b c q.2.2, vs, o, B ++ [q.1], [(ow e, q.2.1)]⟩
    | none => none)
   | [] => none)
  | _ => none)
 | _, _, _, _ => none
def C0 : Option Nat → Option Nat → Bool
 | some a, some b => Nat.beq a b
 | none, none => true
 | _, _ => false
theorem Ma {a b : Option Nat} (h : C0 a b = true) : a = b := by
 unfold C0 at h
 split at h
 ·rw [Nat.eq_of_beq_eq_true h]
 ·rfl
 ·cases h
abbrev FxA := Option (AV × List AV)
def vt (fx : FxA) : List AV := match fx with
 | some p => p.2
 | none => []
def nvs (v : AV) (fx : FxA) (sm : Option AV) : Bool := match fx with
 | some _ => true
 | none => (match sm with
  | some (.nv u) => (match v with
   | .nv w => Nat.beq u w
   | _ => false)
  | _ => false)
def C5 : Pt → Bool
 | .same => true
 | _ => false
mutual
def mt (G H : List Row) : Pt → AV → FxA → Option AV → List (Option Nat) → Option MR
 | .int k, v, _, _, B => (match v with
  | .int k' x => ifS (gf k k') (some ⟨B, [], [⟨.i k, x⟩], []⟩) none
  | _ => none)
 | .bool, v, _, _, B => (match v with
  | .bool x => some ⟨B, [], [⟨.bo, x⟩], []⟩
  | _ => none)
 | .str, v, _, _, B => (match v with
  | .str x => some ⟨B, [], [⟨.s, x⟩], []⟩
  | _ => none)
 | .sli t, v, _, _, B => (match D8 G H t v with
  | some q => some ⟨B ++ [q.1], [(false, q.2.1)], [⟨.l t, q.2.2⟩], []⟩
  | none => none)
 | .own t e m, v, _, _, B => (match Dw G H t e v with
  | some q => some ⟨B ++ [q.1], [(m, q.2.1)], [⟨.l t, q.2.2⟩], []⟩
  | none => none)
 | .slr n, v, _, _, B => (match v with
  | .sl j => ifS (C0 ((B[n]?).getD none) (some j)) (some ⟨B, [], [], []⟩) none
  | _ => none)
 | .bx t off m vs, v, fx, _, B => (match v with
  | .ptr j off' => ifS (Nat.beq off off') (match fE G H (yF j) with
   | some (s, .box _ t' cs) => ifS (Nat.beq t t') (match mts G H vs cs (vt fx) (B ++ [some j]) with
     | some r => some ⟨r.B, (m, s) :: r.S, r.D, (ifS m [(B.length, cs)] []) ++ r.X⟩
     | none => none) none
   | _ => none) none
  | _ => none)
 | .ptr n off, v, _, _, B => (match v with
  | .ptr j off' => ifS (Nat.beq off off' && C0 ((B[n]?).getD none) (some j)) (some ⟨B, [], [], []⟩) none
  | _ => none)
 | .mp k u m, v, _, _, B => (match v with
  | .mp j => (match fE G H (Kj j) with
   | some (s, .mp _ k' u' d) => (match Dyn.as (.mp k u) ⟨.mp k' u', d⟩ with
    | some d => some ⟨B ++ [some j], [(m, s)], [⟨.mp k u, d⟩], []⟩
    | none => none)
   | _ => none)
  | .raw (.map none) => some ⟨B ++ [none], [(m, .nilM k u)], [⟨.mp k u, (none : Option (List (k.T × u.T)))⟩], []⟩
  | _ => none)
 | .it, v, _, _, B => (match v with
  | .ptr j 0 => (match fE G H (Oh j) with
   | some (s, .it _ x p) => some ⟨B ++ [some j], [(true, s)], [⟨.s, x⟩, ⟨.n, p⟩], []⟩
   | _ => none)
  | _ => none)
 | .agg l, v, _, _, B => (match v with
  | .agg vs => mts G H l vs [] B
  | _ => none)
 | .tup l, v, _, _, B => (match v with
  | .tuple vs => mts G H l vs [] B
  | _ => none)
 | .fn f a b, v, _, _, B => (match v with
  | .fn f' a' b' => ifS (Nat.beq f f') (match mts G H a a' [] B with
   | some r => (match mts G H b b' [] r.B with
    | some q => some ⟨q.B, r.S ++ q.S, r.D ++ q.D, r.X ++ q.X⟩
    | none => none)
   | none => none) none
  | _ => none)
 | .ifc t p, v, _, _, B => (match v with
  | .ifc t' u => ifS (Nat.beq t t') (mt G H p u none none B) none
  | _ => none)
 | .cst c, v, _, _, B => ifS (AV.same c v) (some ⟨B, [], [], []⟩) none
 | .dat t o, v, _, _, B => (match v with
  | .agg cs => (match pM G H t cs o B with
   | some ⟨x, [], _, B', S⟩ => some ⟨B', S, [⟨t, x⟩], []⟩
   | _ => none)
  | _ => none)
 | .sfp, _, _, _, _ => none
 | .same, v, fx, sm, B => ifS (nvs v fx sm) (some ⟨B, [], [], []⟩) none
def mts (G H : List Row) : List Pt → List AV → List AV → List (Option Nat) → Option MR
 | [], vs, _, B => (match vs with
  | [] => some ⟨B, [], [], []⟩
  | _ => none)
 | p :: l, vs, sms, B => (match vs with
  | v :: vs => (match mt G H p (ifS (C5 p) v (pO G H v)) none sms.head? B with
   | some r => (match mts G H l vs sms.tail r.B with
    | some q => some ⟨q.B, r.S ++ q.S, r.D ++ q.D, r.X ++ q.X⟩
    | none => none)
   | none => none)
  | [] => none)
end
def mtV (G H : List Row) (look : Nat → Option AV) (fix : Nat → FxA) : List (Bool × Nat × Pt) → List (Option Nat) → Option MR
 | [], B => some ⟨B, [], [], []⟩
 | x :: l, B => (match (ifS x.1 ((fix x.2.1).map (·.1)) (look x.2.1)) with
  | some v => (match mt G H x.2.2 v (ifS x.1 (fix x.2.1) none) none B with
   | some r => (match mtV G H look fix l r.B with
    | some q => some ⟨q.B, r.S ++ q.S, r.D ++ q.D, r.X ++ q.X⟩
    | none => none)
   | none => none)
  | none => none)
end Go.Proofs.YtdhgpnejphlfpaaGreatDoor
namespace Go.Proofs.YtdhgpnejphlfpaaGreatDoor
open Go.Lib
def bk (a b : Item) : Prop := (∀ x, x ∈ b.own → x ∈ a.own) ∧ ∀ M w, a.P M w → b.P M w
theorem bk.refl {a : Item} : bk a a := ⟨fun _ h => h, fun _ _ h => h⟩
def Gv (ρ : Nms) (T : Tbl) (G H : List Row) (s : Src) (it : Item) : Prop :=
 (it.own = [] ∧ (∀ M w, it.P M w) ∧ ∀ r, ¬ s.at_ G H r) ∨ ∃ r, s.at_ G H r ∧ bk (r.item ρ T) it ∧ (r.cS = true → it.own = []) ∧ (r.cS = false → bk it (r.item ρ T))
def SI (ρ : Nms) (T : Tbl) (G H : List Row) (a : Bool × Src) (b : Bool × Item) : Prop := a.1 = b.1 ∧ Gv ρ T G H a.2 b.2
inductive dX {α β : Type} (R : α → β → Prop) : List α → List β → Prop
 | nil : dX R [] []
 | cons {a b l m} : R a b → dX R l m → dX R (a :: l) (b :: m)
theorem dX.length {α β : Type} {R : α → β → Prop} {l : List α} {m : List β} (h : dX R l m) : l.length = m.length := by
 induction h with
 | nil => rfl
 | cons _ _ ih => simp [ih]
theorem dX.append {α β : Type} {R : α → β → Prop} {l l' : List α} {m m' : List β} (h : dX R l m) (k : dX R l' m') : dX R (l ++ l') (m ++ m') := by
 induction h with
 | nil => exact k
 | cons h1 _ ih => exact .cons h1 ih
theorem dX.get {α β : Type} {R : α → β → Prop} {l : List α} {m : List β} (h : dX R l m) : ∀ {i : Nat} {a : α}, l[i]? = some a → ∃ b, m[i]? = some b ∧ R a b := by
 induction h with
 | nil => intro i a h; simp at h
 | cons h1 _ ih =>
  intro i a h
  cases i with
  | zero => simp at h; subst h; exact ⟨_, rfl, h1⟩
  | succ i => exact ih (by simpa using h)
def NBr (ρ : Nms) (o : Option Nat) (a : Nm) : Prop := match o with
 | some j => a.b = (ρ j).b ∧ a.v = (ρ j).v ∧ a.m = (ρ j).m
 | none => a.v = (none, 0, 0) ∧ a.m = none
abbrev NB (ρ : Nms) (B : List (Option Nat)) (N : List Nm) : Prop := dX (NBr ρ) B N
theorem NB.at_ {ρ : Nms} {B : List (Option Nat)} {N : List Nm} (h : NB ρ B N) {n j : Nat} (hb : C0 ((B[n]?).getD none) (some j) = true) : ∃ a, N[n]? = some a ∧ a.b = (ρ j).b ∧ a.v = (ρ j).v := by
 have e := Ma hb
 cases hn : B[n]? with
 | none => rw [hn] at e; cases e
 | some o =>
  rw [hn] at e
  simp only [Option.getD_some] at e
  subst e
  obtain ⟨a, h1, h2⟩ := h.get hn
  exact ⟨a, h1, h2.1, h2.2.1⟩
section
variable {ρ : Nms} {T : Tbl} {G H : List Row} {Φ : Ctx} {w : World}
theorem Bv (_hs : Sat (items ρ T G ++ (items ρ T H ++ Φ)) w) {t : Ty} {v : AV} {q : Option Nat × Src × List t.T} (h : D8 G H t v = some q) : ∃ a : Nm, NBr ρ q.1 a ∧ v.val ρ = sl a.v ∧ Gv ρ T G H q.2.1 (zi true t.rep a.v q.2.2 false) := by
 unfold D8 at h
 split at h
 ·rename_i j
  split at h
  ·rename_i s j' t' l b hf
   split at h
   ·rename_i l' hl
    cases h
    obtain ⟨rfl, rfl⟩ := sH hl
    obtain ⟨f1, f2⟩ := cG hf
    have : j' = j := Nat.eq_of_beq_eq_true f2
    subst this
    refine ⟨ρ j', ⟨rfl, rfl, rfl⟩, by simp only [AV.val], .inr ⟨_, f1, ⟨fun _ h => h, fun M w h _ => ⟨(h Tbl.get_none).1, fun hb => by cases hb⟩⟩, fun _ => rfl, fun h => by cases h⟩⟩
   ·cases h
  ·cases h
 ·cases h
  exact ⟨nm0, ⟨rfl, rfl⟩, by simp only [AV.val]; rfl, .inl ⟨rfl, fun M w _ => ⟨SRd.nil, fun hb => by cases hb⟩, fun r h => h⟩⟩
 ·cases h
theorem A9 (hs : Sat (items ρ T G ++ (items ρ T H ++ Φ)) w) {t : Ty} {e : TypeId} {v : AV} {q : Option Nat × Src × List t.T} (h : Dw G H t e v = some q) : ∃ a : Nm, NBr ρ q.1 a ∧ v.val ρ = sl a.v ∧ a.y = ⟨.l t, q.2.2⟩ ∧ Gv ρ T G H q.2.1 (rZ t.rep e a.v q.2.2 True) := by
 unfold Dw at h
 split at h
 ·rename_i j
  split at h
  ·rename_i s j' t' e' l ver hf
   obtain ⟨h1, h2⟩ := aw h
   have e1 := Nat.eq_of_beq_eq_true h1
   subst e1
   split at h2
   ·rename_i l' hl
    cases h2
    obtain ⟨rfl, rfl⟩ := sH hl
    obtain ⟨f1, f2⟩ := cG hf
    have : j' = j := Nat.eq_of_beq_eq_true f2
    subst this
    have hfact := (Src.holds hs f1).2
    refine ⟨{ ρ j' with y := ⟨.l t', l⟩ }, ⟨rfl, rfl, rfl⟩, by simp only [AV.val], rfl, .inr ⟨_, f1, ⟨fun _ h => h, fun M w h => ⟨h.1, trivial⟩⟩, fun h => (by cases h), fun _ => ⟨fun _ h => h, fun M w h => ⟨h.1, hfact⟩⟩⟩⟩
   ·cases h2
  ·cases h
 ·cases h
  exact ⟨{ nm0 with y := ⟨.l t, ([] : List t.T)⟩ }, ⟨rfl, rfl⟩, by simp only [AV.val]; rfl, rfl, .inl ⟨rfl, fun M w => ⟨Own.nil, trivial⟩, fun r h => h⟩⟩
 ·cases h
theorem AX (hs : Sat (items ρ T G ++ (items ρ T H ++ Φ)) w) : (t : Ty) → (vs : List AV) → (o : List (Option TypeId)) → (B : List (Option Nat)) → (d : DR t) → (N : List Nm) → pM G H t vs o B = some d → NB ρ B N →
  ∃ us N' I, vs = us ++ d.vs ∧ Bw t d.x (AV.ah ρ us) o N I N' d.o ∧ NB ρ d.B N' ∧ dX (SI ρ T G H) d.S I
 | .i k, vs, o, B, d, N, h, hN => by
  unfold pM at h
  split at h
  ·rename_i k' x us
   obtain ⟨h1, h2⟩ := aw h
   have := kr h1; subst this
   cases h2
   exact ⟨[.int k x], N, [], rfl, ⟨by simp only [AV.ah, AV.val], rfl, rfl, rfl⟩, hN, .nil⟩
  ·cases h
 | .bo, vs, o, B, d, N, h, hN => by
  unfold pM at h
  split at h
  ·rename_i x us
   cases h
   exact ⟨[.bool x], N, [], rfl, ⟨by simp only [AV.ah, AV.val], rfl, rfl, rfl⟩, hN, .nil⟩
  ·cases h
 | .s, vs, o, B, d, N, h, hN => by
  unfold pM at h
  split at h
  ·rename_i x us
   cases h
   exact ⟨[.str x], N, [], rfl, ⟨by simp only [AV.ah, AV.val], rfl, rfl, rfl⟩, hN, .nil⟩
  ·cases h
 | .un, vs, o, B, d, N, h, hN => by
  unfold pM at h
  cases h
  exact ⟨[], N, [], rfl, ⟨by simp only [AV.ah], rfl, rfl, rfl⟩, hN, .nil⟩
 | .n, vs, o, B, d, N, h, hN => by unfold pM at h; cases h
 | .mp _ _, vs, o, B, d, N, h, hN => by unfold pM at h; cases h
 | .p a b, vs, o, B, d, N, h, hN => by
  unfold pM at h
  split at h
  ·rename_i d1 h1
   split at h
   ·rename_i d2 h2
    cases h
    obtain ⟨us1, N1, I1, e1, s1, n1, a1⟩ := AX hs a vs o B d1 N h1 hN
    obtain ⟨us2, N2, I2, e2, s2, n2, a2⟩ := AX hs b d1.vs d1.o d1.B d2 N1 h2 n1
    refine ⟨us1 ++ us2, N2, I1 ++ I2, by rw [e1, e2, List.append_assoc], ?_, n2, a1.append a2⟩
    rw [df]
    exact ⟨_, _, N1, I1, I2, d1.o, s1, s2, rfl, rfl⟩
   ·cases h
  ·cases h
 | .l t, vs, o, B, d, N, h, hN => by
  unfold pM at h
  split at h
  ·rename_i v us
   split at h
   ·rename_i o'
    split at h
    ·rename_i q hq
     cases h
     obtain ⟨a, n1, e1, s1⟩ := Bv hs hq
     refine ⟨[v], N ++ [a], _, rfl, ⟨a, by simp only [AV.ah]; rw [e1], rfl, .inl ⟨rfl, rfl⟩⟩, hN.append (.cons n1 .nil), .cons ⟨rfl, s1⟩ .nil⟩
    ·cases h
   ·rename_i e o'
    split at h
    ·rename_i q hq
     cases h
     obtain ⟨a, n1, e1, y1, s1⟩ := A9 hs hq
     refine ⟨[v], N ++ [a], _, rfl, ⟨a, by simp only [AV.ah]; rw [e1], rfl, .inr ⟨e, rfl, rfl, y1⟩⟩, hN.append (.cons n1 .nil), .cons ⟨rfl, s1⟩ .nil⟩
    ·cases h
   ·cases h
  ·cases h
 | .ex, vs, o, B, d, N, h, hN => by
  unfold pM at h
  split at h
  ·rename_i xa xb xc v us
   split at h
   ·rename_i o'
    split at h
    ·rename_i q hq
     cases h
     obtain ⟨a, n1, e1, s1⟩ := Bv hs hq
     refine ⟨[.int .i64 xa, .int .i64 xb, .int .i64 xc, v], N ++ [a], _, rfl, ⟨a, by simp only [AV.ah, AV.val]; rw [e1]; rfl, rfl, .inl ⟨rfl, rfl⟩⟩, hN.append (.cons n1 .nil), .cons ⟨rfl, s1⟩ .nil⟩
    ·cases h
   ·rename_i e o'
    split at h
    ·rename_i q hq
     cases h
     obtain ⟨a, n1, e1, y1, s1⟩ := A9 hs hq
     refine ⟨[.int .i64 xa, .int .i64 xb, .int .i64 xc, v], N ++ [a], _, rfl, ⟨a, by simp only [AV.ah, AV.val]; rw [e1]; rfl, rfl, .inr ⟨e, rfl, rfl, y1⟩⟩, hN.append (.cons n1 .nil), .cons ⟨rfl, s1⟩ .nil⟩
    ·cases h
   ·cases h
  ·cases h
abbrev db (ρ : Nms) (X : List (Nat × List AV)) : Bxs := X.map fun x => (x.1, AV.ah ρ x.2)
abbrev jV (ρ : Nms) (fx : FxA) : Fx := fx.map fun q => (q.1.val ρ, AV.ah ρ q.2)
theorem FD {fx : FxA} : fxC (jV ρ fx) = AV.ah ρ (vt fx) := by
 cases fx with
 | none => simp [fxC, vt, AV.ah]
 | some q => rfl
theorem vh {fx : FxA} {v : AV} (h : ∀ q, fx = some q → q.1.val ρ = v.val ρ) : xK (jV ρ fx) (v.val ρ) := by
 intro p hp
 cases fx with
 | none => cases hp
 | some q => cases hp; exact (h q rfl).symm
theorem Il (hs : Sat (items ρ T G ++ (items ρ T H ++ Φ)) w) {p : Pt} {v : AV} : (ifS (C5 p) v (pO G H v)).val ρ = v.val ρ := by
 cases C5 p
 ·exact C7 hs
 ·rfl
theorem Ch {l : List AV} : (AV.ah ρ l).head? = l.head?.map (AV.val ρ) := by cases l <;> simp [AV.ah]
theorem Cf {l : List AV} : (AV.ah ρ l).tail = AV.ah ρ l.tail := by cases l <;> simp [AV.ah]
mutual
theorem wG (hs : Sat (items ρ T G ++ (items ρ T H ++ Φ)) w) : (p : Pt) → (v : AV) → (fx : FxA) → (sm : Option AV) → (B : List (Option Nat)) → (r : MR) → (N : List Nm) → mt G H p v fx sm B = some r → NB ρ B N → (∀ q, fx = some q → q.1.val ρ = v.val ρ) →
  ∃ N' I, Sem p (v.val ρ) (jV ρ fx) (sm.map (AV.val ρ)) N r.D I (db ρ r.X) N' ∧ NB ρ r.B N' ∧ dX (SI ρ T G H) r.S I
 | .int k, v, fx, sm, B, r, N, h, hN, hf => by
  unfold mt at h
  split at h
  ·rename_i k' x
   obtain ⟨h1, h2⟩ := aw h
   have := kr h1; subst this
   cases h2
   exact ⟨N, [], ⟨x, by simp only [AV.val], rfl, rfl, rfl, rfl⟩, hN, .nil⟩
  ·cases h
 | .bool, v, fx, sm, B, r, N, h, hN, hf => by
  unfold mt at h
  split at h
  ·rename_i x
   cases h
   exact ⟨N, [], ⟨x, by simp only [AV.val], rfl, rfl, rfl, rfl⟩, hN, .nil⟩
  ·cases h
 | .str, v, fx, sm, B, r, N, h, hN, hf => by
  unfold mt at h
  split at h
  ·rename_i x
   cases h
   exact ⟨N, [], ⟨x, by simp only [AV.val], rfl, rfl, rfl, rfl⟩, hN, .nil⟩
  ·cases h
 | .sli t, v, fx, sm, B, r, N, h, hN, hf => by
  unfold mt at h
  split at h
  ·rename_i q hq
   cases h
   obtain ⟨a, n1, e1, s1⟩ := Bv hs hq
   exact ⟨N ++ [a], _, ⟨a, q.2.2, e1, rfl, rfl, rfl, rfl⟩, hN.append (.cons n1 .nil), .cons ⟨rfl, s1⟩ .nil⟩
  ·cases h
 | .own t e m, v, fx, sm, B, r, N, h, hN, hf => by
  unfold mt at h
  split at h
  ·rename_i q hq
   cases h
   obtain ⟨a, n1, e1, y1, s1⟩ := A9 hs hq
   exact ⟨N ++ [a], _, ⟨a, q.2.2, e1, vh hf, rfl, rfl, rfl, rfl, y1⟩, hN.append (.cons n1 .nil), .cons ⟨rfl, s1⟩ .nil⟩
  ·cases h
 | .slr n, v, fx, sm, B, r, N, h, hN, hf => by
  unfold mt at h
  split at h
  ·rename_i j
   obtain ⟨h1, h2⟩ := aw h
   cases h2
   obtain ⟨a, a1, a2, a3⟩ := hN.at_ h1
   exact ⟨N, [], ⟨a, a1, by simp only [AV.val]; rw [a3], rfl, rfl, rfl, rfl⟩, hN, .nil⟩
  ·cases h
 | .bx t off m vs, v, fx, sm, B, r, N, h, hN, hf => by
  unfold mt at h
  split at h
  ·rename_i j off'
   obtain ⟨h1, h2⟩ := aw h
   have e1 := Nat.eq_of_beq_eq_true h1
   subst e1
   split at h2
   ·rename_i s j' t' cs hfi
    obtain ⟨h3, h4⟩ := aw h2
    have e2 := Nat.eq_of_beq_eq_true h3
    subst e2
    split at h4
    ·rename_i q hq
     cases h4
     obtain ⟨f1, f2⟩ := cG hfi
     have : j' = j := Nat.eq_of_beq_eq_true f2
     subst this
     obtain ⟨N', I, s1, n1, a1⟩ := qj hs vs cs (vt fx) (B ++ [some j']) q (N ++ [ρ j']) hq (hN.append (.cons ⟨rfl, rfl, rfl⟩ .nil))
     refine ⟨N', _, ⟨ρ j', AV.ah ρ cs, I, db ρ q.X, by simp only [AV.val], vh hf, by rw [FD]; exact s1, rfl, ?_⟩, n1, .cons ⟨rfl, .inr ⟨_, f1, bk.refl, (fun h => by cases h), fun _ => bk.refl⟩⟩ a1⟩
     rw [← hN.length]
     cases m <;> simp [db]
    ·cases h4
   ·cases h2
  ·cases h
 | .ptr n off, v, fx, sm, B, r, N, h, hN, hf => by
  unfold mt at h
  split at h
  ·rename_i j off'
   obtain ⟨h1, h2⟩ := aw h
   simp only [Bool.and_eq_true] at h1
   cases h2
   have e1 := Nat.eq_of_beq_eq_true h1.1
   subst e1
   obtain ⟨a, a1, a2, a3⟩ := hN.at_ h1.2
   exact ⟨N, [], ⟨a, a1, by simp only [AV.val]; rw [a2], rfl, rfl, rfl, rfl⟩, hN, .nil⟩
  ·cases h
 | .mp k u m, v, fx, sm, B, r, N, h, hN, hf => by
  unfold mt at h
  split at h
  ·rename_i j
   split at h
   ·rename_i s j' k' u' d hfi
    split at h
    ·rename_i d' hd
     cases h
     have := Dyn.yn hd
     cases this
     obtain ⟨f1, f2⟩ := cG hfi
     have : j' = j := Nat.eq_of_beq_eq_true f2
     subst this
     exact ⟨N ++ [ρ j'], _, ⟨ρ j', d', by simp only [AV.val], vh hf, rfl, rfl, rfl, rfl⟩, hN.append (.cons ⟨rfl, rfl, rfl⟩ .nil), .cons ⟨rfl, .inr ⟨_, f1, bk.refl, (fun h => by cases h), fun _ => bk.refl⟩⟩ .nil⟩
    ·cases h
   ·cases h
  ·cases h
   exact ⟨N ++ [nm0], _, ⟨nm0, none, by simp only [AV.val]; rfl, vh hf, rfl, rfl, rfl, rfl⟩, hN.append (.cons ⟨rfl, rfl⟩ .nil), .cons ⟨rfl, .inl ⟨rfl, fun M w => jx.nil, fun r h => h⟩⟩ .nil⟩
  ·cases h
 | .it, v, fx, sm, B, r, N, h, hN, hf => by
  unfold mt at h
  split at h
  ·rename_i j
   split at h
   ·rename_i s j' x p hfi
    cases h
    obtain ⟨f1, f2⟩ := cG hfi
    have : j' = j := Nat.eq_of_beq_eq_true f2
    subst this
    exact ⟨N ++ [ρ j'], _, ⟨ρ j', x, p, by simp only [AV.val], vh hf, rfl, rfl, rfl, rfl⟩, hN.append (.cons ⟨rfl, rfl, rfl⟩ .nil), .cons ⟨rfl, .inr ⟨_, f1, bk.refl, (fun h => by cases h), fun _ => bk.refl⟩⟩ .nil⟩
   ·cases h
  ·cases h
 | .agg l, v, fx, sm, B, r, N, h, hN, hf => by
  unfold mt at h
  split at h
  ·rename_i vs
   obtain ⟨N', I, s1, n1, a1⟩ := qj hs l vs [] B r N h hN
   exact ⟨N', I, ⟨AV.ah ρ vs, by simp only [AV.val], by simpa only [AV.ah] using s1⟩, n1, a1⟩
  ·cases h
 | .tup l, v, fx, sm, B, r, N, h, hN, hf => by
  unfold mt at h
  split at h
  ·rename_i vs
   obtain ⟨N', I, s1, n1, a1⟩ := qj hs l vs [] B r N h hN
   exact ⟨N', I, ⟨AV.ah ρ vs, by simp only [AV.val], by simpa only [AV.ah] using s1⟩, n1, a1⟩
  ·cases h
 | .fn f a b, v, fx, sm, B, r, N, h, hN, hf => by
  unfold mt at h
  split at h
  ·rename_i f' a' b'
   obtain ⟨h1, h2⟩ := aw h
   have e1 := Nat.eq_of_beq_eq_true h1
   subst e1
   split at h2
   ·rename_i q1 hq1
    split at h2
    ·rename_i q2 hq2
     cases h2
     obtain ⟨N1, I1, s1, n1, a1⟩ := qj hs a a' [] B q1 N hq1 hN
     obtain ⟨N2, I2, s2, n2, a2⟩ := qj hs b b' [] q1.B q2 N1 hq2 n1
     exact ⟨N2, I1 ++ I2, ⟨AV.ah ρ a', AV.ah ρ b', q1.D, q2.D, I1, I2, db ρ q1.X, db ρ q2.X, N1, by simp only [AV.val], by simpa only [AV.ah] using s1, by simpa only [AV.ah] using s2, rfl, rfl, by simp [db]⟩, n2, a1.append a2⟩
    ·cases h2
   ·cases h2
  ·cases h
 | .ifc t p, v, fx, sm, B, r, N, h, hN, hf => by
  unfold mt at h
  split at h
  ·rename_i t' u
   obtain ⟨h1, h2⟩ := aw h
   have e1 := Nat.eq_of_beq_eq_true h1
   subst e1
   obtain ⟨N', I, s1, n1, a1⟩ := wG hs p u none none B r N h2 hN (fun q hq => by cases hq)
   exact ⟨N', I, ⟨_, by simp only [AV.val], s1⟩, n1, a1⟩
  ·cases h
 | .cst c, v, fx, sm, B, r, N, h, hN, hf => by
  unfold mt at h
  obtain ⟨h1, h2⟩ := aw h
  cases h2
  exact ⟨N, [], ⟨⟨AV.wA c v h1, fun ρ' => (AV.wA (ρ' := ρ) (ρ := ρ') c v h1).symm.trans (AV.wA c v h1)⟩, rfl, rfl, rfl, rfl⟩, hN, .nil⟩
 | .dat t o, v, fx, sm, B, r, N, h, hN, hf => by
  unfold mt at h
  split at h
  ·rename_i cs
   split at h
   ·rename_i x o' B' S hd
    cases h
    obtain ⟨us, N', I, e1, s1, n1, a1⟩ := AX hs t cs o B _ N hd hN
    simp only [List.append_nil] at e1
    subst e1
    exact ⟨N', I, ⟨_, x, o', by simp only [AV.val], rfl, s1, rfl⟩, n1, a1⟩
   ·cases h
  ·cases h
 | .sfp, v, fx, sm, B, r, N, h, hN, hf => by unfold mt at h; cases h
 | .same, v, fx, sm, B, r, N, h, hN, hf => by
  unfold mt at h
  obtain ⟨h1, h2⟩ := aw h
  cases h2
  refine ⟨N, [], ⟨?_, rfl, rfl, rfl, rfl⟩, hN, .nil⟩
  unfold nvs at h1
  split at h1
  ·rename_i q
   exact .inl ⟨_, rfl, (hf q rfl).symm⟩
  ·split at h1
   ·split at h1
    ·rename_i u u'
     rw [Nat.eq_of_beq_eq_true h1]
     exact .inr ⟨rfl, rfl⟩
    ·cases h1
   ·cases h1
theorem qj (hs : Sat (items ρ T G ++ (items ρ T H ++ Φ)) w) : (l : List Pt) → (vs : List AV) → (sms : List AV) → (B : List (Option Nat)) → (r : MR) → (N : List Nm) → mts G H l vs sms B = some r → NB ρ B N →
  ∃ N' I, qp l (AV.ah ρ vs) (AV.ah ρ sms) N r.D I (db ρ r.X) N' ∧ NB ρ r.B N' ∧ dX (SI ρ T G H) r.S I
 | [], vs, sms, B, r, N, h, hN => by
  unfold mts at h
  split at h
  ·cases h
   exact ⟨N, [], ⟨by simp only [AV.ah], rfl, rfl, rfl, rfl⟩, hN, .nil⟩
  ·cases h
 | p :: l, vs, sms, B, r, N, h, hN => by
  unfold mts at h
  split at h
  ·rename_i v us
   split at h
   ·rename_i q1 hq1
    split at h
    ·rename_i q2 hq2
     cases h
     obtain ⟨N1, I1, s1, n1, a1⟩ := wG hs p _ none sms.head? B q1 N hq1 hN (fun q hq => by cases hq)
     obtain ⟨N2, I2, s2, n2, a2⟩ := qj hs l us sms.tail q1.B q2 N1 hq2 n1
     rw [Il hs] at s1
     refine ⟨N2, I1 ++ I2, ⟨v.val ρ, AV.ah ρ us, q1.D, q2.D, I1, I2, db ρ q1.X, db ρ q2.X, N1, by simp only [AV.ah], by rw [Ch]; exact s1, by rw [Cf]; exact s2, rfl, rfl, by simp [db]⟩, n2, a1.append a2⟩
    ·cases h
   ·cases h
  ·cases h
end
theorem zS (hs : Sat (items ρ T G ++ (items ρ T H ++ Φ)) w) {lk : Nat → Option AV} {fix : Nat → FxA} : (l : List (Bool × Nat × Pt)) → (B : List (Option Nat)) → (r : MR) → (N : List Nm) → mtV G H lk fix l B = some r → NB ρ B N →
  ∃ N' I, ui (fun i => jV ρ (fix i)) (fun i => (lk i).map (AV.val ρ)) l N r.D I (db ρ r.X) N' ∧ NB ρ r.B N' ∧ dX (SI ρ T G H) r.S I
 | [], B, r, N, h, hN => by
  unfold mtV at h
  cases h
  exact ⟨N, [], ⟨rfl, rfl, rfl, rfl⟩, hN, .nil⟩
 | (b, t, p) :: l, B, r, N, h, hN => by
  unfold mtV at h
  split at h
  ·rename_i v hv
   split at h
   ·rename_i q1 hq1
    split at h
    ·rename_i q2 hq2
     cases h
     cases b
     ·simp only at hv hq1
      obtain ⟨N1, I1, s1, n1, a1⟩ := wG hs p v none none B q1 N hq1 hN (fun q hq => by cases hq)
      obtain ⟨N2, I2, s2, n2, a2⟩ := zS hs l q1.B q2 N1 hq2 n1
      exact ⟨N2, I1 ++ I2, ⟨v.val ρ, q1.D, q2.D, I1, I2, db ρ q1.X, db ρ q2.X, N1, by simp only [hv, Option.map_some], s1, s2, rfl, rfl, by simp [db]⟩, n2, a1.append a2⟩
     ·simp only at hv hq1
      cases hfx : fix t with
      | none => rw [hfx] at hv; cases hv
      | some q =>
       rw [hfx] at hv hq1
       cases hv
       obtain ⟨N1, I1, s1, n1, a1⟩ := wG hs p q.1 (some q) none B q1 N hq1 hN (fun q' hq => by cases hq; rfl)
       obtain ⟨N2, I2, s2, n2, a2⟩ := zS hs l q1.B q2 N1 hq2 n1
       exact ⟨N2, I1 ++ I2, ⟨q.1.val ρ, q1.D, q2.D, I1, I2, db ρ q1.X, db ρ q2.X, N1, by simp only [hfx]; rfl, by simp only [hfx]; exact s1, s2, rfl, rfl, by simp [db]⟩, n2, a1.append a2⟩
    ·cases h
   ·cases h
  ·cases h
end
end Go.Proofs.YtdhgpnejphlfpaaGreatDoor
