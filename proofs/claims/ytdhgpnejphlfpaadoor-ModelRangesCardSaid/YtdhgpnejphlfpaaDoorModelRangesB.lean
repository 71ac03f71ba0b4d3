/-
  Own texts for the statement ModelRanges, cut down to what it needs: K15, K16, KEx, Model, Types, Walk1, Walk2, Walk3, Walk4, Walk5, Walk6. (cut and joined by a program)
-/
import Derived.Test.YtdhgpnejphlfpaaDoorModelRangesA
import Derived.RecoverIn
import Derived.Test.YtdhgpnejphlfpaaDoorProg
namespace Go.Proofs.YtdhgpnejphlfpaaDoor
open Go.Lib
theorem O {E : Env} {g : Bool} {t : Tmp} {v : Value} (h : look E t = some (true, v)) : Opd E g (.tmp t) v := Opd.t h
section
variable {P : Program} {ρ : Option Nat} {Q : Post} {n : Nat} {D : List Deferred} {E : Env} {w : World} {ops : Array Oper} {rest : List Oper}
theorem Wo {o : Oper} {d : Tmp} {v : Value} (hr : Run P E true o w v) (hq : (plainO o, o.guard, o.dst, Nat.blt d n) = (true, none, some d, true))
  (h : WL P ρ ops Q n D rest ((d, true, v) :: E) w) : WL P ρ ops Q n D (o :: rest) E w :=
 WL_op hr (congrArg (·.1) hq) (congrArg (·.2.1) hq) (congrArg (·.2.2.1) hq) (congrArg (·.2.2.2) hq) h
theorem Wg {o : Oper} {d : Tmp} {v : Value} {j : Nat} {pol : Bool} {rj : Tmp} {gj bj : Bool} {g : Bool} (hq : (o.guard, (ops[j]?).bind (·.dst), look E rj, Nat.blt rj n) = (some (j, pol), some rj, some (gj, .bool bj), true)) (hG : (gj && (bj == pol)) = g)
  (hr : Run P E g o w v) (hq2 : (plainO o, o.dst, Nat.blt d n) = (true, some d, true))
  (h : WL P ρ ops Q n D rest ((d, g, v) :: E) w) : WL P ρ ops Q n D (o :: rest) E w :=
 WL_opG (congrArg (·.1) hq) (congrArg (·.2.1) hq) (congrArg (·.2.2.1) hq) (congrArg (·.2.2.2) hq) hG hr (congrArg (·.1) hq2) (congrArg (·.2.1) hq2) (congrArg (·.2.2) hq2) h
end
theorem Sat.m (Γ : Ctx) {Δ : Ctx} {w : World} (h : Sat Δ w) (e : Δ = Γ) : Sat Γ w := e ▸ h
end Go.Proofs.YtdhgpnejphlfpaaDoor
namespace Go.Proofs.YtdhgpnejphlfpaaDoor
open Go.Lib
/-! models of functions that may panic -/
def bindE {E A B : Type} (m : Option (Except E A)) (k : A → Option (Except E B)) : Option (Except E B) := m.bind fun a => match a with
 | .error p => some (.error p)
 | .ok x => k x
theorem bindE_some {E A B : Type} {m : Option (Except E A)} {k : A → Option (Except E B)} {r : Except E B} (h : bindE m k = some r) : (∃ p, m = some (.error p) ∧ r = .error p) ∨ ∃ x, m = some (.ok x) ∧ k x = some r := by
 cases m with
 | none => cases h
 | some a =>
  cases a with
  | error p =>
   obtain rfl : Except.error p = r := Option.some.inj h
   exact .inl ⟨p, rfl, rfl⟩
  | ok x => exact .inr ⟨x, rfl, h⟩
def elimE {E A B : Type} (m : Option (Except E A)) (kp : E → Option B) (k : A → Option B) : Option B := m.bind fun a => match a with
 | .error p => kp p
 | .ok x => k x
theorem elimE_some {E A B : Type} {m : Option (Except E A)} {kp : E → Option B} {k : A → Option B} {r : B} (h : elimE m kp k = some r) : (∃ p, m = some (.error p) ∧ kp p = some r) ∨ ∃ x, m = some (.ok x) ∧ k x = some r := by
 cases m with
 | none => cases h
 | some a =>
  cases a with
  | error p => exact .inl ⟨p, rfl, h⟩
  | ok x => exact .inr ⟨x, rfl, h⟩
abbrev pan (v : Value) : List PanicEntry := [{ v := v, recovered := false }]
abbrev CallsE (P : Program) (f : FuncId) (args : List Value) (w : World) {E A : Type} (r : Except E A) (enc : E → Value) (Φ : Ctx) (S : A → Value → World → Prop) : Prop :=
 CallsX P f args w (fun v w' => ∃ x, r = .ok x ∧ S x v w') (fun ps w' => ∃ p, r = .error p ∧ ps = pan (enc p) ∧ Sat Φ w')
section
variable {P : Program} {ρ : Option Nat} {Q : Post} {n : Nat} {D : List Deferred} {E : Env} {w : World} {ops : Array Oper} {rest : List Oper} {Φ : Ctx}
theorem WL_callN {f : FuncId} {fo : Operand} {first vs cap args : List Value} {xs : List Operand} {tys : Array TypeId} {d : Tmp} {ty : TypeId} {pos : String} {af : Array Edge} {T A : Type} {x : A} {enc : T → Value} {S : A → Value → World → Prop}
  (he : Enters P f) (hfo : Opd E true fo (.func (.func f) first.toArray cap.toArray)) (hxs : Opds E true xs vs) (ha : args = first ++ vs ++ cap)
  (hn : Nat.blt d n = true) (hc : CallsE P f args w (.ok x : Except T A) enc Φ S)
  (h : ∀ v w', S x v w' → WL P ρ ops Q n D rest ((d, true, v) :: E) w') : WL P ρ ops Q n D (⟨some d, .call ⟨.value fo, xs.toArray, tys⟩, ty, pos, af, none⟩ :: rest) E w :=
 WL_callX he hfo hxs ha hn hc (fun v w' ⟨y, hy, hv⟩ => by cases hy; exact h v w' hv) (fun _ _ ⟨_, hp, _⟩ => by cases hp)
theorem WL_callP {f : FuncId} {fo : Operand} {first vs cap args : List Value} {xs : List Operand} {tys : Array TypeId} {d : Tmp} {ty : TypeId} {pos : String} {af : Array Edge} {T A : Type} {p : T} {enc : T → Value} {S : A → Value → World → Prop}
  (he : Enters P f) (hfo : Opd E true fo (.func (.func f) first.toArray cap.toArray)) (hxs : Opds E true xs vs) (ha : args = first ++ vs ++ cap)
  (hn : Nat.blt d n = true) (hc : CallsE P f args w (.error p : Except T A) enc Φ S)
  (h : ∀ w', Sat Φ w' → At Q (.panic (pan (enc p))) n D E w') : WL P ρ ops Q n D (⟨some d, .call ⟨.value fo, xs.toArray, tys⟩, ty, pos, af, none⟩ :: rest) E w :=
 WL_callX he hfo hxs ha hn hc (fun _ _ ⟨_, hy, _⟩ => by cases hy) (fun _ w' ⟨_, hp, hps, hs⟩ => by cases hp; subst hps; exact h w' hs)
theorem WL_panic {x : Operand} {t : TypeId} {v : Value} {dst : Option Tmp} {ty : TypeId} {pos : String} {af : Array Edge} (hx : Opd E true x (.iface t v))
  (h : At Q (.panic (pan (.iface t v))) n D E w) : WL P ρ ops Q n D (⟨dst, .panic x, ty, pos, af, none⟩ :: rest) E w := fun a hf hD =>
 wpListIn_plain rfl fun K hK => wpIn_of rfl (by
  have e : (execOp a.eval (⟨dst, .panic x, ty, pos, af, none⟩ : Oper)).run P w = .halt (.panic (.iface t v)) w := by
   simp only [execOp, hx n a hf rfl]
   rfl
  rw [e]
  exact h a hf hD)
theorem At_p {fn : Func} {S : Value → World → Prop} {Sp : List PanicEntry → World → Prop} {ps : List PanicEntry} (h : Sp ps w) : At (BP P fn S Sp) (.panic ps) n [] E w := fun a hf hd => by
 show LeavesInM _ _ _ _ _ _ a.defers _ _
 rw [hd]
 exact h
theorem AtP_p {fn : Func} {S : Value → World → Prop} {Sp : List PanicEntry → World → Prop} {ps : List PanicEntry} (h : Sp ps w) : AtP (BP P fn S Sp) ps [] w := fun a hd => by
 show LeavesInM _ _ _ _ _ _ a.defers _ _
 rw [hd]
 exact h
variable {g : Bool} {dst : Option Tmp} {ty : TypeId} {pos : String} {af : Array Edge} {gd : Option (Nat × Bool)}
theorem Run_tassertOk {x : Operand} {v : Value} {s t : TypeId} {dd : TypeDesc} (ht : P.underlying t = some dd) (hd : ifaceT dd = false) (hx : Opd E g x (.iface t v)) : Run P E g ⟨dst, .typeAssert x s t true, ty, pos, af, gd⟩ w (.tuple #[v, .bool true]) :=
 fun n a hf hg => by
  simp only [execOp, hx n a hf hg, Instr.typeAssert, Sem.run_bind, run_underlying ht, Result.andThen_ok]
  cases dd <;> first | (dsimp only; rw [if_pos rfl]; rfl) | (simp [ifaceT] at hd)
theorem Run_tassertNo {x : Operand} {z : Value} {s t : TypeId} {size bytes : Nat} {dd : TypeDesc} (ht : P.underlying t = some dd) (hd : ifaceT dd = false) (hz : TI P t size bytes z) (hx : Opd E g x .nilIface) : Run P E g ⟨dst, .typeAssert x s t true, ty, pos, af, gd⟩ w (.tuple #[z, .bool false]) :=
 fun n a hf hg => by
  simp only [execOp, hx n a hf hg, Instr.typeAssert, Sem.run_bind, run_underlying ht, Result.andThen_ok]
  cases dd <;> first | (simp [ifaceT] at hd; done) | (simp only [Sem.run_bind, hz.zero w, Result.andThen_ok, if_true]; rfl)
/-! a deferred call -/
def CallsU (P : Program) (f : FuncId) (args : List Value) (u : FrameMode) (w : World) (R : FrameMode → World → Prop) : Prop :=
 CallsDIn (FW none) 0 P f args.toArray u w fun e u' w' => e = .returned (.tuple #[]) ∧ R u' w'
abbrev dfr (f : FuncId) (cap : List Value) : Deferred := { target := .fn (.func f) cap.toArray, args := #[] }
theorem WL_defer {f : FuncId} {fo : Operand} {cap : List Value} {tys : Array TypeId} {ty : TypeId} {pos : String} {af : Array Edge} (hfo : Opd E true fo (.func (.func f) #[] cap.toArray))
  (h : WL P none ops Q n (dfr f cap :: D) rest E w) : WL P none ops Q n D (⟨none, .defer ⟨.value fo, #[], tys⟩, ty, pos, af, none⟩ :: rest) E w := fun a hf hD =>
 wpListIn_plain rfl fun K hK => by
  refine ⟨fun _ _ => trivial, ?_⟩
  have e : ((⟨none, .defer ⟨.value fo, #[], tys⟩, ty, pos, af, none⟩ : Oper).semAt (FW none).round a.eval).run P w = .ok (.defer (dfr f cap)) w := by
   show (execOp a.eval (⟨none, .defer ⟨.value fo, #[], tys⟩, ty, pos, af, none⟩ : Oper)).run P w = _
   simp only [execOp, resolve, hfo n a hf rfl, Deferred.ofValue, Sem.run_bind, Sem.run_pure, Result.andThen_ok]
   rw [show (#[] ++ Array.map a.eval #[] : Array Value) = #[] by simp]
  rw [e, Oper.uponIn_defer]
  refine hK _ _ (h _ ⟨hf.size, hf.at_⟩ ?_)
  show dfr f cap :: a.defers = _
  rw [hD]
theorem fits_defers {a : Act} (h : Fits n E a) (ds : List Deferred) : Fits n E { a with defers := ds } := ⟨h.size, h.at_⟩
theorem leaves_dfr {fn : Func} {f : FuncId} {cap : List Value} {tmps : Array Value} {R : Ending → World → Prop} {u : FrameMode} {ds : List Deferred} (hu : u ≠ .run) (he : Enters P f)
  (hc : CallsU P f cap u w fun u' w' => LeavesInM (FW none) 0 P fn tmps R ds (settle u') w') : LeavesInM (FW none) 0 P fn tmps R (dfr f cap :: ds) u w := by
 refine ⟨hu, .inr ⟨FW_depth, .func f, cap.toArray, f, cap.toArray, rfl, ?_, fun _ _ => trivial, ?_⟩⟩
 ·have := he cap.toArray w
  simpa [dfr, invoke] using this
 ·refine CallsDIn.mono hc fun e u' w' h => ?_
  obtain ⟨rfl, h⟩ := h
  exact h
theorem At_dfr {fn : Func} {S : Value → World → Prop} {Sp : List PanicEntry → World → Prop} {f : FuncId} {cap : List Value} {T : World → Prop} (he : Enters P f)
  (hc : CallsU P f cap .returning w fun u' w' => u' = .returning ∧ T w') (h : ∀ w', T w' → At (BP P fn S Sp) .ret n [] E w') : At (BP P fn S Sp) .ret n [dfr f cap] E w := fun a hf hd => by
 show LeavesInM _ _ _ _ _ _ a.defers _ _
 rw [hd]
 refine leaves_dfr (by simp) he (CallsDIn.mono hc fun e u' w' hx => ?_)
 obtain ⟨he', rfl, hT⟩ := hx
 exact ⟨he', h w' hT { a with defers := [] } (fits_defers hf []) rfl⟩
theorem At_dfrP {fn : Func} {S : Value → World → Prop} {Sp : List PanicEntry → World → Prop} {f : FuncId} {cap : List Value} {T : World → Prop} {v : Value} (he : Enters P f)
  (hc : CallsU P f cap (.panicking (pan v)) w fun u' w' => u' = .panicking [{ v := v, recovered := true }] ∧ T w') (h : ∀ w', T w' → At (BP P fn S Sp) .ret n [] E w') : At (BP P fn S Sp) (.panic (pan v)) n [dfr f cap] E w := fun a hf hd => by
 show LeavesInM _ _ _ _ _ _ a.defers _ _
 rw [hd]
 refine leaves_dfr (by simp) he (CallsDIn.mono hc fun e u' w' hx => ?_)
 obtain ⟨he', rfl, hT⟩ := hx
 exact ⟨he', h w' hT { a with defers := [] } (fits_defers hf []) rfl⟩
/-! the closure -/
def QB (T : World → Prop) : Post := fun e a w => match e with
 | .normal => a.defers = [] ∧ T w
 | .ret => a.defers = [] ∧ T w
 | _ => False
theorem At_QB {T : World → Prop} (h : T w) : At (QB T) .normal n [] E w := fun _ _ hd => ⟨hd, h⟩
def calmB (o : Oper) : Bool := match o.op with
 | .move _ => true
 | .assign _ => true
 | .alloc _ => true
 | .extract _ _ => true
 | .store _ _ _ => true
 | .typeAssert _ _ _ _ => true
 | _ => false
def isCalm : Result Next → Prop
 | .ok (.value _) _ => True
 | .ok .skip _ => True
 | .halt _ _ => True
 | _ => False
theorem calm_v {m : Sem Value} {w : World} : isCalm ((do pure (Next.value (← m)) : Sem Next).run P w) := by
 rw [Sem.run_bind]
 cases m.run P w <;> trivial
theorem calm_u {m : Sem Unit} {w : World} : isCalm ((do m; pure Next.skip : Sem Next).run P w) := by
 rw [Sem.run_bind]
 cases m.run P w <;> trivial
theorem calm_run {o : Oper} (h : calmB o = true) (ev : Operand → Value) (w : World) : isCalm ((execOp ev o).run P w) := by
 obtain ⟨dst, op, ty, pos, af, g⟩ := o
 cases op <;> first | (cases h; done) | exact calm_v | exact calm_u | trivial
theorem wpS_list {ops : Array Oper} {Q' : Post} {QS : Exit → Act → List Frame → World → Prop} {cs : List Frame} (hQ : ∀ e a w, Q' e a w → QS e a cs w) : ∀ (l : List Oper) (k : Nat), l.all calmB = true → (∀ j, l[j]? = ops[k + j]?) → ∀ (a : Act) (w : World), wpListIn (FW none) 0 P ops Q' l a w →
  wpOpsSIn (FW none) 0 P ops QS (List.range' k l.length) a cs w
 | [], k, _, _, a, w, h => hQ _ _ _ h
 | o :: l, k, hc, hk, a, w, h => by
  have h0 : ops[k]? = some o := by simpa using (hk 0).symm
  rw [List.all_cons, Bool.and_eq_true] at hc
  have ih := wpS_list (ops := ops) hQ l (k + 1) hc.2 (fun j => by have := hk (j + 1); simpa [Nat.add_assoc, Nat.add_comm 1 j] using this)
  rw [List.length_cons, List.range'_succ]
  simp only [wpOpsSIn, h0]
  simp only [wpListIn] at h
  refine ⟨fun _ _ => trivial, ?_⟩
  split at h
  ·rename_i hw
   rw [if_pos hw]
   have h2 := h.2
   have hcalm := calm_run (P := P) hc.1 a.eval w
   rw [show (o.semAt (FW none).round a.eval) = execOp a.eval o from rfl] at h2
   generalize (execOp a.eval o).run P w = r at h2 hcalm
   cases r with
   | ok x w' =>
    cases x <;> first | exact hcalm.elim | exact ih _ _ h2
   | halt hh w' =>
    cases hh <;> first | exact hQ _ _ _ h2 | exact h2.elim
  ·rename_i hw
   rw [if_neg hw]
   exact ih _ _ h.2
theorem QB_S {fn : Func} {c₀ : Frame} {cs : List Frame} {T : World → Prop} {u' : FrameMode} (hres : fn.results = #[]) {e : Exit} {a : Act} {w : World} (h : QB T e a w) :
  bodyPostS P fn c₀ cs (fun e u2 w' => e = .returned (.tuple #[]) ∧ u2 = u' ∧ T w') e a ({ c₀ with mode := u' } :: cs) w := by
 have hr : (results fn a.tmps).run P w = .ok (.tuple #[]) w := by
  rw [results_of, hres]; simp
 cases e <;> first | exact ⟨h.1, u', rfl, _, hr, rfl, rfl, h.2⟩ | exact h.elim
theorem CallsU_recover {f : FuncId} {fn : Func} {id : Nat} {ops : Array Oper} {l : List Oper} {y : Code} {d : Tmp} {ty : TypeId} {pos : String} {af : Array Edge} {tys : Array TypeId} {cap : List Value} {u u' : FrameMode} {v : Value} {T : World → Prop}
  (hf : P.funcs[f]? = some fn) (hb : fn.body = some (.seq (.region id ops false) y)) (hops : ops.toList = ⟨some d, .call ⟨.builtin .recover, #[], tys⟩, ty, pos, af, none⟩ :: l) (hcalm : l.all calmB = true) (hres : fn.results = #[]) (hn : fn.ntmps = n) (hl : Nat.ble cap.length n = true) (hd : Nat.blt d n = true)
  (hu : (u = .returning ∧ u' = .returning ∧ v = .nilIface) ∨ (u = .panicking (pan v) ∧ u' = .panicking [{ v := v, recovered := true }]))
  (h : WL P none ops (Exit.then (y.wpIn (FW none) 0 P (QB T)) (QB T)) n [] l ((d, true, v) :: iota 0 cap) w) : CallsU P f cap u w fun u2 w' => u2 = u' ∧ T w' := by
 refine callsDIn_of_wpSIn hf hb trivial fun c₀ cs hc => ?_
 have hfits : Fits n (iota 0 cap) { tmps := cap.toArray ++ Array.replicate (fn.ntmps - cap.toArray.size) undef, defers := [] } := by
  refine ⟨?_, fun t g v ht => ?_⟩
  ·have : cap.length ≤ n := by simpa using hl
   simp [hn]; omega
  ·obtain ⟨j, rfl, hv, rfl⟩ := look_iota cap 0 t g v ht
   have hj : j < cap.length := by
    rcases Nat.lt_or_ge j cap.length with h | h
    ·exact h
    ·rw [List.getElem?_eq_none h] at hv; cases hv
   simp only [gval, cond_true, Nat.zero_add, Array.getD_eq_getD_getElem?]
   rw [Array.getElem?_append_left (by simpa using hj)]
   simp [hv]
 have hd0 : ({ tmps := cap.toArray ++ Array.replicate (fn.ntmps - cap.toArray.size) undef, defers := [] } : Act).defers = [] := rfl
 generalize ({ tmps := cap.toArray ++ Array.replicate (fn.ntmps - cap.toArray.size) undef, defers := [] } : Act) = a0 at hfits hd0
 refine wpSIn_seq (wpSIn_region ?_)
 have hsz : ops.size = l.length + 1 := by rw [← Array.length_toList, hops]; rfl
 rw [hsz, List.range_eq_range', List.range'_succ]
 have h0 : ops[0]? = some ⟨some d, .call ⟨.builtin .recover, #[], tys⟩, ty, pos, af, none⟩ := by
  rw [← Array.getElem?_toList, hops]; rfl
 have hj : ∀ j, l[j]? = ops[1 + j]? := fun j => by
  rw [← Array.getElem?_toList, hops, Nat.add_comm 1 j]; rfl
 have hrun : (execOp a0.eval (⟨some d, .call ⟨.builtin .recover, #[], tys⟩, ty, pos, af, none⟩ : Oper)).run P w = .ok .recover w := by
  simp [execOp, resolve, invoke, builtin]
 have hput : Fits n ((d, true, v) :: iota 0 cap) (a0.put (some d) v) := hfits.put (g := true) (v := v) hd
 have hfin := wpS_list (cs := { c₀ with mode := u' } :: cs) (QS := Exit.thenS (y.wpSIn (FW none) 0 P (bodyPostS P fn c₀ cs fun e u2 w' => e = .returned (.tuple #[]) ∧ u2 = u' ∧ T w')) (bodyPostS P fn c₀ cs fun e u2 w' => e = .returned (.tuple #[]) ∧ u2 = u' ∧ T w'))
  (fun e a w hq => by
   cases e with
   | normal => exact wpSIn_of_wpIn rfl (Code.wpIn_mono (fun e a w hq => QB_S hres hq) hq)
   | exit i => exact False.elim hq
   | goto i => exact False.elim hq
   | ret => exact QB_S (P := P) (c₀ := c₀) (cs := cs) (u' := u') (T := T) (e := .ret) hres hq
   | panic i => exact False.elim hq
   | outgrown => exact False.elim hq) l 1 hcalm hj _ _ (h _ hput hd0)
 simp only [wpOpsSIn, h0]
 refine ⟨fun _ _ => trivial, ?_⟩
 rw [if_pos (by simp [Region.wanted]), hrun]
 rcases hu with ⟨h1, h2, h3⟩ | ⟨h1, h2⟩
 ·have hrec : recoverD (c₀ :: cs) = none := by simp [recoverD, hc, h1]
  have hce : ({ c₀ with mode := u' } : Frame) = c₀ := by rw [h2, ← h1, ← hc]
  simp only [hrec]
  rw [hce, h3] at hfin
  exact hfin
 ·have hrec : recoverD (c₀ :: cs) = some (v, { c₀ with mode := u' } :: cs) := by simp [recoverD, hc, h1, h2, pan]
  simp only [hrec]
  exact hfin
end
end Go.Proofs.YtdhgpnejphlfpaaDoor
namespace Go.Proofs.YtdhgpnejphlfpaaDoor
inductive Ex where
 | mk (op n at_ : Int) (l : List Ex)
instance : Inhabited Ex := ⟨.mk 0 0 0 []⟩
def Ex.op : Ex → Int
 | .mk o _ _ _ => o
def Ex.n : Ex → Int
 | .mk _ n _ _ => n
def Ex.at_ : Ex → Int
 | .mk _ _ a _ => a
def Ex.l : Ex → List Ex
 | .mk _ _ _ l => l
inductive ExRd (M : Nat → Prop) (w : World) : List Value → Ex → Prop
 | nil (op n a : Int) (ad : Option Addr) : ExRd M w [.int .i64 op, .int .i64 n, .int .i64 a, sl (ad, 0, 0)] (.mk op n a [])
 | some (op n a : Int) (l : List Ex) (b off cap : Nat) (cs : Array Value) (e : TypeId) (fr : Nat × Nat) (hM : ¬ M b) (hb : w.heap[b]? = some (.cells cs e fr)) (hc : l.length ≤ cap) (ho : off + cap * 4 ≤ cs.size)
   (hl : ((cs.toList.drop off).take (l.length * 4)).length = l.length * 4) (h : ∀ i (hi : i < l.length), ExRd M w ((((cs.toList.drop off).take (l.length * 4)).drop (i * 4)).take 4) l[i]) :
   ExRd M w [.int .i64 op, .int .i64 n, .int .i64 a, sl (some ⟨b, off, none⟩, l.length, cap)] (.mk op n a l)
theorem ExRd.len {M : Nat → Prop} {w : World} {vs : List Value} {x : Ex} (h : ExRd M w vs x) : vs.length = 4 := by cases h <;> rfl
theorem ExRd.mv {M M' : Nat → Prop} {w w' : World} {vs : List Value} {x : Ex} (h : ExRd M w vs x) (m : Mv M w M' w') : ExRd M' w' vs x := by
 induction h with
 | nil op n a ad => exact .nil op n a ad
 | some op n a l b off cap cs e fr hM hb hc ho hl _ ih =>
  obtain ⟨h1, h2⟩ := m.2 b (Array.getElem?_eq_some_iff.1 hb).1 hM
  exact .some op n a l b off cap cs e fr h1 (by rw [h2]; exact hb) hc ho hl ih
def RExpr : Rep Ex where
 n := 4
 rd := ExRd
 len := ExRd.len
 one h := by cases h <;> simp [Value.oneCell', sl]
 mv := ExRd.mv
theorem RExpr_open {M : Nat → Prop} {w : World} {vs : List Value} {x : Ex} (h : RExpr.rd M w vs x) : ∃ v : SLV, vs = [(.int .i64 x.op), (.int .i64 x.n), (.int .i64 x.at_), (sl v)] ∧ SRd RExpr M w (sl v) x.l := by
 cases h with
 | nil op n a ad => exact ⟨_, rfl, .inl ⟨⟨_, rfl⟩, rfl⟩⟩
 | some op n a l b off cap cs e fr hM hb hc ho hl h => exact ⟨_, rfl, .inr ⟨b, off, cap, cs, e, fr, rfl, hM, hb, hc, ho, hl, h⟩⟩
theorem RExpr_close {M : Nat → Prop} {w : World} {op n a : Int} {v : Value} {l : List Ex} (h : (RSl RExpr).rd M w [v] l) : RExpr.rd M w [(.int .i64 op), (.int .i64 n), (.int .i64 a), v] (.mk op n a l) := by
 obtain ⟨p, hp, h⟩ := h
 have hv : v = sl p := by simpa using hp
 subst hv
 rcases h with ⟨⟨ad, h⟩, rfl⟩ | ⟨b, off, cap, cs, e, fr, h, hM, hb, hc, ho, hl, hr⟩
 ·rw [h]; exact .nil op n a ad
 ·rw [h]; exact .some op n a l b off cap cs e fr hM hb hc ho hl hr
theorem RExpr_closeE {M : Nat → Prop} {w : World} {x : Ex} {v : Value} (h : (RSl RExpr).rd M w [v] x.l) : RExpr.rd M w [(.int .i64 x.op), (.int .i64 x.n), (.int .i64 x.at_), v] x := by
 have := RExpr_close (op := x.op) (n := x.n) (a := x.at_) h
 cases x; exact this
theorem Ex.eta (x : Ex) : Ex.mk x.op x.n x.at_ x.l = x := by cases x; rfl
end Go.Proofs.YtdhgpnejphlfpaaDoor
namespace Go.Proofs.YtdhgpnejphlfpaaDoor
def keysL : List Str := [[116, 114, 117, 101], [102, 97, 108, 115, 101], [88], [70], [71], [85], [82], [118, 97, 114], [112, 114, 111, 99]]
def textsL : List Str := [[], [], [], [43], [45], [42], [45], [61, 61], [33, 61], [60], [60, 61], [62], [62, 61], [116, 114, 117, 101], [102, 97, 108, 115, 101], [33], [38], [124], [45, 62], [60, 45, 62], [88], [70], [71], [85], [82]]
def eqT44 (x0 : Int) (x1 : Int) (y0 : Int) (y1 : Int) : Bool := x0 == y0 && x1 == y1
def lex_blank (c : Int) : Option Bool := letv (c == 32) fun b3 => letv (c == 9) fun b5 => letv (b3 || b5) fun b7 => letv (c == 10) fun b9 => letv (b7 || b9) fun b11 => letv (c == 13) fun b13 => letv (b11 || b13) fun b15 => some b15
def lex_Tokens_c1 (c : Int) : Option Bool := some (c != 10)
def lex_run_L1 (text : Str) (again5 : Int → Option Str) (t4 : Int) : Option Str := bif (decide (t4 < (List.length text : Int))) then ( chk (inB t4 (List.length text)) <| (lex_Tokens_c1 (byteAt text t4)).bind fun r8 => bif (!r8) then ( chk (cutB 0 t4 (List.length text)) <| some (cut text 0 t4)) else ( again5 (IntKind.i64.wrap (t4 + 1)))) else ( some text)
def lex_run (text : Str) : Option Str := fixN (lex_run_L1 text) FUEL 0
def lex_letter (c : Int) : Option Bool := letv (decide (97 ≤ c)) fun b3 => letv (decide (c ≤ 122)) fun b5 => letv (b3 && b5) fun b7 => letv (decide (65 ≤ c)) fun b9 => letv (decide (c ≤ 90)) fun b11 => letv (b9 && b11) fun b13 => letv (b7 || b13) fun b15 => letv (c == 95) fun b17 => letv (b15 || b17) fun b19 => some b19
def lex_digit (c : Int) : Option Bool := letv (decide (48 ≤ c)) fun b3 => letv (decide (c ≤ 57)) fun b5 => letv (b3 && b5) fun b7 => some b7
def lex_either (c : Int) : Option Bool := (lex_letter c).bind fun r3 => callG (!r3) default (lex_digit c) fun r6 => letv (r3 || r6) fun b12 => some b12
def lex_run_s2_L1 (text : Str) (again5 : Int → Option Str) (t4 : Int) : Option Str := bif (decide (t4 < (List.length text : Int))) then ( chk (inB t4 (List.length text)) <| (lex_either (byteAt text t4)).bind fun r8 => bif (!r8) then ( chk (cutB 0 t4 (List.length text)) <| some (cut text 0 t4)) else ( again5 (IntKind.i64.wrap (t4 + 1)))) else ( some text)
def lex_run_s2 (text : Str) : Option Str := fixN (lex_run_s2_L1 text) FUEL 0
def lex_run_s3_L1 (text : Str) (again5 : Int → Option Str) (t4 : Int) : Option Str := bif (decide (t4 < (List.length text : Int))) then ( chk (inB t4 (List.length text)) <| (lex_digit (byteAt text t4)).bind fun r8 => bif (!r8) then ( chk (cutB 0 t4 (List.length text)) <| some (cut text 0 t4)) else ( again5 (IntKind.i64.wrap (t4 + 1)))) else ( some text)
def lex_run_s3 (text : Str) : Option Str := fixN (lex_run_s3_L1 text) FUEL 0
def lex_value_L1 (s : Str) (again9 : (Int × Nat) → Option (Int × Bool)) : Int × Nat → Option (Int × Bool) := fun ⟨n7, p8⟩ => bif decide (p8 < List.length s) then ( bif (decide (1073741824 < (IntKind.i64.wrap ((IntKind.i64.wrap (10 * n7)) + (IntKind.i64.wrap (IntKind.i32.wrap ((runeAt s p8) - 48))))))) then ( some (0, false)) else ( again9 ((IntKind.i64.wrap ((IntKind.i64.wrap (10 * n7)) + (IntKind.i64.wrap (IntKind.i32.wrap ((runeAt s p8) - 48))))), (runePos s p8)))) else ( some (n7, true))
def lex_value (s : Str) : Option (Int × Bool) := fixN (lex_value_L1 s) FUEL (0, 0)
def lex_Signs : Option (List Str) := some ([[60, 45, 62], [45, 62], [61, 61], [33, 61], [60, 61], [62, 61], [60], [62], [61], [43], [45], [42], [40], [41], [123], [125], [59], [44], [58], [38], [124], [33]] : List Str)
def internal_stringslite_HasPrefix (s : Str) (prefix_ : Str) : Option Bool := letv (decide ((List.length prefix_ : Int) ≤ (List.length s : Int))) fun b3 => chkG b3 (cutB 0 (List.length prefix_ : Int) (List.length s)) <| letv ((cut s 0 (List.length prefix_ : Int)) == prefix_) fun b6 => letv (b3 && b6) fun b8 => some b8
def strings_HasPrefix (s : Str) (prefix_ : Str) : Option Bool := (internal_stringslite_HasPrefix s prefix_).bind fun r3 => some r3
def lex_sign_L1 (text : Str) (r3 : (List Str)) (again10 : Int → Option Str) (t9 : Int) : Option Str := bif (decide (t9 < (List.length r3 : Int))) then ( (idx r3 t9).bind fun e12 => (strings_HasPrefix text e12).bind fun r14 => bif r14 then ( some e12) else ( again10 (IntKind.i64.wrap (t9 + 1)))) else ( some [])
def lex_sign (text : Str) : Option Str := (lex_Signs).bind fun r3 => fixN (lex_sign_L1 text r3) FUEL 0
def lex_token (text : Str) : Option ((Int × Str × Int × Int) × Int) := chk (inB 0 (List.length text)) <| (lex_letter (byteAt text 0)).bind fun r7 => bif r7 then ( (lex_run_s2 text).bind fun r11 => bif (decide (32 < (List.length r11 : Int))) then ( some ((0, [], 0, 0), 9)) else ( some ((1, r11, 0, 0), 0))) else ( (lex_digit (byteAt text 0)).bind fun r17 => bif r17 then ( (lex_run_s3 text).bind fun r21 => (lex_value r21).bind fun r24 => bif (!r24.2) then ( some ((0, [], 0, 0), 9)) else ( some ((2, r21, r24.1, 0), 0))) else ( (lex_sign text).bind fun r30 => bif (r30 == []) then ( some ((0, [], 0, 0), 2)) else ( some ((3, r30, 0, 0), 0))))
def lex_Tokens_G1 (text : Str) (again13 : ((List (Int × Str × Int × Int)) × Int) → Option ((List (Int × Str × Int × Int)) × Int × Int)) : (List (Int × Str × Int × Int)) × Int → Option ((List (Int × Str × Int × Int)) × Int × Int) := fun ⟨out9, at12⟩ => letv (decide (at12 < (List.length text : Int))) fun b14 => chkG b14 (inB at12 (List.length text)) <| callG b14 default (lex_blank (byteAt text at12)) fun r17 => letv (b14 && r17) fun b23 => bif b23 then ( again13 (out9, (IntKind.i64.wrap (at12 + 1)))) else ( letv (decide (at12 < (List.length text : Int))) fun b26 => chkG b26 (inB at12 (List.length text)) <| letv ((byteAt text at12) == 35) fun b29 => letv (b26 && b29) fun b31 => bif b31 then ( chk (cutB at12 ((List.length text) : Int) (List.length text)) <| (lex_run (cut text at12 ((List.length text) : Int))).bind fun r35 => again13 (out9, (IntKind.i64.wrap (at12 + (List.length r35 : Int))))) else ( bif (decide (at12 < (List.length text : Int))) then ( chk (cutB at12 ((List.length text) : Int) (List.length text)) <| (lex_token (cut text at12 ((List.length text) : Int))).bind fun r40 => bif (r40.2 != 0) then ( some ([], r40.2, at12)) else ( chk (roomB (List.length out9 + List.length ([(r40.1.1, r40.1.2.1, r40.1.2.2.1, at12)] : List (Int × Str × Int × Int))) 40) <| again13 ((out9 ++ ([(r40.1.1, r40.1.2.1, r40.1.2.2.1, at12)] : List (Int × Str × Int × Int))), (IntKind.i64.wrap (at12 + (List.length r40.1.2.1 : Int)))))) else ( chk (roomB (List.length out9 + List.length ([(4, [], 0, at12)] : List (Int × Str × Int × Int))) 40) <| some ((out9 ++ ([(4, [], 0, at12)] : List (Int × Str × Int × Int))), 0, 0))))
def lex_Tokens (text : Str) : Option ((List (Int × Str × Int × Int)) × Int × Int) := bif (decide (65536 < (List.length text : Int))) then ( some ([], 9, 0)) else ( fixN (lex_Tokens_G1 text) FUEL ([], 0))
def model_read_next (l : (List (Int × Str × Int × Int))) (at_ : Int) (_Names : (List Str)) (_Schema : (List (Int × Int))) (_Init : (List Int)) (_Procs : (List Str)) (_Cmd : (List (Int × Ex × (List (Int × Ex))))) : Option (Int × Str × Int × Int) := (idx l at_).bind fun e7 => some e7
def model_read_is (kind : Int) (text : Str) (l : (List (Int × Str × Int × Int))) (at_ : Int) (Names : (List Str)) (Schema : (List (Int × Int))) (Init : (List Int)) (Procs : (List Str)) (Cmd : (List (Int × Ex × (List (Int × Ex))))) : Option Bool := (model_read_next l at_ Names Schema Init Procs Cmd).bind fun r3 => letv (r3.1 == kind) fun b6 => callG b6 default (model_read_next l at_ Names Schema Init Procs Cmd) fun r8 => letv (r8.2.1 == text) fun b14 => letv (b6 && b14) fun b16 => some b16
def model_read_stop (e : Int) (l : (List (Int × Str × Int × Int))) (at_ : Int) (Names : (List Str)) (Schema : (List (Int × Int))) (Init : (List Int)) (Procs : (List Str)) (Cmd : (List (Int × Ex × (List (Int × Ex))))) : Option (Except (Int × Int) Empty) := (model_read_next l at_ Names Schema Init Procs Cmd).bind fun r2 => some (.error (e, r2.2.2.2))
def slices_Index_string_string_L1 (s : (List Str)) (v3 : Str) (again5 : Int → Option Int) (t4 : Int) : Option Int := bif (decide (t4 < (List.length s : Int))) then ( (idx s t4).bind fun e7 => bif (v3 == e7) then ( some t4) else ( again5 (IntKind.i64.wrap (t4 + 1)))) else ( some (-1))
def slices_Index_string_string (s : (List Str)) (v3 : Str) : Option Int := fixN (slices_Index_string_string_L1 s v3) FUEL 0
def slices_Contains_string_string (s : (List Str)) (v3 : Str) : Option Bool := (slices_Index_string_string s v3).bind fun r3 => some (decide (0 ≤ r3))
def expr_Key (name : Str) : Option Bool := (slices_Contains_string_string keysL name).bind fun r3 => some r3
def slices_Index_string_string_s2_L1 (s : (List Str)) (v3 : Str) (again5 : Int → Option Int) (t4 : Int) : Option Int := bif (decide (t4 < (List.length s : Int))) then ( (idx s t4).bind fun e7 => bif (v3 == e7) then ( some t4) else ( again5 (IntKind.i64.wrap (t4 + 1)))) else ( some (-1))
def slices_Index_string_string_s2 (s : (List Str)) (v3 : Str) : Option Int := fixN (slices_Index_string_string_s2_L1 s v3) FUEL 0
def slices_Contains_string_string_s2 (s : (List Str)) (v3 : Str) : Option Bool := (slices_Index_string_string_s2 s v3).bind fun r3 => some (decide (0 ≤ r3))
def model_read_given (name : Str) (_l : (List (Int × Str × Int × Int))) (_at_ : Int) (Names : (List Str)) (_Schema : (List (Int × Int))) (_Init : (List Int)) (Procs : (List Str)) (_Cmd : (List (Int × Ex × (List (Int × Ex))))) : Option Bool := (slices_Contains_string_string_s2 Names name).bind fun r3 => callG (!r3) default (slices_Contains_string_string_s2 Procs name) fun r6 => letv (r3 || r6) fun b12 => some b12
def model_read_name_K1 (at_ : Int) (r4 : (Int × Str × Int × Int)) : Option (Except (Int × Int) (Str × Int)) := some (.ok (r4.2.1, (IntKind.i64.wrap (at_ + 1))))
def model_read_name (full : Bool) (l : (List (Int × Str × Int × Int))) (at_ : Int) (Names : (List Str)) (Schema : (List (Int × Int))) (Init : (List Int)) (Procs : (List Str)) (Cmd : (List (Int × Ex × (List (Int × Ex))))) : Option (Except (Int × Int) (Str × Int)) := (model_read_next l at_ Names Schema Init Procs Cmd).bind fun r4 => bif (r4.1 != 1) then ( bindE (model_read_stop 2 l at_ Names Schema Init Procs Cmd) fun r13 => r13.elim) else ( (expr_Key r4.2.1).bind fun r19 => callG (!r19) default (model_read_given r4.2.1 l at_ Names Schema Init Procs Cmd) fun r22 => letv (r19 || r22) fun b28 => bif b28 then ( bindE (model_read_stop 3 l at_ Names Schema Init Procs Cmd) fun r31 => r31.elim) else ( bif full then ( bindE (model_read_stop 9 l at_ Names Schema Init Procs Cmd) fun r38 => r38.elim) else ( model_read_name_K1 at_ r4)))
def model_read_number_K2 (r4 : Bool) (c8 : Int) (r9 : (Int × Str × Int × Int)) : Option (Except (Int × Int) (Int × Int)) := bif r4 then ( some (.ok ((IntKind.i64.wrap (0 - r9.2.2.1)), (IntKind.i64.wrap (c8 + 1))))) else ( some (.ok (r9.2.2.1, (IntKind.i64.wrap (c8 + 1)))))
def model_read_number_K1 (l : (List (Int × Str × Int × Int))) (Names : (List Str)) (Schema : (List (Int × Int))) (Init : (List Int)) (Procs : (List Str)) (Cmd : (List (Int × Ex × (List (Int × Ex))))) (r4 : Bool) (c8 : Int) : Option (Except (Int × Int) (Int × Int)) := (model_read_next l c8 Names Schema Init Procs Cmd).bind fun r9 => bif (r9.1 != 2) then ( bindE (model_read_stop 2 l c8 Names Schema Init Procs Cmd) fun r19 => r19.elim) else ( model_read_number_K2 r4 c8 r9)
def model_read_number (l : (List (Int × Str × Int × Int))) (at_ : Int) (Names : (List Str)) (Schema : (List (Int × Int))) (Init : (List Int)) (Procs : (List Str)) (Cmd : (List (Int × Ex × (List (Int × Ex))))) : Option (Except (Int × Int) (Int × Int)) := (model_read_is 3 [45] l at_ Names Schema Init Procs Cmd).bind fun r4 => bif r4 then ( model_read_number_K1 l Names Schema Init Procs Cmd r4 (IntKind.i64.wrap (at_ + 1))) else ( model_read_number_K1 l Names Schema Init Procs Cmd r4 at_)
def model_read_sign_K1 (at_ : Int) : Option (Except (Int × Int) Int) := some (.ok (IntKind.i64.wrap (at_ + 1)))
def model_read_sign (text : Str) (l : (List (Int × Str × Int × Int))) (at_ : Int) (Names : (List Str)) (Schema : (List (Int × Int))) (Init : (List Int)) (Procs : (List Str)) (Cmd : (List (Int × Ex × (List (Int × Ex))))) : Option (Except (Int × Int) Int) := (model_read_is 3 text l at_ Names Schema Init Procs Cmd).bind fun r5 => bif (!r5) then ( bindE (model_read_stop 2 l at_ Names Schema Init Procs Cmd) fun r9 => r9.elim) else ( model_read_sign_K1 at_)
def schema_span_may (f : (Int × Int)) : Option Bool := letv (decide (f.1 < (-1073741824))) fun b5 => letv (decide (1073741824 < f.2)) fun b7 => letv (b5 || b7) fun b9 => letv (!b9) fun b11 => letv (decide (f.1 ≤ f.2)) fun b13 => letv (b11 && b13) fun b15 => letv (decide ((IntKind.i64.wrap (f.2 - f.1)) < 65536)) fun b17 => letv (b15 && b17) fun b19 => some b19
def schema_each_bool_s2_L1 (s : (List (Int × Int))) (again12 : ((List Bool) × Int) → Option (List Bool)) : (List Bool) × Int → Option (List Bool) := fun ⟨l10, t11⟩ => bif (decide (t11 < (List.length s : Int))) then ( (idx s t11).bind fun e14 => (schema_span_may e14).bind fun r19 => (idx l10 t11).bind fun _e22 => again12 ((List.set l10 (Int.toNat t11) r19), (IntKind.i64.wrap (t11 + 1)))) else ( some l10)
def schema_each_bool_s2 (s : (List (Int × Int))) : Option (List Bool) := chk (decide (0 ≤ (List.length s : Int))) <| chk (roomB (Int.toNat (List.length s : Int)) 1) <| fixN (schema_each_bool_s2_L1 s) FUEL ((List.replicate (Int.toNat (List.length s : Int)) false), 0)
def slices_Index_bool_bool_L1 (s : (List Bool)) (v3 : Bool) (again5 : Int → Option Int) (t4 : Int) : Option Int := bif (decide (t4 < (List.length s : Int))) then ( (idx s t4).bind fun e7 => bif (v3 == e7) then ( some t4) else ( again5 (IntKind.i64.wrap (t4 + 1)))) else ( some (-1))
def slices_Index_bool_bool (s : (List Bool)) (v3 : Bool) : Option Int := fixN (slices_Index_bool_bool_L1 s v3) FUEL 0
def slices_Contains_bool_bool (s : (List Bool)) (v3 : Bool) : Option Bool := (slices_Index_bool_bool s v3).bind fun r3 => some (decide (0 ≤ r3))
def schema_Right_s2 (s : (List (Int × Int))) : Option Bool := letv (decide (1 ≤ (List.length s : Int))) fun b3 => letv (decide ((List.length s : Int) ≤ 17)) fun b5 => letv (b3 && b5) fun b7 => callG b7 default (schema_each_bool_s2 s) fun r9 => callG b7 default (slices_Contains_bool_bool r9 false) fun r18 => letv (!r18) fun b24 => letv (b7 && b24) fun b26 => some b26
def schema_span_has (f : (Int × Int)) (n : Int) : Option Bool := letv (decide (f.1 ≤ n)) fun b5 => letv (decide (n ≤ f.2)) fun b7 => letv (b5 && b7) fun b9 => some b9
def schema_In_s2_L1 (s : (List (Int × Int))) (v3 : (List Int)) (again6 : Int → Option Int) (t5 : Int) : Option Int := bif (decide (t5 < (List.length v3 : Int))) then ( (idx v3 t5).bind fun e8 => (idx s t5).bind fun e10 => (schema_span_has e10 e8).bind fun r12 => bif (!r12) then ( some 5) else ( again6 (IntKind.i64.wrap (t5 + 1)))) else ( some 0)
def schema_In_s2 (s : (List (Int × Int))) (v3 : (List Int)) : Option Int := bif ((List.length v3 : Int) != (List.length s : Int)) then ( some 1) else ( fixN (schema_In_s2_L1 s v3) FUEL 0)
def model_read_variable_K1 (Names : (List Str)) (Schema : (List (Int × Int))) (Init : (List Int)) (r13 : (Str × Int)) (r22 : (Int × Int)) (r28 : (Int × Int)) (r34 : (Int × Int)) (r42 : Int) : Option (Except (Int × Int) (Int × (List Str) × (List (Int × Int)) × (List Int))) := chk (roomB (List.length Names + List.length ([r13.1] : List Str)) 16) <| (idx ([(r22.1, r28.1)] : List (Int × Int)) 0).bind fun e58 => chk (roomB (List.length Schema + List.length ([e58] : List (Int × Int))) 16) <| chk (roomB (List.length Init + List.length ([r34.1] : List Int)) 8) <| some (.ok (r42, (Names ++ ([r13.1] : List Str)), (Schema ++ ([e58] : List (Int × Int))), (Init ++ ([r34.1] : List Int))))
def model_read_variable (l : (List (Int × Str × Int × Int))) (at_ : Int) (Names : (List Str)) (Schema : (List (Int × Int))) (Init : (List Int)) (Procs : (List Str)) (Cmd : (List (Int × Ex × (List (Int × Ex))))) : Option (Except (Int × Int) (Int × (List Str) × (List (Int × Int)) × (List Int))) := bindE (model_read_name (decide (16 ≤ (List.length Names : Int))) l at_ Names Schema Init Procs Cmd) fun r13 => (model_read_next l r13.2 Names Schema Init Procs Cmd).bind fun r19 => bindE (model_read_number l r13.2 Names Schema Init Procs Cmd) fun r22 => bindE (model_read_number l r22.2 Names Schema Init Procs Cmd) fun r28 => bindE (model_read_number l r28.2 Names Schema Init Procs Cmd) fun r34 => bindE (model_read_sign [59] l r34.2 Names Schema Init Procs Cmd) fun r42 => (schema_Right_s2 ([(r22.1, r28.1)] : List (Int × Int))).bind fun r74 => letv (!r74) fun b77 => callG (!b77) default (schema_In_s2 ([(r22.1, r28.1)] : List (Int × Int)) ([r34.1] : List Int)) fun r81 => letv (r81 != 0) fun b87 => letv (b77 || b87) fun b89 => bif b89 then ( some (.error (5, r19.2.2.2))) else ( model_read_variable_K1 Names Schema Init r13 r22 r28 r34 r42)
def expr_read_fail_s3 (e : Int) (l : (List (Int × Str × Int × Int))) (at_ : Int) (_names : (List Str)) (_deep : Int) (bad : Int) (place : Int) : Option (Ex × Int × Int) := bif (bad == 0) then ( (idx l at_).bind fun e12 => some ((Ex.mk 0 0 0 []), e, e12.2.2.2)) else ( some ((Ex.mk 0 0 0 []), bad, place))
def expr_read_next_s3 (l : (List (Int × Str × Int × Int))) (at_ : Int) (_names : (List Str)) (_deep : Int) (_bad : Int) (_place : Int) : Option (Int × Str × Int × Int) := (idx l at_).bind fun e7 => some e7
def expr_read_is_s3_L1 (ops : (List Int)) (r4 : (Int × Str × Int × Int)) (again29 : Int → Option (Int × Bool)) (t28 : Int) : Option (Int × Bool) := bif (decide (t28 < (List.length ops : Int))) then ( (idx ops t28).bind fun e31 => (idx textsL e31).bind fun e35 => bif (e35 == r4.2.1) then ( some (e31, true)) else ( again29 (IntKind.i64.wrap (t28 + 1)))) else ( some (0, false))
def expr_read_is_s3 (ops : (List Int)) (l : (List (Int × Str × Int × Int))) (at_ : Int) (names : (List Str)) (deep : Int) (bad : Int) (place : Int) : Option (Int × Bool) := (expr_read_next_s3 l at_ names deep bad place).bind fun r4 => letv (r4.1 != 3) fun b10 => letv (r4.1 == 1) fun b12 => callG (b10 && b12) default (expr_Key r4.2.1) fun r14 => letv (b12 && r14) fun b20 => letv (!b20) fun b22 => letv (b10 && b22) fun b24 => bif b24 then ( some (0, false)) else ( fixN (expr_read_is_s3_L1 ops r4) FUEL 0)
def expr_read_one_s3 (k_expr_read_lower_s11 : ((List (Int × Str × Int × Int)) × Int × (List Str) × Int × Int × Int) → Option (Ex × Int × Int × Int × Int)) (l : (List (Int × Str × Int × Int))) (at_ : Int) (names : (List Str)) (deep : Int) (bad : Int) (place : Int) : Option (Ex × Int × Int × Int × Int) := bif (bad != 0) then ( some ((Ex.mk 0 0 0 []), at_, deep, bad, place)) else ( (expr_read_next_s3 l at_ names deep bad place).bind fun r13 => (expr_read_is_s3 ([13, 14] : List Int) l at_ names deep bad place).bind fun r21 => bif r21.2 then ( some ((Ex.mk r21.1 0 r13.2.2.2 []), (IntKind.i64.wrap (at_ + 1)), deep, bad, place)) else ( bif (r13.1 == 2) then ( some ((Ex.mk 1 r13.2.2.1 r13.2.2.2 []), (IntKind.i64.wrap (at_ + 1)), deep, bad, place)) else ( letv (r13.1 == 1) fun b30 => callG b30 default (expr_Key r13.2.1) fun r32 => letv (!r32) fun b38 => letv (b30 && b38) fun b40 => bif b40 then ( (slices_Index_string_string_s2 names r13.2.1).bind fun r45 => bif (decide (r45 < 0)) then ( (expr_read_fail_s3 3 l at_ names deep bad place).bind fun r49 => some (r49.1, at_, deep, r49.2.1, r49.2.2)) else ( some ((Ex.mk 2 r45 r13.2.2.2 []), (IntKind.i64.wrap (at_ + 1)), deep, bad, place))) else ( letv (r13.1 == 3) fun b57 => letv (r13.2.1 == [40]) fun b59 => letv (b57 && b59) fun b61 => bif b61 then ( (k_expr_read_lower_s11 (l, (IntKind.i64.wrap (at_ + 1)), names, deep, bad, place)).bind fun r65 => letv (r65.2.2.2.1 == 0) fun b73 => callG b73 default (expr_read_next_s3 l r65.2.1 names r65.2.2.1 r65.2.2.2.1 r65.2.2.2.2) fun r75 => letv (r75.1 != 3) fun b81 => callG (b73 && !b81) default (expr_read_next_s3 l r65.2.1 names r65.2.2.1 r65.2.2.2.1 r65.2.2.2.2) fun r83 => letv (r83.2.1 != [41]) fun b89 => letv (b81 || b89) fun b91 => letv (b73 && b91) fun b93 => bif b93 then ( (expr_read_fail_s3 2 l r65.2.1 names r65.2.2.1 r65.2.2.2.1 r65.2.2.2.2).bind fun r96 => some (r96.1, r65.2.1, r65.2.2.1, r96.2.1, r96.2.2)) else ( bif (r65.2.2.2.1 == 0) then ( some (r65.1, (IntKind.i64.wrap (r65.2.1 + 1)), r65.2.2.1, r65.2.2.2.1, r65.2.2.2.2)) else ( some (r65.1, r65.2.1, r65.2.2.1, r65.2.2.2.1, r65.2.2.2.2)))) else ( (expr_read_fail_s3 2 l at_ names deep bad place).bind fun r106 => some (r106.1, at_, deep, r106.2.1, r106.2.2))))))
def expr_read_before_s6 (k_expr_read_lower_s11 : ((List (Int × Str × Int × Int)) × Int × (List Str) × Int × Int × Int) → Option (Ex × Int × Int × Int × Int)) (k_expr_read_lower_s15 : ((List (Int × Str × Int × Int)) × Int × (List Str) × Int × Int × Int) → Option (Ex × Int × Int × Int × Int)) (ops : (List Int)) (l : (List (Int × Str × Int × Int))) (at_ : Int) (names : (List Str)) (deep : Int) (bad : Int) (place : Int) : Option (Ex × Int × Int × Int × Int) := (expr_read_is_s3 ops l at_ names deep bad place).bind fun r11 => bif (!r11.2) then ( (expr_read_one_s3 k_expr_read_lower_s11 l at_ names deep bad place).bind fun r15 => some (r15.1, r15.2.1, r15.2.2.1, r15.2.2.2.1, r15.2.2.2.2)) else ( (expr_read_next_s3 l at_ names deep bad place).bind fun r21 => (k_expr_read_lower_s15 (l, (IntKind.i64.wrap (at_ + 1)), names, deep, bad, place)).bind fun r30 => some ((Ex.mk r11.1 0 r21.2.2.2 ([r30.1] : List Ex)), r30.2.1, r30.2.2.1, r30.2.2.2.1, r30.2.2.2.2))
def expr_read_neg_s3 (k_expr_read_lower_s11 : ((List (Int × Str × Int × Int)) × Int × (List Str) × Int × Int × Int) → Option (Ex × Int × Int × Int × Int)) (k_expr_read_lower_s15 : ((List (Int × Str × Int × Int)) × Int × (List Str) × Int × Int × Int) → Option (Ex × Int × Int × Int × Int)) (l : (List (Int × Str × Int × Int))) (at_ : Int) (names : (List Str)) (deep : Int) (bad : Int) (place : Int) : Option (Ex × Int × Int × Int × Int) := (expr_read_before_s6 k_expr_read_lower_s11 k_expr_read_lower_s15 ([6] : List Int) l at_ names deep bad place).bind fun r13 => some (r13.1, r13.2.1, r13.2.2.1, r13.2.2.2.1, r13.2.2.2.2)
def expr_read_lower_s15_F (k_expr_read_lower_s11 : ((List (Int × Str × Int × Int)) × Int × (List Str) × Int × Int × Int) → Option (Ex × Int × Int × Int × Int)) (k_expr_read_lower_s15 : ((List (Int × Str × Int × Int)) × Int × (List Str) × Int × Int × Int) → Option (Ex × Int × Int × Int × Int)) (l : (List (Int × Str × Int × Int))) (at_ : Int) (names : (List Str)) (deep : Int) (bad : Int) (place : Int) : Option (Ex × Int × Int × Int × Int) := bif (decide (320 ≤ deep)) then ( (expr_read_fail_s3 9 l at_ names deep bad place).bind fun r12 => some (r12.1, at_, deep, r12.2.1, r12.2.2)) else ( (expr_read_neg_s3 k_expr_read_lower_s11 k_expr_read_lower_s15 l at_ names (IntKind.i64.wrap (deep + 1)) bad place).bind fun r19 => some (r19.1, r19.2.1, (IntKind.i64.wrap (r19.2.2.1 - 1)), r19.2.2.2.1, r19.2.2.2.2))
def expr_read_lower_s15 (k_expr_read_lower_s11 : ((List (Int × Str × Int × Int)) × Int × (List Str) × Int × Int × Int) → Option (Ex × Int × Int × Int × Int)) (l : (List (Int × Str × Int × Int))) (at_ : Int) (names : (List Str)) (deep : Int) (bad : Int) (place : Int) : Option (Ex × Int × Int × Int × Int) :=
 fixN (fun k (s : ((List (Int × Str × Int × Int)) × Int × (List Str) × Int × Int × Int)) => expr_read_lower_s15_F k_expr_read_lower_s11 k s.1 s.2.1 s.2.2.1 s.2.2.2.1 s.2.2.2.2.1 s.2.2.2.2.2) FUEL (l, at_, names, deep, bad, place)
def expr_read_deepNeg_s3 (k_expr_read_lower_s11 : ((List (Int × Str × Int × Int)) × Int × (List Str) × Int × Int × Int) → Option (Ex × Int × Int × Int × Int)) (l : (List (Int × Str × Int × Int))) (at_ : Int) (names : (List Str)) (deep : Int) (bad : Int) (place : Int) : Option (Ex × Int × Int × Int × Int) := (expr_read_lower_s15 k_expr_read_lower_s11 l at_ names deep bad place).bind fun r11 => some (r11.1, r11.2.1, r11.2.2.1, r11.2.2.2.1, r11.2.2.2.2)
def expr_read_left_s12_L1 (k_expr_read_lower_s11 : ((List (Int × Str × Int × Int)) × Int × (List Str) × Int × Int × Int) → Option (Ex × Int × Int × Int × Int)) (ops : (List Int)) (l : (List (Int × Str × Int × Int))) (names : (List Str)) (again30 : (Int × Int × Int × Int × Int × Int × Int × (List Ex)) → Option (Ex × Int × Int × Int × Int)) : Int × Int × Int × Int × Int × Int × Int × (List Ex) → Option (Ex × Int × Int × Int × Int) := fun ⟨c20, c21, c22, c23, c24, c25, c26, c27⟩ => bif (c22 == 0) then ( (expr_read_is_s3 ops l c20 names c21 c22 c23).bind fun r32 => bif (!r32.2) then ( some ((Ex.mk c24 c25 c26 c27), c20, c21, c22, c23)) else ( (expr_read_next_s3 l c20 names c21 c22 c23).bind fun r37 => (expr_read_deepNeg_s3 k_expr_read_lower_s11 l (IntKind.i64.wrap (c20 + 1)) names c21 c22 c23).bind fun r44 => again30 (r44.2.1, r44.2.2.1, r44.2.2.2.1, r44.2.2.2.2, r32.1, 0, r37.2.2.2, ([(Ex.mk c24 c25 c26 c27), r44.1] : List Ex)))) else ( some ((Ex.mk c24 c25 c26 c27), c20, c21, c22, c23))
def expr_read_left_s12 (k_expr_read_lower_s11 : ((List (Int × Str × Int × Int)) × Int × (List Str) × Int × Int × Int) → Option (Ex × Int × Int × Int × Int)) (ops : (List Int)) (l : (List (Int × Str × Int × Int))) (at_ : Int) (names : (List Str)) (deep : Int) (bad : Int) (place : Int) : Option (Ex × Int × Int × Int × Int) := (expr_read_deepNeg_s3 k_expr_read_lower_s11 l at_ names deep bad place).bind fun r11 => fixN (expr_read_left_s12_L1 k_expr_read_lower_s11 ops l names) FUEL (r11.2.1, r11.2.2.1, r11.2.2.2.1, r11.2.2.2.2, r11.1.op, r11.1.n, r11.1.at_, r11.1.l)
def expr_read_prod_s3 (k_expr_read_lower_s11 : ((List (Int × Str × Int × Int)) × Int × (List Str) × Int × Int × Int) → Option (Ex × Int × Int × Int × Int)) (l : (List (Int × Str × Int × Int))) (at_ : Int) (names : (List Str)) (deep : Int) (bad : Int) (place : Int) : Option (Ex × Int × Int × Int × Int) := (expr_read_left_s12 k_expr_read_lower_s11 ([5] : List Int) l at_ names deep bad place).bind fun r13 => some (r13.1, r13.2.1, r13.2.2.1, r13.2.2.2.1, r13.2.2.2.2)
def expr_read_left_s11_L1 (k_expr_read_lower_s11 : ((List (Int × Str × Int × Int)) × Int × (List Str) × Int × Int × Int) → Option (Ex × Int × Int × Int × Int)) (ops : (List Int)) (l : (List (Int × Str × Int × Int))) (names : (List Str)) (again30 : (Int × Int × Int × Int × Int × Int × Int × (List Ex)) → Option (Ex × Int × Int × Int × Int)) : Int × Int × Int × Int × Int × Int × Int × (List Ex) → Option (Ex × Int × Int × Int × Int) := fun ⟨c20, c21, c22, c23, c24, c25, c26, c27⟩ => bif (c22 == 0) then ( (expr_read_is_s3 ops l c20 names c21 c22 c23).bind fun r32 => bif (!r32.2) then ( some ((Ex.mk c24 c25 c26 c27), c20, c21, c22, c23)) else ( (expr_read_next_s3 l c20 names c21 c22 c23).bind fun r37 => (expr_read_prod_s3 k_expr_read_lower_s11 l (IntKind.i64.wrap (c20 + 1)) names c21 c22 c23).bind fun r44 => again30 (r44.2.1, r44.2.2.1, r44.2.2.2.1, r44.2.2.2.2, r32.1, 0, r37.2.2.2, ([(Ex.mk c24 c25 c26 c27), r44.1] : List Ex)))) else ( some ((Ex.mk c24 c25 c26 c27), c20, c21, c22, c23))
def expr_read_left_s11 (k_expr_read_lower_s11 : ((List (Int × Str × Int × Int)) × Int × (List Str) × Int × Int × Int) → Option (Ex × Int × Int × Int × Int)) (ops : (List Int)) (l : (List (Int × Str × Int × Int))) (at_ : Int) (names : (List Str)) (deep : Int) (bad : Int) (place : Int) : Option (Ex × Int × Int × Int × Int) := (expr_read_prod_s3 k_expr_read_lower_s11 l at_ names deep bad place).bind fun r11 => fixN (expr_read_left_s11_L1 k_expr_read_lower_s11 ops l names) FUEL (r11.2.1, r11.2.2.1, r11.2.2.2.1, r11.2.2.2.2, r11.1.op, r11.1.n, r11.1.at_, r11.1.l)
def expr_read_sum_s3 (k_expr_read_lower_s11 : ((List (Int × Str × Int × Int)) × Int × (List Str) × Int × Int × Int) → Option (Ex × Int × Int × Int × Int)) (l : (List (Int × Str × Int × Int))) (at_ : Int) (names : (List Str)) (deep : Int) (bad : Int) (place : Int) : Option (Ex × Int × Int × Int × Int) := (expr_read_left_s11 k_expr_read_lower_s11 ([3, 4] : List Int) l at_ names deep bad place).bind fun r13 => some (r13.1, r13.2.1, r13.2.2.1, r13.2.2.2.1, r13.2.2.2.2)
def expr_read_cmp_s3 (k_expr_read_lower_s11 : ((List (Int × Str × Int × Int)) × Int × (List Str) × Int × Int × Int) → Option (Ex × Int × Int × Int × Int)) (l : (List (Int × Str × Int × Int))) (at_ : Int) (names : (List Str)) (deep : Int) (bad : Int) (place : Int) : Option (Ex × Int × Int × Int × Int) := (expr_read_sum_s3 k_expr_read_lower_s11 l at_ names deep bad place).bind fun r11 => (expr_read_is_s3 ([7, 8, 9, 10, 11, 12] : List Int) l r11.2.1 names r11.2.2.1 r11.2.2.2.1 r11.2.2.2.2).bind fun r21 => letv (r11.2.2.2.1 != 0) fun b24 => letv (!r21.2) fun b26 => letv (b24 || b26) fun b28 => bif b28 then ( some (r11.1, r11.2.1, r11.2.2.1, r11.2.2.2.1, r11.2.2.2.2)) else ( (expr_read_next_s3 l r11.2.1 names r11.2.2.1 r11.2.2.2.1 r11.2.2.2.2).bind fun r32 => (expr_read_sum_s3 k_expr_read_lower_s11 l (IntKind.i64.wrap (r11.2.1 + 1)) names r11.2.2.1 r11.2.2.2.1 r11.2.2.2.2).bind fun r39 => some ((Ex.mk r21.1 0 r32.2.2.2 ([r11.1, r39.1] : List Ex)), r39.2.1, r39.2.2.1, r39.2.2.2.1, r39.2.2.2.2))
def expr_read_before_s5 (k_expr_read_lower_s11 : ((List (Int × Str × Int × Int)) × Int × (List Str) × Int × Int × Int) → Option (Ex × Int × Int × Int × Int)) (k_expr_read_lower_s14 : ((List (Int × Str × Int × Int)) × Int × (List Str) × Int × Int × Int) → Option (Ex × Int × Int × Int × Int)) (ops : (List Int)) (l : (List (Int × Str × Int × Int))) (at_ : Int) (names : (List Str)) (deep : Int) (bad : Int) (place : Int) : Option (Ex × Int × Int × Int × Int) := (expr_read_is_s3 ops l at_ names deep bad place).bind fun r11 => bif (!r11.2) then ( (expr_read_cmp_s3 k_expr_read_lower_s11 l at_ names deep bad place).bind fun r15 => some (r15.1, r15.2.1, r15.2.2.1, r15.2.2.2.1, r15.2.2.2.2)) else ( (expr_read_next_s3 l at_ names deep bad place).bind fun r21 => (k_expr_read_lower_s14 (l, (IntKind.i64.wrap (at_ + 1)), names, deep, bad, place)).bind fun r30 => some ((Ex.mk r11.1 0 r21.2.2.2 ([r30.1] : List Ex)), r30.2.1, r30.2.2.1, r30.2.2.2.1, r30.2.2.2.2))
def expr_read_pre_s3 (k_expr_read_lower_s11 : ((List (Int × Str × Int × Int)) × Int × (List Str) × Int × Int × Int) → Option (Ex × Int × Int × Int × Int)) (k_expr_read_lower_s14 : ((List (Int × Str × Int × Int)) × Int × (List Str) × Int × Int × Int) → Option (Ex × Int × Int × Int × Int)) (l : (List (Int × Str × Int × Int))) (at_ : Int) (names : (List Str)) (deep : Int) (bad : Int) (place : Int) : Option (Ex × Int × Int × Int × Int) := (expr_read_before_s5 k_expr_read_lower_s11 k_expr_read_lower_s14 ([15, 20, 21, 22] : List Int) l at_ names deep bad place).bind fun r13 => some (r13.1, r13.2.1, r13.2.2.1, r13.2.2.2.1, r13.2.2.2.2)
def expr_read_lower_s14_F (k_expr_read_lower_s11 : ((List (Int × Str × Int × Int)) × Int × (List Str) × Int × Int × Int) → Option (Ex × Int × Int × Int × Int)) (k_expr_read_lower_s14 : ((List (Int × Str × Int × Int)) × Int × (List Str) × Int × Int × Int) → Option (Ex × Int × Int × Int × Int)) (l : (List (Int × Str × Int × Int))) (at_ : Int) (names : (List Str)) (deep : Int) (bad : Int) (place : Int) : Option (Ex × Int × Int × Int × Int) := bif (decide (320 ≤ deep)) then ( (expr_read_fail_s3 9 l at_ names deep bad place).bind fun r12 => some (r12.1, at_, deep, r12.2.1, r12.2.2)) else ( (expr_read_pre_s3 k_expr_read_lower_s11 k_expr_read_lower_s14 l at_ names (IntKind.i64.wrap (deep + 1)) bad place).bind fun r19 => some (r19.1, r19.2.1, (IntKind.i64.wrap (r19.2.2.1 - 1)), r19.2.2.2.1, r19.2.2.2.2))
def expr_read_lower_s14 (k_expr_read_lower_s11 : ((List (Int × Str × Int × Int)) × Int × (List Str) × Int × Int × Int) → Option (Ex × Int × Int × Int × Int)) (l : (List (Int × Str × Int × Int))) (at_ : Int) (names : (List Str)) (deep : Int) (bad : Int) (place : Int) : Option (Ex × Int × Int × Int × Int) :=
 fixN (fun k (s : ((List (Int × Str × Int × Int)) × Int × (List Str) × Int × Int × Int)) => expr_read_lower_s14_F k_expr_read_lower_s11 k s.1 s.2.1 s.2.2.1 s.2.2.2.1 s.2.2.2.2.1 s.2.2.2.2.2) FUEL (l, at_, names, deep, bad, place)
def expr_read_deepPre_s3 (k_expr_read_lower_s11 : ((List (Int × Str × Int × Int)) × Int × (List Str) × Int × Int × Int) → Option (Ex × Int × Int × Int × Int)) (l : (List (Int × Str × Int × Int))) (at_ : Int) (names : (List Str)) (deep : Int) (bad : Int) (place : Int) : Option (Ex × Int × Int × Int × Int) := (expr_read_lower_s14 k_expr_read_lower_s11 l at_ names deep bad place).bind fun r11 => some (r11.1, r11.2.1, r11.2.2.1, r11.2.2.2.1, r11.2.2.2.2)
def expr_read_right_s9 (k_expr_read_lower_s11 : ((List (Int × Str × Int × Int)) × Int × (List Str) × Int × Int × Int) → Option (Ex × Int × Int × Int × Int)) (k_expr_read_lower_s13 : ((List (Int × Str × Int × Int)) × Int × (List Str) × Int × Int × Int) → Option (Ex × Int × Int × Int × Int)) (ops : (List Int)) (l : (List (Int × Str × Int × Int))) (at_ : Int) (names : (List Str)) (deep : Int) (bad : Int) (place : Int) : Option (Ex × Int × Int × Int × Int) := (expr_read_deepPre_s3 k_expr_read_lower_s11 l at_ names deep bad place).bind fun r11 => (expr_read_is_s3 ops l r11.2.1 names r11.2.2.1 r11.2.2.2.1 r11.2.2.2.2).bind fun r19 => letv (r11.2.2.2.1 != 0) fun b22 => letv (!r19.2) fun b24 => letv (b22 || b24) fun b26 => bif b26 then ( some (r11.1, r11.2.1, r11.2.2.1, r11.2.2.2.1, r11.2.2.2.2)) else ( (expr_read_next_s3 l r11.2.1 names r11.2.2.1 r11.2.2.2.1 r11.2.2.2.2).bind fun r30 => (k_expr_read_lower_s13 (l, (IntKind.i64.wrap (r11.2.1 + 1)), names, r11.2.2.1, r11.2.2.2.1, r11.2.2.2.2)).bind fun r37 => some ((Ex.mk r19.1 0 r30.2.2.2 ([r11.1, r37.1] : List Ex)), r37.2.1, r37.2.2.1, r37.2.2.2.1, r37.2.2.2.2))
def expr_read_until_s3 (k_expr_read_lower_s11 : ((List (Int × Str × Int × Int)) × Int × (List Str) × Int × Int × Int) → Option (Ex × Int × Int × Int × Int)) (k_expr_read_lower_s13 : ((List (Int × Str × Int × Int)) × Int × (List Str) × Int × Int × Int) → Option (Ex × Int × Int × Int × Int)) (l : (List (Int × Str × Int × Int))) (at_ : Int) (names : (List Str)) (deep : Int) (bad : Int) (place : Int) : Option (Ex × Int × Int × Int × Int) := (expr_read_right_s9 k_expr_read_lower_s11 k_expr_read_lower_s13 ([23, 24] : List Int) l at_ names deep bad place).bind fun r13 => some (r13.1, r13.2.1, r13.2.2.1, r13.2.2.2.1, r13.2.2.2.2)
def expr_read_lower_s13_F (k_expr_read_lower_s11 : ((List (Int × Str × Int × Int)) × Int × (List Str) × Int × Int × Int) → Option (Ex × Int × Int × Int × Int)) (k_expr_read_lower_s13 : ((List (Int × Str × Int × Int)) × Int × (List Str) × Int × Int × Int) → Option (Ex × Int × Int × Int × Int)) (l : (List (Int × Str × Int × Int))) (at_ : Int) (names : (List Str)) (deep : Int) (bad : Int) (place : Int) : Option (Ex × Int × Int × Int × Int) := bif (decide (320 ≤ deep)) then ( (expr_read_fail_s3 9 l at_ names deep bad place).bind fun r12 => some (r12.1, at_, deep, r12.2.1, r12.2.2)) else ( (expr_read_until_s3 k_expr_read_lower_s11 k_expr_read_lower_s13 l at_ names (IntKind.i64.wrap (deep + 1)) bad place).bind fun r19 => some (r19.1, r19.2.1, (IntKind.i64.wrap (r19.2.2.1 - 1)), r19.2.2.2.1, r19.2.2.2.2))
def expr_read_lower_s13 (k_expr_read_lower_s11 : ((List (Int × Str × Int × Int)) × Int × (List Str) × Int × Int × Int) → Option (Ex × Int × Int × Int × Int)) (l : (List (Int × Str × Int × Int))) (at_ : Int) (names : (List Str)) (deep : Int) (bad : Int) (place : Int) : Option (Ex × Int × Int × Int × Int) :=
 fixN (fun k (s : ((List (Int × Str × Int × Int)) × Int × (List Str) × Int × Int × Int)) => expr_read_lower_s13_F k_expr_read_lower_s11 k s.1 s.2.1 s.2.2.1 s.2.2.2.1 s.2.2.2.2.1 s.2.2.2.2.2) FUEL (l, at_, names, deep, bad, place)
def expr_read_deepUntil_s3 (k_expr_read_lower_s11 : ((List (Int × Str × Int × Int)) × Int × (List Str) × Int × Int × Int) → Option (Ex × Int × Int × Int × Int)) (l : (List (Int × Str × Int × Int))) (at_ : Int) (names : (List Str)) (deep : Int) (bad : Int) (place : Int) : Option (Ex × Int × Int × Int × Int) := (expr_read_lower_s13 k_expr_read_lower_s11 l at_ names deep bad place).bind fun r11 => some (r11.1, r11.2.1, r11.2.2.1, r11.2.2.2.1, r11.2.2.2.2)
def expr_read_left_s10_L1 (k_expr_read_lower_s11 : ((List (Int × Str × Int × Int)) × Int × (List Str) × Int × Int × Int) → Option (Ex × Int × Int × Int × Int)) (ops : (List Int)) (l : (List (Int × Str × Int × Int))) (names : (List Str)) (again30 : (Int × Int × Int × Int × Int × Int × Int × (List Ex)) → Option (Ex × Int × Int × Int × Int)) : Int × Int × Int × Int × Int × Int × Int × (List Ex) → Option (Ex × Int × Int × Int × Int) := fun ⟨c20, c21, c22, c23, c24, c25, c26, c27⟩ => bif (c22 == 0) then ( (expr_read_is_s3 ops l c20 names c21 c22 c23).bind fun r32 => bif (!r32.2) then ( some ((Ex.mk c24 c25 c26 c27), c20, c21, c22, c23)) else ( (expr_read_next_s3 l c20 names c21 c22 c23).bind fun r37 => (expr_read_deepUntil_s3 k_expr_read_lower_s11 l (IntKind.i64.wrap (c20 + 1)) names c21 c22 c23).bind fun r44 => again30 (r44.2.1, r44.2.2.1, r44.2.2.2.1, r44.2.2.2.2, r32.1, 0, r37.2.2.2, ([(Ex.mk c24 c25 c26 c27), r44.1] : List Ex)))) else ( some ((Ex.mk c24 c25 c26 c27), c20, c21, c22, c23))
def expr_read_left_s10 (k_expr_read_lower_s11 : ((List (Int × Str × Int × Int)) × Int × (List Str) × Int × Int × Int) → Option (Ex × Int × Int × Int × Int)) (ops : (List Int)) (l : (List (Int × Str × Int × Int))) (at_ : Int) (names : (List Str)) (deep : Int) (bad : Int) (place : Int) : Option (Ex × Int × Int × Int × Int) := (expr_read_deepUntil_s3 k_expr_read_lower_s11 l at_ names deep bad place).bind fun r11 => fixN (expr_read_left_s10_L1 k_expr_read_lower_s11 ops l names) FUEL (r11.2.1, r11.2.2.1, r11.2.2.2.1, r11.2.2.2.2, r11.1.op, r11.1.n, r11.1.at_, r11.1.l)
def expr_read_and_s3 (k_expr_read_lower_s11 : ((List (Int × Str × Int × Int)) × Int × (List Str) × Int × Int × Int) → Option (Ex × Int × Int × Int × Int)) (l : (List (Int × Str × Int × Int))) (at_ : Int) (names : (List Str)) (deep : Int) (bad : Int) (place : Int) : Option (Ex × Int × Int × Int × Int) := (expr_read_left_s10 k_expr_read_lower_s11 ([16] : List Int) l at_ names deep bad place).bind fun r13 => some (r13.1, r13.2.1, r13.2.2.1, r13.2.2.2.1, r13.2.2.2.2)
def expr_read_left_s9_L1 (k_expr_read_lower_s11 : ((List (Int × Str × Int × Int)) × Int × (List Str) × Int × Int × Int) → Option (Ex × Int × Int × Int × Int)) (ops : (List Int)) (l : (List (Int × Str × Int × Int))) (names : (List Str)) (again30 : (Int × Int × Int × Int × Int × Int × Int × (List Ex)) → Option (Ex × Int × Int × Int × Int)) : Int × Int × Int × Int × Int × Int × Int × (List Ex) → Option (Ex × Int × Int × Int × Int) := fun ⟨c20, c21, c22, c23, c24, c25, c26, c27⟩ => bif (c22 == 0) then ( (expr_read_is_s3 ops l c20 names c21 c22 c23).bind fun r32 => bif (!r32.2) then ( some ((Ex.mk c24 c25 c26 c27), c20, c21, c22, c23)) else ( (expr_read_next_s3 l c20 names c21 c22 c23).bind fun r37 => (expr_read_and_s3 k_expr_read_lower_s11 l (IntKind.i64.wrap (c20 + 1)) names c21 c22 c23).bind fun r44 => again30 (r44.2.1, r44.2.2.1, r44.2.2.2.1, r44.2.2.2.2, r32.1, 0, r37.2.2.2, ([(Ex.mk c24 c25 c26 c27), r44.1] : List Ex)))) else ( some ((Ex.mk c24 c25 c26 c27), c20, c21, c22, c23))
def expr_read_left_s9 (k_expr_read_lower_s11 : ((List (Int × Str × Int × Int)) × Int × (List Str) × Int × Int × Int) → Option (Ex × Int × Int × Int × Int)) (ops : (List Int)) (l : (List (Int × Str × Int × Int))) (at_ : Int) (names : (List Str)) (deep : Int) (bad : Int) (place : Int) : Option (Ex × Int × Int × Int × Int) := (expr_read_and_s3 k_expr_read_lower_s11 l at_ names deep bad place).bind fun r11 => fixN (expr_read_left_s9_L1 k_expr_read_lower_s11 ops l names) FUEL (r11.2.1, r11.2.2.1, r11.2.2.2.1, r11.2.2.2.2, r11.1.op, r11.1.n, r11.1.at_, r11.1.l)
def expr_read_or_s3 (k_expr_read_lower_s11 : ((List (Int × Str × Int × Int)) × Int × (List Str) × Int × Int × Int) → Option (Ex × Int × Int × Int × Int)) (l : (List (Int × Str × Int × Int))) (at_ : Int) (names : (List Str)) (deep : Int) (bad : Int) (place : Int) : Option (Ex × Int × Int × Int × Int) := (expr_read_left_s9 k_expr_read_lower_s11 ([17] : List Int) l at_ names deep bad place).bind fun r13 => some (r13.1, r13.2.1, r13.2.2.1, r13.2.2.2.1, r13.2.2.2.2)
def expr_read_right_s8 (k_expr_read_lower_s11 : ((List (Int × Str × Int × Int)) × Int × (List Str) × Int × Int × Int) → Option (Ex × Int × Int × Int × Int)) (k_expr_read_lower_s12 : ((List (Int × Str × Int × Int)) × Int × (List Str) × Int × Int × Int) → Option (Ex × Int × Int × Int × Int)) (ops : (List Int)) (l : (List (Int × Str × Int × Int))) (at_ : Int) (names : (List Str)) (deep : Int) (bad : Int) (place : Int) : Option (Ex × Int × Int × Int × Int) := (expr_read_or_s3 k_expr_read_lower_s11 l at_ names deep bad place).bind fun r11 => (expr_read_is_s3 ops l r11.2.1 names r11.2.2.1 r11.2.2.2.1 r11.2.2.2.2).bind fun r19 => letv (r11.2.2.2.1 != 0) fun b22 => letv (!r19.2) fun b24 => letv (b22 || b24) fun b26 => bif b26 then ( some (r11.1, r11.2.1, r11.2.2.1, r11.2.2.2.1, r11.2.2.2.2)) else ( (expr_read_next_s3 l r11.2.1 names r11.2.2.1 r11.2.2.2.1 r11.2.2.2.2).bind fun r30 => (k_expr_read_lower_s12 (l, (IntKind.i64.wrap (r11.2.1 + 1)), names, r11.2.2.1, r11.2.2.2.1, r11.2.2.2.2)).bind fun r37 => some ((Ex.mk r19.1 0 r30.2.2.2 ([r11.1, r37.1] : List Ex)), r37.2.1, r37.2.2.1, r37.2.2.2.1, r37.2.2.2.2))
def expr_read_imp_s3 (k_expr_read_lower_s11 : ((List (Int × Str × Int × Int)) × Int × (List Str) × Int × Int × Int) → Option (Ex × Int × Int × Int × Int)) (k_expr_read_lower_s12 : ((List (Int × Str × Int × Int)) × Int × (List Str) × Int × Int × Int) → Option (Ex × Int × Int × Int × Int)) (l : (List (Int × Str × Int × Int))) (at_ : Int) (names : (List Str)) (deep : Int) (bad : Int) (place : Int) : Option (Ex × Int × Int × Int × Int) := (expr_read_right_s8 k_expr_read_lower_s11 k_expr_read_lower_s12 ([18] : List Int) l at_ names deep bad place).bind fun r13 => some (r13.1, r13.2.1, r13.2.2.1, r13.2.2.2.1, r13.2.2.2.2)
def expr_read_lower_s12_F (k_expr_read_lower_s11 : ((List (Int × Str × Int × Int)) × Int × (List Str) × Int × Int × Int) → Option (Ex × Int × Int × Int × Int)) (k_expr_read_lower_s12 : ((List (Int × Str × Int × Int)) × Int × (List Str) × Int × Int × Int) → Option (Ex × Int × Int × Int × Int)) (l : (List (Int × Str × Int × Int))) (at_ : Int) (names : (List Str)) (deep : Int) (bad : Int) (place : Int) : Option (Ex × Int × Int × Int × Int) := bif (decide (320 ≤ deep)) then ( (expr_read_fail_s3 9 l at_ names deep bad place).bind fun r12 => some (r12.1, at_, deep, r12.2.1, r12.2.2)) else ( (expr_read_imp_s3 k_expr_read_lower_s11 k_expr_read_lower_s12 l at_ names (IntKind.i64.wrap (deep + 1)) bad place).bind fun r19 => some (r19.1, r19.2.1, (IntKind.i64.wrap (r19.2.2.1 - 1)), r19.2.2.2.1, r19.2.2.2.2))
def expr_read_lower_s12 (k_expr_read_lower_s11 : ((List (Int × Str × Int × Int)) × Int × (List Str) × Int × Int × Int) → Option (Ex × Int × Int × Int × Int)) (l : (List (Int × Str × Int × Int))) (at_ : Int) (names : (List Str)) (deep : Int) (bad : Int) (place : Int) : Option (Ex × Int × Int × Int × Int) :=
 fixN (fun k (s : ((List (Int × Str × Int × Int)) × Int × (List Str) × Int × Int × Int)) => expr_read_lower_s12_F k_expr_read_lower_s11 k s.1 s.2.1 s.2.2.1 s.2.2.2.1 s.2.2.2.2.1 s.2.2.2.2.2) FUEL (l, at_, names, deep, bad, place)
def expr_read_deepImp_s3 (k_expr_read_lower_s11 : ((List (Int × Str × Int × Int)) × Int × (List Str) × Int × Int × Int) → Option (Ex × Int × Int × Int × Int)) (l : (List (Int × Str × Int × Int))) (at_ : Int) (names : (List Str)) (deep : Int) (bad : Int) (place : Int) : Option (Ex × Int × Int × Int × Int) := (expr_read_lower_s12 k_expr_read_lower_s11 l at_ names deep bad place).bind fun r11 => some (r11.1, r11.2.1, r11.2.2.1, r11.2.2.2.1, r11.2.2.2.2)
def expr_read_right_s7 (k_expr_read_lower_s11 : ((List (Int × Str × Int × Int)) × Int × (List Str) × Int × Int × Int) → Option (Ex × Int × Int × Int × Int)) (ops : (List Int)) (l : (List (Int × Str × Int × Int))) (at_ : Int) (names : (List Str)) (deep : Int) (bad : Int) (place : Int) : Option (Ex × Int × Int × Int × Int) := (expr_read_deepImp_s3 k_expr_read_lower_s11 l at_ names deep bad place).bind fun r11 => (expr_read_is_s3 ops l r11.2.1 names r11.2.2.1 r11.2.2.2.1 r11.2.2.2.2).bind fun r19 => letv (r11.2.2.2.1 != 0) fun b22 => letv (!r19.2) fun b24 => letv (b22 || b24) fun b26 => bif b26 then ( some (r11.1, r11.2.1, r11.2.2.1, r11.2.2.2.1, r11.2.2.2.2)) else ( (expr_read_next_s3 l r11.2.1 names r11.2.2.1 r11.2.2.2.1 r11.2.2.2.2).bind fun r30 => (k_expr_read_lower_s11 (l, (IntKind.i64.wrap (r11.2.1 + 1)), names, r11.2.2.1, r11.2.2.2.1, r11.2.2.2.2)).bind fun r37 => some ((Ex.mk r19.1 0 r30.2.2.2 ([r11.1, r37.1] : List Ex)), r37.2.1, r37.2.2.1, r37.2.2.2.1, r37.2.2.2.2))
def expr_read_iff_s3 (k_expr_read_lower_s11 : ((List (Int × Str × Int × Int)) × Int × (List Str) × Int × Int × Int) → Option (Ex × Int × Int × Int × Int)) (l : (List (Int × Str × Int × Int))) (at_ : Int) (names : (List Str)) (deep : Int) (bad : Int) (place : Int) : Option (Ex × Int × Int × Int × Int) := (expr_read_right_s7 k_expr_read_lower_s11 ([19] : List Int) l at_ names deep bad place).bind fun r13 => some (r13.1, r13.2.1, r13.2.2.1, r13.2.2.2.1, r13.2.2.2.2)
def expr_read_lower_s11_F (k_expr_read_lower_s11 : ((List (Int × Str × Int × Int)) × Int × (List Str) × Int × Int × Int) → Option (Ex × Int × Int × Int × Int)) (l : (List (Int × Str × Int × Int))) (at_ : Int) (names : (List Str)) (deep : Int) (bad : Int) (place : Int) : Option (Ex × Int × Int × Int × Int) := bif (decide (320 ≤ deep)) then ( (expr_read_fail_s3 9 l at_ names deep bad place).bind fun r12 => some (r12.1, at_, deep, r12.2.1, r12.2.2)) else ( (expr_read_iff_s3 k_expr_read_lower_s11 l at_ names (IntKind.i64.wrap (deep + 1)) bad place).bind fun r19 => some (r19.1, r19.2.1, (IntKind.i64.wrap (r19.2.2.1 - 1)), r19.2.2.2.1, r19.2.2.2.2))
def expr_read_lower_s11 (l : (List (Int × Str × Int × Int))) (at_ : Int) (names : (List Str)) (deep : Int) (bad : Int) (place : Int) : Option (Ex × Int × Int × Int × Int) :=
 fixN (fun k (s : ((List (Int × Str × Int × Int)) × Int × (List Str) × Int × Int × Int)) => expr_read_lower_s11_F k s.1 s.2.1 s.2.2.1 s.2.2.2.1 s.2.2.2.2.1 s.2.2.2.2.2) FUEL (l, at_, names, deep, bad, place)
def expr_Parse_s3 (l : (List (Int × Str × Int × Int))) (at_ : Int) (names : (List Str)) : Option (Ex × Int × Int × Int) := (expr_read_lower_s11 l at_ names 0 0 0).bind fun r13 => bif (r13.2.2.2.1 != 0) then ( some ((Ex.mk 0 0 0 []), 0, r13.2.2.2.1, r13.2.2.2.2)) else ( some (r13.1, r13.2.1, 0, 0))
def expr_Type_K2 (e : Ex) (times10 : Bool) (t45 : Bool) : Option (Int × Int × Int) := bif t45 then ( some (2, 0, 0)) else ( letv (decide (15 ≤ e.op)) fun b47 => letv (b47 && times10) fun b49 => bif b49 then ( some (3, 0, 0)) else ( some (0, 4, e.at_)))
def expr_Type_L1 (k_expr_Type : Ex → Option (Int × Int × Int)) (e : Ex) (again12 : (Bool × Bool × Bool × Int) → Option (Int × Int × Int)) : Bool × Bool × Bool × Int → Option (Int × Int × Int) := fun ⟨ints8, bools9, times10, t11⟩ => bif (decide (t11 < (List.length e.l : Int))) then ( (idx e.l t11).bind fun e14 => (k_expr_Type e14).bind fun r23 => bif (r23.2.1 != 0) then ( some (0, r23.2.1, r23.2.2)) else ( letv (r23.1 == 1) fun b27 => letv (ints8 && b27) fun b29 => letv (r23.1 == 2) fun b31 => letv (bools9 && b31) fun b33 => letv (r23.1 != 1) fun b35 => letv (times10 && b35) fun b37 => again12 (b29, b33, b37, (IntKind.i64.wrap (t11 + 1))))) else ( letv (decide (e.op ≤ 6)) fun b39 => letv (b39 && ints8) fun b41 => bif b41 then ( some (1, 0, 0)) else ( letv (decide (6 < e.op)) fun b54 => letv (decide (e.op ≤ 12)) fun b56 => letv (b54 && b56) fun b58 => letv (b58 && ints8) fun b60 => bif b60 then ( expr_Type_K2 e times10 b60) else ( bif (e.op == 13) then ( expr_Type_K2 e times10 (e.op == 13)) else ( bif (e.op == 14) then ( expr_Type_K2 e times10 (e.op == 14)) else ( letv (decide (15 ≤ e.op)) fun b65 => letv (decide (e.op ≤ 19)) fun b67 => letv (b65 && b67) fun b69 => letv (b69 && bools9) fun b71 => expr_Type_K2 e times10 b71)))))
def expr_Type_F (k_expr_Type : Ex → Option (Int × Int × Int)) (e : Ex) : Option (Int × Int × Int) := fixN (expr_Type_L1 k_expr_Type e) FUEL (true, true, true, 0)
def expr_Type (e : Ex) : Option (Int × Int × Int) :=
 fixN (fun k (s : Ex) => expr_Type_F k s) FUEL e
def expr_Type_s2_K2 (e : Ex) (times10 : Bool) (t45 : Bool) : Option (Int × Int × Int) := bif t45 then ( some (2, 0, 0)) else ( letv (decide (15 ≤ e.op)) fun b47 => letv (b47 && times10) fun b49 => bif b49 then ( some (3, 0, 0)) else ( some (0, 4, e.at_)))
def expr_Type_s2_L1 (e : Ex) (again12 : (Bool × Bool × Bool × Int) → Option (Int × Int × Int)) : Bool × Bool × Bool × Int → Option (Int × Int × Int) := fun ⟨ints8, bools9, times10, t11⟩ => bif (decide (t11 < (List.length e.l : Int))) then ( (idx e.l t11).bind fun e14 => (expr_Type e14).bind fun r23 => bif (r23.2.1 != 0) then ( some (0, r23.2.1, r23.2.2)) else ( letv (r23.1 == 1) fun b27 => letv (ints8 && b27) fun b29 => letv (r23.1 == 2) fun b31 => letv (bools9 && b31) fun b33 => letv (r23.1 != 1) fun b35 => letv (times10 && b35) fun b37 => again12 (b29, b33, b37, (IntKind.i64.wrap (t11 + 1))))) else ( letv (decide (e.op ≤ 6)) fun b39 => letv (b39 && ints8) fun b41 => bif b41 then ( some (1, 0, 0)) else ( letv (decide (6 < e.op)) fun b54 => letv (decide (e.op ≤ 12)) fun b56 => letv (b54 && b56) fun b58 => letv (b58 && ints8) fun b60 => bif b60 then ( expr_Type_s2_K2 e times10 b60) else ( bif (e.op == 13) then ( expr_Type_s2_K2 e times10 (e.op == 13)) else ( bif (e.op == 14) then ( expr_Type_s2_K2 e times10 (e.op == 14)) else ( letv (decide (15 ≤ e.op)) fun b65 => letv (decide (e.op ≤ 19)) fun b67 => letv (b65 && b67) fun b69 => letv (b69 && bools9) fun b71 => expr_Type_s2_K2 e times10 b71)))))
def expr_Type_s2 (e : Ex) : Option (Int × Int × Int) := fixN (expr_Type_s2_L1 e) FUEL (true, true, true, 0)
def model_read_expression_K3 (r10 : (Ex × Int × Int × Int)) : Option (Except (Int × Int) (Ex × Int)) := some (.ok (r10.1, r10.2.1))
def model_read_expression_K2 (want : Int) (_at_ : Int) (r10 : (Ex × Int × Int × Int)) (r19 : (Int × Int × Int)) : Option (Except (Int × Int) (Ex × Int)) := bif (r19.1 != want) then ( some (.error (4, r10.1.at_))) else ( model_read_expression_K3 r10)
def model_read_expression_K1 (want : Int) (at_ : Int) (r10 : (Ex × Int × Int × Int)) : Option (Except (Int × Int) (Ex × Int)) := (expr_Type_s2 r10.1).bind fun r19 => bif (r19.2.1 != 0) then ( some (.error r19.2)) else ( model_read_expression_K2 want at_ r10 r19)
def model_read_expression (want : Int) (l : (List (Int × Str × Int × Int))) (at_ : Int) (Names : (List Str)) (_Schema : (List (Int × Int))) (_Init : (List Int)) (_Procs : (List Str)) (_Cmd : (List (Int × Ex × (List (Int × Ex))))) : Option (Except (Int × Int) (Ex × Int)) := (expr_Parse_s3 l at_ Names).bind fun r10 => bif (r10.2.2.1 != 0) then ( some (.error r10.2.2)) else ( model_read_expression_K1 want at_ r10)
def model_read_assignment_c1 (s : (Int × Ex)) (x : Int) : Option Bool := some (s.1 == x)
def slices_IndexFunc_api_Set_api_Set_s2_L1 (s : (List (Int × Ex))) (c : Int) (again5 : Int → Option Int) (t4 : Int) : Option Int := bif (decide (t4 < (List.length s : Int))) then ( (idx s t4).bind fun e7 => (model_read_assignment_c1 e7 c).bind fun r13 => bif r13 then ( some t4) else ( again5 (IntKind.i64.wrap (t4 + 1)))) else ( some (-1))
def slices_IndexFunc_api_Set_api_Set_s2 (s : (List (Int × Ex))) (c : Int) : Option Int := fixN (slices_IndexFunc_api_Set_api_Set_s2_L1 s c) FUEL 0
def slices_ContainsFunc_api_Set_api_Set_s2 (s : (List (Int × Ex))) (c : Int) : Option Bool := (slices_IndexFunc_api_Set_api_Set_s2 s c).bind fun r3 => some (decide (0 ≤ r3))
def model_read_assignment_s2_K2 (l : (List (Int × Str × Int × Int))) (at_ : Int) (Names : (List Str)) (Schema : (List (Int × Int))) (Init : (List Int)) (Procs : (List Str)) (Cmd : (List (Int × Ex × (List (Int × Ex))))) (r17 : Int) : Option (Except (Int × Int) ((Int × Ex) × Int)) := bindE (model_read_sign [61] l (IntKind.i64.wrap (at_ + 1)) Names Schema Init Procs Cmd) fun r25 => bindE (model_read_expression 1 l r25 Names Schema Init Procs Cmd) fun r33 => some (.ok ((r17, r33.1), r33.2))
def model_read_assignment_s2_K1 (ahead : (List (Int × Ex))) (l : (List (Int × Str × Int × Int))) (at_ : Int) (Names : (List Str)) (Schema : (List (Int × Int))) (Init : (List Int)) (Procs : (List Str)) (Cmd : (List (Int × Ex × (List (Int × Ex))))) (r8 : (Int × Str × Int × Int)) : Option (Except (Int × Int) ((Int × Ex) × Int)) := (slices_Index_string_string_s2 Names r8.2.1).bind fun r17 => letv (decide (r17 < 0)) fun b42 => callG (!b42) default (slices_ContainsFunc_api_Set_api_Set_s2 ahead r17) fun r44 => letv (b42 || r44) fun b50 => bif b50 then ( bindE (model_read_stop 3 l at_ Names Schema Init Procs Cmd) fun r53 => r53.elim) else ( model_read_assignment_s2_K2 l at_ Names Schema Init Procs Cmd r17)
def model_read_assignment_s2 (ahead : (List (Int × Ex))) (l : (List (Int × Str × Int × Int))) (at_ : Int) (Names : (List Str)) (Schema : (List (Int × Int))) (Init : (List Int)) (Procs : (List Str)) (Cmd : (List (Int × Ex × (List (Int × Ex))))) : Option (Except (Int × Int) ((Int × Ex) × Int)) := (model_read_next l at_ Names Schema Init Procs Cmd).bind fun r8 => bif (r8.1 != 1) then ( bindE (model_read_stop 2 l at_ Names Schema Init Procs Cmd) fun r102 => r102.elim) else ( model_read_assignment_s2_K1 ahead l at_ Names Schema Init Procs Cmd r8)
def model_read_command_L2 (l : (List (Int × Str × Int × Int))) (Names : (List Str)) (Schema : (List (Int × Int))) (Init : (List Int)) (Procs : (List Str)) (Cmd : (List (Int × Ex × (List (Int × Ex))))) (r10 : (Ex × Int)) (again32 : (Int × (List (Int × Ex))) → Option (Except (Int × Int) (Int × (List (Int × Ex × (List (Int × Ex))))))) : Int × (List (Int × Ex)) → Option (Except (Int × Int) (Int × (List (Int × Ex × (List (Int × Ex)))))) := fun ⟨c28, l29⟩ => bindE (model_read_assignment_s2 l29 l c28 Names Schema Init Procs Cmd) fun r35 => chk (roomB (List.length l29 + List.length ([r35.1] : List (Int × Ex))) 56) <| (model_read_is 3 [59] l r35.2 Names Schema Init Procs Cmd).bind fun r50 => bif r50 then ( chk (roomB (List.length Cmd + List.length ([((IntKind.i64.wrap ((List.length Procs : Int) - 1)), r10.1, (l29 ++ ([r35.1] : List (Int × Ex))))] : List (Int × Ex × (List (Int × Ex))))) 80) <| some (.ok ((IntKind.i64.wrap (r35.2 + 1)), (Cmd ++ ([((IntKind.i64.wrap ((List.length Procs : Int) - 1)), r10.1, (l29 ++ ([r35.1] : List (Int × Ex))))] : List (Int × Ex × (List (Int × Ex)))))))) else ( bindE (model_read_sign [44] l r35.2 Names Schema Init Procs Cmd) fun r64 => again32 (r64, (l29 ++ ([r35.1] : List (Int × Ex)))))
def model_read_command_K1 (l : (List (Int × Str × Int × Int))) (at_ : Int) (Names : (List Str)) (Schema : (List (Int × Int))) (Init : (List Int)) (Procs : (List Str)) (Cmd : (List (Int × Ex × (List (Int × Ex))))) : Option (Except (Int × Int) (Int × (List (Int × Ex × (List (Int × Ex)))))) := bindE (model_read_expression 2 l at_ Names Schema Init Procs Cmd) fun r10 => bindE (model_read_sign [58] l r10.2 Names Schema Init Procs Cmd) fun r21 => fixN (model_read_command_L2 l Names Schema Init Procs Cmd r10) FUEL (r21, [])
def model_read_command (l : (List (Int × Str × Int × Int))) (at_ : Int) (Names : (List Str)) (Schema : (List (Int × Int))) (Init : (List Int)) (Procs : (List Str)) (Cmd : (List (Int × Ex × (List (Int × Ex))))) : Option (Except (Int × Int) (Int × (List (Int × Ex × (List (Int × Ex)))))) := bif (decide (256 ≤ (List.length Cmd : Int))) then ( bindE (model_read_stop 9 l at_ Names Schema Init Procs Cmd) fun r131 => r131.elim) else ( model_read_command_K1 l at_ Names Schema Init Procs Cmd)
def model_read_process_L1 (l : (List (Int × Str × Int × Int))) (Names : (List Str)) (Schema : (List (Int × Int))) (Init : (List Int)) (Procs : (List Str)) (r12 : (Str × Int)) (again36 : (Int × (List (Int × Ex × (List (Int × Ex))))) → Option (Except (Int × Int) (Int × (List Str) × (List (Int × Ex × (List (Int × Ex))))))) : Int × (List (Int × Ex × (List (Int × Ex)))) → Option (Except (Int × Int) (Int × (List Str) × (List (Int × Ex × (List (Int × Ex)))))) := fun ⟨c32, c33⟩ => (model_read_is 3 [125] l c32 Names Schema Init (Procs ++ ([r12.1] : List Str)) c33).bind fun r37 => bif (!r37) then ( bindE (model_read_command l c32 Names Schema Init (Procs ++ ([r12.1] : List Str)) c33) fun r41 => again36 (r41.1, r41.2)) else ( some (.ok ((IntKind.i64.wrap (c32 + 1)), (Procs ++ ([r12.1] : List Str)), c33)))
def model_read_process (l : (List (Int × Str × Int × Int))) (at_ : Int) (Names : (List Str)) (Schema : (List (Int × Int))) (Init : (List Int)) (Procs : (List Str)) (Cmd : (List (Int × Ex × (List (Int × Ex))))) : Option (Except (Int × Int) (Int × (List Str) × (List (Int × Ex × (List (Int × Ex)))))) := bindE (model_read_name false l at_ Names Schema Init Procs Cmd) fun r12 => chk (roomB (List.length Procs + List.length ([r12.1] : List Str)) 16) <| bindE (model_read_sign [123] l r12.2 Names Schema Init (Procs ++ ([r12.1] : List Str)) Cmd) fun r25 => fixN (model_read_process_L1 l Names Schema Init Procs r12) FUEL (r25, Cmd)
def model_read_all_L1 (l : (List (Int × Str × Int × Int))) (again39 : (Int × (List Str) × (List (Int × Int)) × (List Int) × (List Str) × (List (Int × Ex × (List (Int × Ex))))) → Option (Except (Int × Int) (Int × (List Str) × (List (Int × Int)) × (List Int) × (List Str) × (List (Int × Ex × (List (Int × Ex))))))) : Int × (List Str) × (List (Int × Int)) × (List Int) × (List Str) × (List (Int × Ex × (List (Int × Ex)))) → Option (Except (Int × Int) (Int × (List Str) × (List (Int × Int)) × (List Int) × (List Str) × (List (Int × Ex × (List (Int × Ex)))))) := fun ⟨c23, c24, c27, c30, c33, c36⟩ => (model_read_next l c23 c24 c27 c30 c33 c36).bind fun r40 => bif (r40.1 != 4) then ( (model_read_is 1 [118, 97, 114] l c23 c24 c27 c30 c33 c36).bind fun r44 => bif r44 then ( bindE (model_read_variable l (IntKind.i64.wrap (c23 + 1)) c24 c27 c30 c33 c36) fun r49 => again39 (r49.1, r49.2.1, r49.2.2.1, r49.2.2.2, c33, c36)) else ( (model_read_is 1 [112, 114, 111, 99] l c23 c24 c27 c30 c33 c36).bind fun r61 => bif (!r61) then ( bindE (model_read_stop 2 l c23 c24 c27 c30 c33 c36) fun r65 => r65.elim) else ( bindE (model_read_process l (IntKind.i64.wrap (c23 + 1)) c24 c27 c30 c33 c36) fun r72 => again39 (r72.1, c24, c27, c30, r72.2.1, r72.2.2)))) else ( bif ((List.length c24 : Int) == 0) then ( bindE (model_read_stop 2 l c23 c24 c27 c30 c33 c36) fun r83 => r83.elim) else ( some (.ok (c23, c24, c27, c30, c33, c36))))
def model_read_all (l : (List (Int × Str × Int × Int))) (at_ : Int) (Names : (List Str)) (Schema : (List (Int × Int))) (Init : (List Int)) (Procs : (List Str)) (Cmd : (List (Int × Ex × (List (Int × Ex))))) : Option (Except (Int × Int) (Int × (List Str) × (List (Int × Int)) × (List Int) × (List Str) × (List (Int × Ex × (List (Int × Ex)))))) := fixN (model_read_all_L1 l) FUEL (at_, Names, Schema, Init, Procs, Cmd)
def model_Parse (text : Str) : Option (((List Str) × (List (Int × Int)) × (List Int) × (List Str) × (List (Int × Ex × (List (Int × Ex))))) × Int × Int) := (lex_Tokens text).bind fun r21 => bif (r21.2.1 != 0) then ( some (([], [], [], [], []), r21.2.1, r21.2.2)) else ( elimE (model_read_all r21.1 0 [] [] [] [] []) (fun p34 => some (([], [], [], [], []), p34.1, p34.2)) fun r32 => some (r32.2, 0, 0))
def slices_Equal_string_string_L1 (s1 : (List Str)) (s2 : (List Str)) (again6 : Int → Option Bool) (t5 : Int) : Option Bool := bif (decide (t5 < (List.length s1 : Int))) then ( (idx s1 t5).bind fun e10 => (idx s2 t5).bind fun e12 => bif (e10 != e12) then ( some false) else ( again6 (IntKind.i64.wrap (t5 + 1)))) else ( some true)
def slices_Equal_string_string (s1 : (List Str)) (s2 : (List Str)) : Option Bool := bif ((List.length s1 : Int) != (List.length s2 : Int)) then ( some false) else ( fixN (slices_Equal_string_string_L1 s1 s2) FUEL 0)
def slices_Equal_api_Field_api_Field_L1 (s1 : (List (Int × Int))) (s2 : (List (Int × Int))) (again6 : Int → Option Bool) (t5 : Int) : Option Bool := bif (decide (t5 < (List.length s1 : Int))) then ( (idx s1 t5).bind fun e10 => (idx s2 t5).bind fun e12 => bif (!(eqT44 e10.1 e10.2 e12.1 e12.2)) then ( some false) else ( again6 (IntKind.i64.wrap (t5 + 1)))) else ( some true)
def slices_Equal_api_Field_api_Field (s1 : (List (Int × Int))) (s2 : (List (Int × Int))) : Option Bool := bif ((List.length s1 : Int) != (List.length s2 : Int)) then ( some false) else ( fixN (slices_Equal_api_Field_api_Field_L1 s1 s2) FUEL 0)
def slices_Equal_int_int_L1 (s1 : (List Int)) (s2 : (List Int)) (again6 : Int → Option Bool) (t5 : Int) : Option Bool := bif (decide (t5 < (List.length s1 : Int))) then ( (idx s1 t5).bind fun e10 => (idx s2 t5).bind fun e12 => bif (e10 != e12) then ( some false) else ( again6 (IntKind.i64.wrap (t5 + 1)))) else ( some true)
def slices_Equal_int_int (s1 : (List Int)) (s2 : (List Int)) : Option Bool := bif ((List.length s1 : Int) != (List.length s2 : Int)) then ( some false) else ( fixN (slices_Equal_int_int_L1 s1 s2) FUEL 0)
def slices_EqualFunc_api_Expr_api_Expr_api_Expr_api_Expr_L1 (k_expr_Same : (Ex × Ex) → Option Bool) (s1 : (List Ex)) (s2 : (List Ex)) (again6 : Int → Option Bool) (t5 : Int) : Option Bool := bif (decide (t5 < (List.length s1 : Int))) then ( (idx s1 t5).bind fun e8 => (idx s2 t5).bind fun e17 => (k_expr_Same (e8, e17)).bind fun r26 => bif (!r26) then ( some false) else ( again6 (IntKind.i64.wrap (t5 + 1)))) else ( some true)
def slices_EqualFunc_api_Expr_api_Expr_api_Expr_api_Expr (k_expr_Same : (Ex × Ex) → Option Bool) (s1 : (List Ex)) (s2 : (List Ex)) : Option Bool := bif ((List.length s1 : Int) != (List.length s2 : Int)) then ( some false) else ( fixN (slices_EqualFunc_api_Expr_api_Expr_api_Expr_api_Expr_L1 k_expr_Same s1 s2) FUEL 0)
def expr_Same_F (k_expr_Same : (Ex × Ex) → Option Bool) (a : Ex) (b : Ex) : Option Bool := letv (a.op == b.op) fun b7 => letv (a.n == b.n) fun b9 => letv (b7 && b9) fun b11 => callG b11 default (slices_EqualFunc_api_Expr_api_Expr_api_Expr_api_Expr k_expr_Same a.l b.l) fun r13 => letv (b11 && r13) fun b19 => some b19
def expr_Same (a : Ex) (b : Ex) : Option Bool :=
 fixN (fun k (s : (Ex × Ex)) => expr_Same_F k s.1 s.2) FUEL (a, b)
def model_Same_c1 (x : (Int × Ex)) (y : (Int × Ex)) : Option Bool := letv (x.1 == y.1) fun b7 => callG b7 default (expr_Same x.2 y.2) fun r9 => letv (b7 && r9) fun b15 => some b15
def slices_EqualFunc_api_Set_api_Set_api_Set_api_Set_L1 (s1 : (List (Int × Ex))) (s2 : (List (Int × Ex))) (again6 : Int → Option Bool) (t5 : Int) : Option Bool := bif (decide (t5 < (List.length s1 : Int))) then ( (idx s1 t5).bind fun e8 => (idx s2 t5).bind fun e17 => (model_Same_c1 e8 e17).bind fun r26 => bif (!r26) then ( some false) else ( again6 (IntKind.i64.wrap (t5 + 1)))) else ( some true)
def slices_EqualFunc_api_Set_api_Set_api_Set_api_Set (s1 : (List (Int × Ex))) (s2 : (List (Int × Ex))) : Option Bool := bif ((List.length s1 : Int) != (List.length s2 : Int)) then ( some false) else ( fixN (slices_EqualFunc_api_Set_api_Set_api_Set_api_Set_L1 s1 s2) FUEL 0)
def model_Same_c2 (x : (Int × Ex × (List (Int × Ex)))) (y : (Int × Ex × (List (Int × Ex)))) : Option Bool := letv (x.1 == y.1) fun b7 => callG b7 default (expr_Same x.2.1 y.2.1) fun r9 => letv (b7 && r9) fun b15 => callG b15 default (slices_EqualFunc_api_Set_api_Set_api_Set_api_Set x.2.2 y.2.2) fun r17 => letv (b15 && r17) fun b23 => some b23
def slices_EqualFunc_api_Cmd_api_Cmd_api_Cmd_api_Cmd_L1 (s1 : (List (Int × Ex × (List (Int × Ex))))) (s2 : (List (Int × Ex × (List (Int × Ex))))) (again6 : Int → Option Bool) (t5 : Int) : Option Bool := bif (decide (t5 < (List.length s1 : Int))) then ( (idx s1 t5).bind fun e8 => (idx s2 t5).bind fun e19 => (model_Same_c2 e8 e19).bind fun r30 => bif (!r30) then ( some false) else ( again6 (IntKind.i64.wrap (t5 + 1)))) else ( some true)
def slices_EqualFunc_api_Cmd_api_Cmd_api_Cmd_api_Cmd (s1 : (List (Int × Ex × (List (Int × Ex))))) (s2 : (List (Int × Ex × (List (Int × Ex))))) : Option Bool := bif ((List.length s1 : Int) != (List.length s2 : Int)) then ( some false) else ( fixN (slices_EqualFunc_api_Cmd_api_Cmd_api_Cmd_api_Cmd_L1 s1 s2) FUEL 0)
def model_Same (a : ((List Str) × (List (Int × Int)) × (List Int) × (List Str) × (List (Int × Ex × (List (Int × Ex)))))) (b : ((List Str) × (List (Int × Int)) × (List Int) × (List Str) × (List (Int × Ex × (List (Int × Ex)))))) : Option Bool := (slices_Equal_string_string a.1 b.1).bind fun r10 => callG r10 default (slices_Equal_api_Field_api_Field a.2.1 b.2.1) fun r13 => letv (r10 && r13) fun b19 => callG b19 default (slices_Equal_int_int a.2.2.1 b.2.2.1) fun r21 => letv (b19 && r21) fun b27 => callG b27 default (slices_Equal_string_string a.2.2.2.1 b.2.2.2.1) fun r29 => letv (b27 && r29) fun b35 => callG b35 default (slices_EqualFunc_api_Cmd_api_Cmd_api_Cmd_api_Cmd a.2.2.2.2 b.2.2.2.2) fun r37 => letv (b35 && r37) fun b43 => some b43
def scrutinylaw14_shown : Option Bool := (model_Parse [118, 97, 114, 32, 120, 32, 48, 32, 51, 32, 48, 59, 32, 112, 114, 111, 99, 32, 80, 32, 123, 32, 120, 32, 60, 32, 51, 32, 58, 32, 120, 32, 61, 32, 120, 32, 43, 32, 49, 59, 32, 125]).bind fun r3 => (model_Parse [118, 97, 114, 32, 120, 32, 48, 32, 51, 32, 52, 59]).bind fun r19 => (model_Parse [118, 97, 114, 32, 120, 32, 48, 32, 51, 32, 48, 59, 32, 112, 114, 111, 99, 32, 80, 32, 123, 32, 120, 32, 58, 32, 120, 32, 61, 32, 49, 59, 32, 125]).bind fun r35 => (model_Parse [112, 114, 111, 99, 32, 80, 32, 123, 125]).bind fun r51 => (model_Parse [118, 97, 114, 32, 120, 32, 48, 32, 51, 32, 48, 59, 32, 112, 114, 111, 99, 32, 120, 32, 123, 125]).bind fun r67 => letv ((List.length r3.1.2.2.2.2 : Int) != 1) fun b83 => callG (!b83) (0, (Ex.mk 0 0 0 []), []) (idx r3.1.2.2.2.2 0) fun e85 => letv ((List.length e85.2.2 : Int) != 1) fun b93 => letv (b83 || b93) fun b95 => bif b95 then ( some false) else ( letv (r3.2.1 == 0) fun b98 => letv ((List.length r3.1.1 : Int) == 1) fun b100 => letv (b98 && b100) fun b102 => callG b102 (0, 0) (idx r3.1.2.1 0) fun e104 => letv (eqT44 e104.1 e104.2 0 3) fun b106 => letv (b102 && b106) fun b108 => callG b108 0 (idx r3.1.2.2.1 0) fun e110 => letv (e110 == 0) fun b112 => letv (b108 && b112) fun b114 => letv ((List.length r3.1.2.2.2.1 : Int) == 1) fun b116 => letv (b114 && b116) fun b118 => callG b118 (0, (Ex.mk 0 0 0 []), []) (idx r3.1.2.2.2.2 0) fun e120 => letv (e120.2.1.op == 9) fun b128 => letv (b118 && b128) fun b130 => callG b130 (0, (Ex.mk 0 0 0 []), []) (idx r3.1.2.2.2.2 0) fun e132 => callG b130 (0, (Ex.mk 0 0 0 [])) (idx e132.2.2 0) fun e140 => letv (e140.2.op == 3) fun b146 => letv (b130 && b146) fun b148 => letv (r19.2.1 == 5) fun b150 => letv (b148 && b150) fun b152 => letv (r19.2.2 == 6) fun b154 => letv (b152 && b154) fun b156 => letv (r35.2.1 == 4) fun b158 => letv (b156 && b158) fun b160 => letv (r35.2.2 == 22) fun b162 => letv (b160 && b162) fun b164 => letv (r51.2.1 == 2) fun b166 => letv (b164 && b166) fun b168 => letv (r51.2.2 == 9) fun b170 => letv (b168 && b170) fun b172 => letv (r67.2.1 == 3) fun b174 => letv (b172 && b174) fun b176 => letv (r67.2.2 == 18) fun b178 => letv (b176 && b178) fun b180 => callG b180 default (model_Same r3.1 r3.1) fun r182 => letv (b180 && r182) fun b188 => callG b188 default (model_Same r3.1 ([], [], [], [], [])) fun r190 => letv (!r190) fun b196 => letv (b188 && b196) fun b198 => some b198)
def scrutinyref13_digits_F (k_scrutinyref13_digits : Int → Option Str) (n : Int) : Option Str := bif (decide (n < 10)) then ( chk (cutB n (IntKind.i64.wrap (n + 1)) (List.length [48, 49, 50, 51, 52, 53, 54, 55, 56, 57])) <| some (cut [48, 49, 50, 51, 52, 53, 54, 55, 56, 57] n (IntKind.i64.wrap (n + 1)))) else ( (k_scrutinyref13_digits (IntKind.i64.wrap (Int.tdiv n 10))).bind fun r5 => (k_scrutinyref13_digits (Int.tmod n 10)).bind fun r8 => chk (catB r5 r8) <| some (r5 ++ r8))
def scrutinyref13_digits (n : Int) : Option Str :=
 fixN (fun k (s : Int) => scrutinyref13_digits_F k s) FUEL n
def scrutinyref13_Show_F (k_scrutinyref13_Show : (Ex × (List Str)) → Option Str) (e : Ex) (names : (List Str)) : Option Str := bif (e.op == 1) then ( (scrutinyref13_digits e.n).bind fun r8 => some r8) else ( bif (e.op == 2) then ( (idx names e.n).bind fun e12 => some e12) else ( bif ((List.length e.l : Int) == 0) then ( (idx ([[], [], [], [43], [45], [42], [45], [61, 61], [33, 61], [60], [60, 61], [62], [62, 61], [116, 114, 117, 101], [102, 97, 108, 115, 101], [33], [38], [124], [45, 62], [60, 45, 62], [88], [70], [71], [85], [82]] : List Str) e.op).bind fun e15 => some e15) else ( (idx e.l 0).bind fun e17 => (k_scrutinyref13_Show (e17, names)).bind fun r23 => bif ((List.length e.l : Int) == 1) then ( (idx ([[], [], [], [43], [45], [42], [45], [61, 61], [33, 61], [60], [60, 61], [62], [62, 61], [116, 114, 117, 101], [102, 97, 108, 115, 101], [33], [38], [124], [45, 62], [60, 45, 62], [88], [70], [71], [85], [82]] : List Str) e.op).bind fun e27 => chk (catB [40] e27) <| chk (catB ([40] ++ e27) [32]) <| chk (catB (([40] ++ e27) ++ [32]) r23) <| chk (catB ((([40] ++ e27) ++ [32]) ++ r23) [41]) <| some (((([40] ++ e27) ++ [32]) ++ r23) ++ [41])) else ( chk (catB [40] r23) <| chk (catB ([40] ++ r23) [32]) <| (idx ([[], [], [], [43], [45], [42], [45], [61, 61], [33, 61], [60], [60, 61], [62], [62, 61], [116, 114, 117, 101], [102, 97, 108, 115, 101], [33], [38], [124], [45, 62], [60, 45, 62], [88], [70], [71], [85], [82]] : List Str) e.op).bind fun e37 => chk (catB (([40] ++ r23) ++ [32]) e37) <| chk (catB ((([40] ++ r23) ++ [32]) ++ e37) [32]) <| (idx e.l 1).bind fun e41 => (k_scrutinyref13_Show (e41, names)).bind fun r47 => chk (catB (((([40] ++ r23) ++ [32]) ++ e37) ++ [32]) r47) <| chk (catB ((((([40] ++ r23) ++ [32]) ++ e37) ++ [32]) ++ r47) [41]) <| some (((((([40] ++ r23) ++ [32]) ++ e37) ++ [32]) ++ r47) ++ [41])))))
def scrutinyref13_Show (e : Ex) (names : (List Str)) : Option Str :=
 fixN (fun k (s : (Ex × (List Str))) => scrutinyref13_Show_F k s.1 s.2) FUEL (e, names)
def scrutinylaw14_show_F (k_scrutinylaw14_show : Int → Option Str) (n : Int) : Option Str := bif (decide (n < 0)) then ( (k_scrutinylaw14_show (IntKind.i64.wrap (0 - n))).bind fun r4 => chk (catB [45] r4) <| some ([45] ++ r4)) else ( (scrutinyref13_Show (Ex.mk 1 n 0 []) []).bind fun r8 => some r8)
def scrutinylaw14_show (n : Int) : Option Str :=
 fixN (fun k (s : Int) => scrutinylaw14_show_F k s) FUEL n
def scrutinyref02_Right_L1 (s : (List (Int × Int))) (again12 : Int → Option Bool) (i11 : Int) : Option Bool := bif (decide (i11 < (List.length s : Int))) then ( (idx s i11).bind fun e16 => (idx s i11).bind fun e18 => letv (decide (e18.2 < e16.1)) fun b20 => callG (!b20) (0, 0) (idx s i11) fun e22 => letv (decide (e22.1 < (-1073741824))) fun b24 => letv (b20 || b24) fun b26 => callG (!b26) (0, 0) (idx s i11) fun e28 => letv (decide (1073741824 < e28.2)) fun b30 => letv (b26 || b30) fun b32 => callG (!b32) (0, 0) (idx s i11) fun e34 => callG (!b32) (0, 0) (idx s i11) fun e36 => letv (decide (65535 < (IntKind.i64.wrap (e34.2 - e36.1)))) fun b38 => letv (b32 || b38) fun b40 => bif b40 then ( some false) else ( again12 (IntKind.i64.wrap (i11 + 1)))) else ( some true)
def scrutinyref02_Right (s : (List (Int × Int))) : Option Bool := letv (decide ((List.length s : Int) < 1)) fun b3 => letv (decide (17 < (List.length s : Int))) fun b5 => letv (b3 || b5) fun b7 => bif b7 then ( some false) else ( fixN (scrutinyref02_Right_L1 s) FUEL 0)
def scrutinylaw14_ModelRanges (lo : Int) (hi : Int) (first : Int) : Option Bool := (scrutinylaw14_shown).bind fun r3 => (scrutinylaw14_show (IntKind.i64.wrap (Int.tdiv (IntKind.i64.wrap lo) 2))).bind fun r6 => chk (catB [118, 97, 114, 32, 32, 120, 32] r6) <| chk (catB ([118, 97, 114, 32, 32, 120, 32] ++ r6) [32]) <| (scrutinylaw14_show (IntKind.i64.wrap (Int.tdiv (IntKind.i64.wrap hi) 2))).bind fun r11 => chk (catB (([118, 97, 114, 32, 32, 120, 32] ++ r6) ++ [32]) r11) <| chk (catB ((([118, 97, 114, 32, 32, 120, 32] ++ r6) ++ [32]) ++ r11) [32]) <| (scrutinylaw14_show (IntKind.i64.wrap (Int.tdiv (IntKind.i64.wrap first) 2))).bind fun r16 => chk (catB (((([118, 97, 114, 32, 32, 120, 32] ++ r6) ++ [32]) ++ r11) ++ [32]) r16) <| chk (catB ((((([118, 97, 114, 32, 32, 120, 32] ++ r6) ++ [32]) ++ r11) ++ [32]) ++ r16) [32, 59]) <| (model_Parse (((((([118, 97, 114, 32, 32, 120, 32] ++ r6) ++ [32]) ++ r11) ++ [32]) ++ r16) ++ [32, 59])).bind fun r21 => (scrutinyref02_Right ([((IntKind.i64.wrap (Int.tdiv (IntKind.i64.wrap lo) 2)), (IntKind.i64.wrap (Int.tdiv (IntKind.i64.wrap hi) 2)))] : List (Int × Int))).bind fun r39 => letv (decide ((IntKind.i64.wrap (Int.tdiv (IntKind.i64.wrap lo) 2)) ≤ (IntKind.i64.wrap (Int.tdiv (IntKind.i64.wrap first) 2)))) fun b42 => letv (r39 && b42) fun b44 => letv (decide ((IntKind.i64.wrap (Int.tdiv (IntKind.i64.wrap first) 2)) ≤ (IntKind.i64.wrap (Int.tdiv (IntKind.i64.wrap hi) 2)))) fun b46 => letv (b44 && b46) fun b48 => bif (!b48) then ( letv (r21.2.1 == 5) fun b51 => letv (r3 && b51) fun b53 => letv (r21.2.2 == 7) fun b55 => letv (b53 && b55) fun b57 => letv ((List.length r21.1.1 : Int) == 0) fun b59 => letv (b57 && b59) fun b61 => some b61) else ( letv (r21.2.1 == 0) fun b63 => letv (r3 && b63) fun b65 => letv ((List.length r21.1.1 : Int) == 1) fun b67 => letv (b65 && b67) fun b69 => callG b69 [] (idx r21.1.1 0) fun e71 => letv (e71 == [120]) fun b73 => letv (b69 && b73) fun b75 => callG b75 (0, 0) (idx r21.1.2.1 0) fun e77 => letv (eqT44 e77.1 e77.2 (IntKind.i64.wrap (Int.tdiv (IntKind.i64.wrap lo) 2)) (IntKind.i64.wrap (Int.tdiv (IntKind.i64.wrap hi) 2))) fun b79 => letv (b75 && b79) fun b81 => callG b81 0 (idx r21.1.2.2.1 0) fun e83 => letv (e83 == (IntKind.i64.wrap (Int.tdiv (IntKind.i64.wrap first) 2))) fun b85 => letv (b81 && b85) fun b87 => some b87)
end Go.Proofs.YtdhgpnejphlfpaaDoor
namespace Go.Proofs.YtdhgpnejphlfpaaDoor
open Go.Proofs
abbrev panV (p : (Int × Int)) : Value := (.iface 65 (.agg #[(.int .i64 p.1), (.int .i64 p.2)]))
theorem ti3 : TI Tryd.prog 3 1 8 (.int .i64 0) := by unfold TI; kernel_rfl
theorem ti4 : TI Tryd.prog 4 1 1 (.bool false) := by unfold TI; kernel_rfl
theorem ti9 : TI Tryd.prog 9 1 16 (S []) := by unfold TI; kernel_rfl
theorem ti26 : TI Tryd.prog 26 1 24 (.slice none 0 0) := by unfold TI; kernel_rfl
theorem ti28 : TI Tryd.prog 28 4 40 (.agg #[(.int .i64 0), (S []), (.int .i64 0), (.int .i64 0)]) := by unfold TI; kernel_rfl
theorem ti29 : TI Tryd.prog 29 1 24 (.slice none 0 0) := by unfold TI; kernel_rfl
theorem ti30 : TI Tryd.prog 30 1 24 (.slice none 0 0) := by unfold TI; kernel_rfl
theorem ti31 : TI Tryd.prog 31 1 24 (.slice none 0 0) := by unfold TI; kernel_rfl
theorem ti33 : TI Tryd.prog 33 5 120 (.agg #[(.slice none 0 0), (.slice none 0 0), (.slice none 0 0), (.slice none 0 0), (.slice none 0 0)]) := by unfold TI; kernel_rfl
theorem ti34 : TI Tryd.prog 34 1 8 (.int .i64 0) := by unfold TI; kernel_rfl
theorem ti44 : TI Tryd.prog 44 2 16 (.agg #[(.int .i64 0), (.int .i64 0)]) := by unfold TI; kernel_rfl
theorem ti51 : TI Tryd.prog 51 4 48 (.agg #[(.int .i64 0), (.int .i64 0), (.int .i64 0), (.slice none 0 0)]) := by unfold TI; kernel_rfl
theorem ti52 : TI Tryd.prog 52 1 24 (.slice none 0 0) := by unfold TI; kernel_rfl
theorem ti54 : TI Tryd.prog 54 6 80 (.agg #[(.int .i64 0), (.int .i64 0), (.int .i64 0), (.int .i64 0), (.slice none 0 0), (.slice none 0 0)]) := by unfold TI; kernel_rfl
theorem ti57 : TI Tryd.prog 57 5 56 (.agg #[(.int .i64 0), (.int .i64 0), (.int .i64 0), (.int .i64 0), (.slice none 0 0)]) := by unfold TI; kernel_rfl
theorem ti65 : TI Tryd.prog 65 2 16 (.agg #[(.int .i64 0), (.int .i64 0)]) := by unfold TI; kernel_rfl
theorem ti71 : TI Tryd.prog 71 1 8 .nilFunc := by unfold TI; kernel_rfl
theorem ti84 : TI Tryd.prog 84 2 16 (.agg #[.nilFunc, .nilFunc]) := by unfold TI; kernel_rfl
theorem fo28_0 : FieldOf Tryd.prog 28 0 0 := FieldOf.mk' (f := 3) (n := 1) Tryd.underlying28 rfl rfl rfl (by kernel_rfl) (by decide)
theorem fo28_1 : FieldOf Tryd.prog 28 1 1 := FieldOf.mk' (f := 9) (n := 1) Tryd.underlying28 rfl rfl rfl (by kernel_rfl) (by decide)
theorem fo28_2 : FieldOf Tryd.prog 28 2 2 := FieldOf.mk' (f := 3) (n := 1) Tryd.underlying28 rfl rfl rfl (by kernel_rfl) (by decide)
theorem fo28_3 : FieldOf Tryd.prog 28 3 3 := FieldOf.mk' (f := 3) (n := 1) Tryd.underlying28 rfl rfl rfl (by kernel_rfl) (by decide)
theorem fo33_0 : FieldOf Tryd.prog 33 0 0 := FieldOf.mk' (f := 26) (n := 1) Tryd.underlying33 rfl rfl rfl (by kernel_rfl) (by decide)
theorem fo33_1 : FieldOf Tryd.prog 33 1 1 := FieldOf.mk' (f := 29) (n := 1) Tryd.underlying33 rfl rfl rfl (by kernel_rfl) (by decide)
theorem fo33_2 : FieldOf Tryd.prog 33 2 2 := FieldOf.mk' (f := 30) (n := 1) Tryd.underlying33 rfl rfl rfl (by kernel_rfl) (by decide)
theorem fo33_3 : FieldOf Tryd.prog 33 3 3 := FieldOf.mk' (f := 26) (n := 1) Tryd.underlying33 rfl rfl rfl (by kernel_rfl) (by decide)
theorem fo33_4 : FieldOf Tryd.prog 33 4 4 := FieldOf.mk' (f := 31) (n := 1) Tryd.underlying33 rfl rfl rfl (by kernel_rfl) (by decide)
theorem fo44_0 : FieldOf Tryd.prog 44 0 0 := FieldOf.mk' (f := 3) (n := 1) Tryd.underlying44 rfl rfl rfl (by kernel_rfl) (by decide)
theorem fo44_1 : FieldOf Tryd.prog 44 1 1 := FieldOf.mk' (f := 3) (n := 1) Tryd.underlying44 rfl rfl rfl (by kernel_rfl) (by decide)
theorem fo51_0 : FieldOf Tryd.prog 51 0 0 := FieldOf.mk' (f := 3) (n := 1) Tryd.underlying51 rfl rfl rfl (by kernel_rfl) (by decide)
theorem fo51_1 : FieldOf Tryd.prog 51 1 1 := FieldOf.mk' (f := 3) (n := 1) Tryd.underlying51 rfl rfl rfl (by kernel_rfl) (by decide)
theorem fo51_2 : FieldOf Tryd.prog 51 2 2 := FieldOf.mk' (f := 3) (n := 1) Tryd.underlying51 rfl rfl rfl (by kernel_rfl) (by decide)
theorem fo51_3 : FieldOf Tryd.prog 51 3 3 := FieldOf.mk' (f := 49) (n := 1) Tryd.underlying51 rfl rfl rfl (by kernel_rfl) (by decide)
theorem fo54_0 : FieldOf Tryd.prog 54 0 0 := FieldOf.mk' (f := 3) (n := 1) Tryd.underlying54 rfl rfl rfl (by kernel_rfl) (by decide)
theorem fo54_1 : FieldOf Tryd.prog 54 1 1 := FieldOf.mk' (f := 51) (n := 4) Tryd.underlying54 rfl rfl rfl (by kernel_rfl) (by decide)
theorem fo54_2 : FieldOf Tryd.prog 54 2 5 := FieldOf.mk' (f := 52) (n := 1) Tryd.underlying54 rfl rfl rfl (by kernel_rfl) (by decide)
theorem fo57_0 : FieldOf Tryd.prog 57 0 0 := FieldOf.mk' (f := 3) (n := 1) Tryd.underlying57 rfl rfl rfl (by kernel_rfl) (by decide)
theorem fo57_1 : FieldOf Tryd.prog 57 1 1 := FieldOf.mk' (f := 51) (n := 4) Tryd.underlying57 rfl rfl rfl (by kernel_rfl) (by decide)
theorem fo65_0 : FieldOf Tryd.prog 65 0 0 := FieldOf.mk' (f := 34) (n := 1) Tryd.underlying65 rfl rfl rfl (by kernel_rfl) (by decide)
theorem fo65_1 : FieldOf Tryd.prog 65 1 1 := FieldOf.mk' (f := 3) (n := 1) Tryd.underlying65 rfl rfl rfl (by kernel_rfl) (by decide)
theorem fo69_0 : FieldOf Tryd.prog 69 0 0 := FieldOf.mk' (f := 23) (n := 1) Tryd.underlying69 rfl rfl rfl (by kernel_rfl) (by decide)
theorem fo69_1 : FieldOf Tryd.prog 69 1 1 := FieldOf.mk' (f := 3) (n := 1) Tryd.underlying69 rfl rfl rfl (by kernel_rfl) (by decide)
theorem fo69_2 : FieldOf Tryd.prog 69 2 2 := FieldOf.mk' (f := 33) (n := 5) Tryd.underlying69 rfl rfl rfl (by kernel_rfl) (by decide)
theorem fo84_0 : FieldOf Tryd.prog 84 0 0 := FieldOf.mk' (f := 1) (n := 1) Tryd.underlying84 rfl rfl rfl (by kernel_rfl) (by decide)
theorem fo84_1 : FieldOf Tryd.prog 84 1 1 := FieldOf.mk' (f := 1) (n := 1) Tryd.underlying84 rfl rfl rfl (by kernel_rfl) (by decide)
theorem fo100_0 : FieldOf Tryd.prog 100 0 0 := FieldOf.mk' (f := 3) (n := 1) Tryd.underlying100 rfl rfl rfl (by kernel_rfl) (by decide)
theorem fo100_1 : FieldOf Tryd.prog 100 1 1 := FieldOf.mk' (f := 3) (n := 1) Tryd.underlying100 rfl rfl rfl (by kernel_rfl) (by decide)
theorem fo115_0 : FieldOf Tryd.prog 115 0 0 := FieldOf.mk' (f := 23) (n := 1) Tryd.underlying115 rfl rfl rfl (by kernel_rfl) (by decide)
theorem fo115_1 : FieldOf Tryd.prog 115 1 1 := FieldOf.mk' (f := 3) (n := 1) Tryd.underlying115 rfl rfl rfl (by kernel_rfl) (by decide)
theorem fo115_2 : FieldOf Tryd.prog 115 2 2 := FieldOf.mk' (f := 26) (n := 1) Tryd.underlying115 rfl rfl rfl (by kernel_rfl) (by decide)
theorem fo115_3 : FieldOf Tryd.prog 115 3 3 := FieldOf.mk' (f := 3) (n := 1) Tryd.underlying115 rfl rfl rfl (by kernel_rfl) (by decide)
theorem fo115_4 : FieldOf Tryd.prog 115 4 4 := FieldOf.mk' (f := 34) (n := 1) Tryd.underlying115 rfl rfl rfl (by kernel_rfl) (by decide)
theorem fo115_5 : FieldOf Tryd.prog 115 5 5 := FieldOf.mk' (f := 3) (n := 1) Tryd.underlying115 rfl rfl rfl (by kernel_rfl) (by decide)
theorem openT9 {M : Nat → Prop} {w : World} {vs : List Value} {x : Str} (h : (RS).rd M w vs x) : vs = [(S x)] := h
theorem openT28 {M : Nat → Prop} {w : World} {vs : List Value} {x : (Int × Str × Int × Int)} (h : ((RP (RI .i64) (RP RS (RP (RI .i64) (RI .i64))))).rd M w vs x) : vs = [(.int .i64 x.1), (S x.2.1), (.int .i64 x.2.2.1), (.int .i64 x.2.2.2)] := by
 obtain ⟨_, _, rfl, rfl, ⟨_, _, rfl, rfl, ⟨_, _, rfl, rfl, rfl⟩⟩⟩ := h
 rfl
theorem openT44 {M : Nat → Prop} {w : World} {vs : List Value} {x : (Int × Int)} (h : ((RP (RI .i64) (RI .i64))).rd M w vs x) : vs = [(.int .i64 x.1), (.int .i64 x.2)] := by
 obtain ⟨_, _, rfl, rfl, rfl⟩ := h
 rfl
theorem openT4 {M : Nat → Prop} {w : World} {vs : List Value} {x : Bool} (h : (RB).rd M w vs x) : vs = [(.bool x)] := h
theorem openT3 {M : Nat → Prop} {w : World} {vs : List Value} {x : Int} (h : ((RI .i64)).rd M w vs x) : vs = [(.int .i64 x)] := h
theorem openT51 {M : Nat → Prop} {w : World} {vs : List Value} {x : Ex} (h : (RExpr).rd M w vs x) : ∃ v1 : SLV, vs = [(.int .i64 x.op), (.int .i64 x.n), (.int .i64 x.at_), (sl v1)] ∧ SRd RExpr M w (sl v1) x.l := RExpr_open h
theorem cellsM51 {M : Nat → Prop} {w : World} {g : Bool} {v : Value} {xs : List Ex} {i : Int} {x : Ex} (h : g = true → SRd RExpr M w v xs) (hx : g = true → idx xs i = some x) :
  ∃ (v1 : SLV), (g = true → CellsAt w (elA v i 4) [(.int .i64 x.op), (.int .i64 x.n), (.int .i64 x.at_), (sl v1)]) ∧ (g = true → ¬ M (elA v i 4).block) ∧ (g = true → SRd RExpr M w (sl v1) x.l) := by
 cases hg : g
 ·exact ⟨(none, 0, 0), (fun h => by cases h), (fun h => by cases h), (fun h => by cases h)⟩
 ·obtain ⟨_, vs, hc, hr, hm⟩ := (h hg).atA (hx hg)
  obtain ⟨v1, rfl, h1⟩ := openT51 hr
  exact ⟨v1, fun _ => hc, fun _ => hm, fun _ => h1⟩
theorem cellsMO51 {M : Nat → Prop} {w : World} {g : Bool} {v : Value} {xs : List Ex} {R : List Nat} {i : Int} {x : Ex} (h : g = true → Own RExpr 51 M w v xs R) (hx : g = true → idx xs i = some x) :
  ∃ (v1 : SLV), (g = true → CellsAt w (elA v i 4) [(.int .i64 x.op), (.int .i64 x.n), (.int .i64 x.at_), (sl v1)]) ∧ (g = true → True) ∧ (g = true → SRd RExpr M w (sl v1) x.l) := by
 cases hg : g
 ·exact ⟨(none, 0, 0), (fun h => by cases h), (fun h => by cases h), (fun h => by cases h)⟩
 ·obtain ⟨_, vs, hc, hr⟩ := (h hg).atA (hx hg)
  obtain ⟨v1, rfl, h1⟩ := openT51 hr
  exact ⟨v1, fun _ => hc, fun _ => trivial, fun _ => h1⟩
theorem openT57 {M : Nat → Prop} {w : World} {vs : List Value} {x : (Int × Ex)} (h : ((RP (RI .i64) RExpr)).rd M w vs x) : ∃ v1 : SLV, vs = [(.int .i64 x.1), (.int .i64 x.2.op), (.int .i64 x.2.n), (.int .i64 x.2.at_), (sl v1)] ∧ SRd RExpr M w (sl v1) x.2.l := by
 obtain ⟨_, _, rfl, rfl, hz1⟩ := h
 obtain ⟨v1, rfl, h1⟩ := RExpr_open hz1
 exact ⟨v1, rfl, h1⟩
theorem cellsM57 {M : Nat → Prop} {w : World} {g : Bool} {v : Value} {xs : List (Int × Ex)} {i : Int} {x : (Int × Ex)} (h : g = true → SRd (RP (RI .i64) RExpr) M w v xs) (hx : g = true → idx xs i = some x) :
  ∃ (v1 : SLV), (g = true → CellsAt w (elA v i 5) [(.int .i64 x.1), (.int .i64 x.2.op), (.int .i64 x.2.n), (.int .i64 x.2.at_), (sl v1)]) ∧ (g = true → ¬ M (elA v i 5).block) ∧ (g = true → SRd RExpr M w (sl v1) x.2.l) := by
 cases hg : g
 ·exact ⟨(none, 0, 0), (fun h => by cases h), (fun h => by cases h), (fun h => by cases h)⟩
 ·obtain ⟨_, vs, hc, hr, hm⟩ := (h hg).atA (hx hg)
  obtain ⟨v1, rfl, h1⟩ := openT57 hr
  exact ⟨v1, fun _ => hc, fun _ => hm, fun _ => h1⟩
theorem cellsMO57 {M : Nat → Prop} {w : World} {g : Bool} {v : Value} {xs : List (Int × Ex)} {R : List Nat} {i : Int} {x : (Int × Ex)} (h : g = true → Own (RP (RI .i64) RExpr) 57 M w v xs R) (hx : g = true → idx xs i = some x) :
  ∃ (v1 : SLV), (g = true → CellsAt w (elA v i 5) [(.int .i64 x.1), (.int .i64 x.2.op), (.int .i64 x.2.n), (.int .i64 x.2.at_), (sl v1)]) ∧ (g = true → True) ∧ (g = true → SRd RExpr M w (sl v1) x.2.l) := by
 cases hg : g
 ·exact ⟨(none, 0, 0), (fun h => by cases h), (fun h => by cases h), (fun h => by cases h)⟩
 ·obtain ⟨_, vs, hc, hr⟩ := (h hg).atA (hx hg)
  obtain ⟨v1, rfl, h1⟩ := openT57 hr
  exact ⟨v1, fun _ => hc, fun _ => trivial, fun _ => h1⟩
theorem openT54 {M : Nat → Prop} {w : World} {vs : List Value} {x : (Int × Ex × (List (Int × Ex)))} (h : ((RP (RI .i64) (RP RExpr (RSl (RP (RI .i64) RExpr))))).rd M w vs x) : ∃ v1 : SLV, ∃ v2 : SLV, vs = [(.int .i64 x.1), (.int .i64 x.2.1.op), (.int .i64 x.2.1.n), (.int .i64 x.2.1.at_), (sl v1), (sl v2)] ∧ SRd RExpr M w (sl v1) x.2.1.l ∧ SRd (RP (RI .i64) RExpr) M w (sl v2) x.2.2 := by
 obtain ⟨_, _, rfl, rfl, ⟨_, _, rfl, hz1, ⟨v2, rfl, h2⟩⟩⟩ := h
 obtain ⟨v1, rfl, h1⟩ := RExpr_open hz1
 exact ⟨v1, v2, rfl, h1, h2⟩
theorem cellsM54 {M : Nat → Prop} {w : World} {g : Bool} {v : Value} {xs : List (Int × Ex × (List (Int × Ex)))} {i : Int} {x : (Int × Ex × (List (Int × Ex)))} (h : g = true → SRd (RP (RI .i64) (RP RExpr (RSl (RP (RI .i64) RExpr)))) M w v xs) (hx : g = true → idx xs i = some x) :
  ∃ (v1 v2 : SLV), (g = true → CellsAt w (elA v i 6) [(.int .i64 x.1), (.int .i64 x.2.1.op), (.int .i64 x.2.1.n), (.int .i64 x.2.1.at_), (sl v1), (sl v2)]) ∧ (g = true → ¬ M (elA v i 6).block) ∧ (g = true → SRd RExpr M w (sl v1) x.2.1.l) ∧ (g = true → SRd (RP (RI .i64) RExpr) M w (sl v2) x.2.2) := by
 cases hg : g
 ·exact ⟨(none, 0, 0), (none, 0, 0), (fun h => by cases h), (fun h => by cases h), (fun h => by cases h), (fun h => by cases h)⟩
 ·obtain ⟨_, vs, hc, hr, hm⟩ := (h hg).atA (hx hg)
  obtain ⟨v1, v2, rfl, h1, h2⟩ := openT54 hr
  exact ⟨v1, v2, fun _ => hc, fun _ => hm, fun _ => h1, fun _ => h2⟩
theorem cellsMO54 {M : Nat → Prop} {w : World} {g : Bool} {v : Value} {xs : List (Int × Ex × (List (Int × Ex)))} {R : List Nat} {i : Int} {x : (Int × Ex × (List (Int × Ex)))} (h : g = true → Own (RP (RI .i64) (RP RExpr (RSl (RP (RI .i64) RExpr)))) 54 M w v xs R) (hx : g = true → idx xs i = some x) :
  ∃ (v1 v2 : SLV), (g = true → CellsAt w (elA v i 6) [(.int .i64 x.1), (.int .i64 x.2.1.op), (.int .i64 x.2.1.n), (.int .i64 x.2.1.at_), (sl v1), (sl v2)]) ∧ (g = true → True) ∧ (g = true → SRd RExpr M w (sl v1) x.2.1.l) ∧ (g = true → SRd (RP (RI .i64) RExpr) M w (sl v2) x.2.2) := by
 cases hg : g
 ·exact ⟨(none, 0, 0), (none, 0, 0), (fun h => by cases h), (fun h => by cases h), (fun h => by cases h), (fun h => by cases h)⟩
 ·obtain ⟨_, vs, hc, hr⟩ := (h hg).atA (hx hg)
  obtain ⟨v1, v2, rfl, h1, h2⟩ := openT54 hr
  exact ⟨v1, v2, fun _ => hc, fun _ => trivial, fun _ => h1, fun _ => h2⟩
set_option maxRecDepth 100000 in
theorem run_eqT44 {x y : Operand} (w : World) (x0 : Int) (x1 : Int) (y0 : Int) (y1 : Int) : (do eqGuard .eql 44 x y (.agg #[(.int .i64 x0), (.int .i64 x1)]) (.agg #[(.int .i64 y0), (.int .i64 y1)]); binOp .eql 44 (.agg #[(.int .i64 x0), (.int .i64 x1)]) (.agg #[(.int .i64 y0), (.int .i64 y1)]) : Sem Value).run Tryd.prog w = .ok (.bool ((eqT44 x0 x1 y0 y1))) w := by
 have key : ∀ d, (Op.eqFields (d + 1) #[(.int .i64 x0), (.int .i64 x1)] #[(.int .i64 y0), (.int .i64 y1)] (Tryd.prog.fieldsOf 44).toList).run Tryd.prog w = .ok (x0 == y0 && (x1 == y1 && true)) w := fun d => eqF_cons rfl (part1 Tryd.underlying3 rfl rfl) (part1 Tryd.underlying3 rfl rfl) (run_equalIn_int w d 3 _ _ _ _ Tryd.underlying3) <| eqF_cons rfl (part1 Tryd.underlying3 rfl rfl) (part1 Tryd.underlying3 rfl rfl) (run_equalIn_int w d 3 _ _ _ _ Tryd.underlying3) <| eqF_nil
 rw [Sem.run_bind, run_eqGuard_agg w _ _ _ _ _ _ Tryd.eqGuardType44, Result.andThen_ok, run_eql_struct, run_equalIn_struct w 9999 44 _ _ (by rfl) Tryd.stoodInHeld44, key 9998]
 simp [eqT44]
set_option maxRecDepth 100000 in
theorem run_neT44 {x y : Operand} (w : World) (x0 : Int) (x1 : Int) (y0 : Int) (y1 : Int) : (do eqGuard .neq 44 x y (.agg #[(.int .i64 x0), (.int .i64 x1)]) (.agg #[(.int .i64 y0), (.int .i64 y1)]); binOp .neq 44 (.agg #[(.int .i64 x0), (.int .i64 x1)]) (.agg #[(.int .i64 y0), (.int .i64 y1)]) : Sem Value).run Tryd.prog w = .ok (.bool (!(eqT44 x0 x1 y0 y1))) w := by
 have key : ∀ d, (Op.eqFields (d + 1) #[(.int .i64 x0), (.int .i64 x1)] #[(.int .i64 y0), (.int .i64 y1)] (Tryd.prog.fieldsOf 44).toList).run Tryd.prog w = .ok (x0 == y0 && (x1 == y1 && true)) w := fun d => eqF_cons rfl (part1 Tryd.underlying3 rfl rfl) (part1 Tryd.underlying3 rfl rfl) (run_equalIn_int w d 3 _ _ _ _ Tryd.underlying3) <| eqF_cons rfl (part1 Tryd.underlying3 rfl rfl) (part1 Tryd.underlying3 rfl rfl) (run_equalIn_int w d 3 _ _ _ _ Tryd.underlying3) <| eqF_nil
 rw [Sem.run_bind, run_eqGuard_agg w _ _ _ _ _ _ Tryd.eqGuardType44, Result.andThen_ok, run_neq_struct, run_equalIn_struct w 9999 44 _ _ (by rfl) Tryd.stoodInHeld44, key 9998]
 simp [eqT44]
set_option maxRecDepth 100000 in
set_option maxHeartbeats 4000000 in
theorem clo23_ret {Φ : Ctx} {w : World} {bk0 : Nat} {bk1 : Nat} {bk2 : Nat} (hs : Sat Φ w) :
  CallsU Tryd.prog 23 [.pointer (some ⟨bk0, 0, none⟩), .pointer (some ⟨bk1, 0, none⟩), .pointer (some ⟨bk2, 0, none⟩)] .returning w (fun u w' => u = .returning ∧ Sat Φ w') := by
 refine CallsU_recover (T := fun w' => Sat (Φ) w') Tryd.func23 rfl rfl rfl rfl Tryd.ntmps23 rfl rfl (.inl ⟨rfl, rfl, rfl⟩) ?_
 refine WL_op (Run_tassertNo Tryd.underlying65 rfl ti65 (Opd.t rfl)) rfl rfl rfl rfl <| WL_op (Run_move (Opd.t rfl)) rfl rfl rfl rfl <| WL_op (Run_extract (vs := [(.agg #[(.int .i64 0), (.int .i64 0)]), (.bool false)]) (Opd.t rfl) rfl) rfl rfl rfl rfl <| WL_op (Run_extract (vs := [(.agg #[(.int .i64 0), (.int .i64 0)]), (.bool false)]) (Opd.t rfl) rfl) rfl rfl rfl rfl <| ?_
 refine WS_alloc (zs := [(.int .i64 0), (.int .i64 0)]) hs ti65 rfl rfl ?_
 intro b1 w2 hs
 replace hs := Sat.n1 (Γ := Φ) hs rfl
 refine WS_store (us := [(.int .i64 0), (.int .i64 0)]) (vs' := [(.int .i64 0), (.int .i64 0)]) hs 0 rfl ti65 (Opd.t rfl) (Opd.t rfl) rfl rfl rfl rfl rfl ?_
 intro w3 hs
 replace hs := Sat.n1 (Γ := Φ) hs rfl
 refine WL_op (Run_assign (Opd.t rfl)) rfl rfl rfl rfl <| ?_
 refine WL_nil ?_
 refine At_then ?_
 refine WC_seq ?_
 refine WC_region ?_
 refine WL_op (Run_move (Opd.t rfl)) rfl rfl rfl rfl <| ?_
 refine WL_nil ?_
 refine At_then ?_
 refine WC_cond (Opd.t rfl) (fun h => by cases h) (fun _ => ?_)
 refine WC_skip ?_
 exact At_QB (hs.re 1 [] rfl)
set_option maxRecDepth 100000 in
set_option maxHeartbeats 4000000 in
theorem clo23_pan {Φ : Ctx} {w : World} {bk0 : Nat} {u0_0 u0_1 u0_2 u0_3 u0_4 : Value} {bk1 : Nat} {u1_0 : Value} {bk2 : Nat} {u2_0 : Value} (p : (Int × Int)) (hs : Sat (box bk0 33 [u0_0, u0_1, u0_2, u0_3, u0_4] :: box bk1 34 [u1_0] :: box bk2 3 [u2_0] :: Φ) w) :
  CallsU Tryd.prog 23 [.pointer (some ⟨bk0, 0, none⟩), .pointer (some ⟨bk1, 0, none⟩), .pointer (some ⟨bk2, 0, none⟩)] (.panicking (pan (panV p))) w (fun u w' => u = .panicking [{ v := panV p, recovered := true }] ∧ Sat (box bk0 33 [(sl (none, 0, 0)), (sl (none, 0, 0)), (sl (none, 0, 0)), (sl (none, 0, 0)), (sl (none, 0, 0))] :: box bk1 34 [(.int .i64 p.1)] :: box bk2 3 [(.int .i64 p.2)] :: Φ) w') := by
 refine CallsU_recover (T := fun w' => Sat (box bk0 33 [(sl (none, 0, 0)), (sl (none, 0, 0)), (sl (none, 0, 0)), (sl (none, 0, 0)), (sl (none, 0, 0))] :: box bk1 34 [(.int .i64 p.1)] :: box bk2 3 [(.int .i64 p.2)] :: Φ) w') Tryd.func23 rfl rfl rfl rfl Tryd.ntmps23 rfl rfl (.inr ⟨rfl, rfl⟩) ?_
 refine WL_op (Run_tassertOk Tryd.underlying65 rfl (Opd.t rfl)) rfl rfl rfl rfl <| WL_op (Run_move (Opd.t rfl)) rfl rfl rfl rfl <| WL_op (Run_extract (vs := [(.agg #[(.int .i64 p.1), (.int .i64 p.2)]), (.bool true)]) (Opd.t rfl) rfl) rfl rfl rfl rfl <| WL_op (Run_extract (vs := [(.agg #[(.int .i64 p.1), (.int .i64 p.2)]), (.bool true)]) (Opd.t rfl) rfl) rfl rfl rfl rfl <| ?_
 refine WS_alloc (zs := [(.int .i64 0), (.int .i64 0)]) hs ti65 rfl rfl ?_
 intro b1 w2 hs
 replace hs := Sat.n4 (Γ := Φ) hs rfl
 refine WS_store (us := [(.int .i64 p.1), (.int .i64 p.2)]) (vs' := [(.int .i64 p.1), (.int .i64 p.2)]) hs 0 rfl ti65 (Opd.t rfl) (Opd.t rfl) rfl rfl rfl rfl rfl ?_
 intro w3 hs
 replace hs := Sat.n4 (Γ := Φ) hs rfl
 refine WL_op (Run_assign (Opd.t rfl)) rfl rfl rfl rfl <| ?_
 refine WL_nil ?_
 refine At_then ?_
 refine WC_seq ?_
 refine WC_region ?_
 refine WL_op (Run_move (Opd.t rfl)) rfl rfl rfl rfl <| ?_
 refine WL_nil ?_
 refine At_then ?_
 refine WC_cond (Opd.t rfl) (fun _ => ?_) (fun h => by cases h)
 refine WC_region_mixed [0, 0, 2, 0, 8, 1, 39, 127] (.q 0 0 (.q 1 1 (.q 2 3 (.q 3 7 (.q 4 15 (.l 5 31 (.l 6 63 (.l 7 127 .nil)))))))) (by kernel_rfl) (by kernel_rfl) ?_
 intro w4 hx5
 replace hs := hs.ext hx5
 refine WD_pure (fun _ => (Run_build (parts := []) (v := (.agg #[(sl (none, 0, 0)), (sl (none, 0, 0)), (sl (none, 0, 0)), (sl (none, 0, 0)), (sl (none, 0, 0))])) .nil (fun _ => by kernel_rfl))) rfl rfl rfl rfl <| WD_pure (fun _ => (Run_fieldAddr fo65_0 (Opd.t rfl))) rfl rfl rfl rfl <| WD_op (fun w => CellsAt w ⟨b1, 0, none⟩ [(.int .i64 p.1)]) ((hs.box (i := 0) rfl).part 0 rfl) (fun _ hJ => (Run_load1 (v := (.int .i64 p.1)) Tryd.underlying34 rfl (Opd.t rfl) (fun _ => hJ))) rfl rfl rfl rfl <| WD_pure (fun _ => (Run_fieldAddr fo65_1 (Opd.t rfl))) rfl rfl rfl rfl <| WD_op (fun w => CellsAt w ⟨b1, 1, none⟩ [(.int .i64 p.2)]) ((hs.box (i := 0) rfl).part 1 rfl) (fun _ hJ => (Run_load1 (v := (.int .i64 p.2)) Tryd.underlying3 rfl (Opd.t rfl) (fun _ => hJ))) rfl rfl rfl rfl <| ?_
 refine WD_loud (pend' := [(4, fun w => CellsAt w ⟨b1, 1, none⟩ [(.int .i64 p.2)]), (2, fun w => CellsAt w ⟨b1, 0, none⟩ [(.int .i64 p.1)])]) rfl (by kernel_rfl) ?_
 refine WS_store (us := [(sl (none, 0, 0)), (sl (none, 0, 0)), (sl (none, 0, 0)), (sl (none, 0, 0)), (sl (none, 0, 0))]) (vs' := [(sl (none, 0, 0)), (sl (none, 0, 0)), (sl (none, 0, 0)), (sl (none, 0, 0)), (sl (none, 0, 0))]) hs 1 rfl ti33 (Opd.t rfl) (Opd.t rfl) rfl rfl rfl rfl rfl ?_
 intro w6 hs
 replace hs := Sat.n4 (Γ := Φ) hs rfl
 refine WL_nil ?_
 refine At_QK (allJ_cons ((hs.box (i := 0) rfl).part 1 rfl) (allJ_cons ((hs.box (i := 0) rfl).part 0 rfl) allJ_nil)) ?_
 refine WD_loud (pend' := [(4, fun w => CellsAt w ⟨b1, 1, none⟩ [(.int .i64 p.2)])]) rfl (by kernel_rfl) ?_
 refine WS_store (us := [(.int .i64 p.1)]) (vs' := [(.int .i64 p.1)]) hs 2 rfl ti34 (Opd.t rfl) (Opd.t rfl) rfl rfl rfl rfl rfl ?_
 intro w7 hs
 replace hs := Sat.n4 (Γ := Φ) hs rfl
 refine WL_nil ?_
 refine At_QK (allJ_cons ((hs.box (i := 0) rfl).part 1 rfl) allJ_nil) ?_
 refine WD_loud (pend' := []) rfl (by kernel_rfl) ?_
 refine WS_store (us := [(.int .i64 p.2)]) (vs' := [(.int .i64 p.2)]) hs 3 rfl ti3 (Opd.t rfl) (Opd.t rfl) rfl rfl rfl rfl rfl ?_
 intro w8 hs
 replace hs := Sat.n4 (Γ := Φ) hs rfl
 refine WL_nil ?_
 refine At_QK allJ_nil ?_
 refine WD_nil ?_
 exact At_QB (hs.re 4 [1, 2, 3] rfl)
end Go.Proofs.YtdhgpnejphlfpaaDoor
namespace Go.Proofs.YtdhgpnejphlfpaaDoor
open Go.Proofs
set_option maxRecDepth 100000 in
set_option maxHeartbeats 4000000 in
theorem lex_blank_ok {Φ : Ctx} {w : World} {c : Int} {r : Bool} (hs : Sat (Φ) w) (hm : lex_blank c = some r) :
  CallsR Tryd.prog 37 [(.int .u8 c)] w (fun v w' => v = (.bool r) ∧ Sat (Φ) w') := by
 refine CallsX_enter Tryd.func37 rfl Tryd.ntmps37 rfl ?_
 unfold lex_blank at hm
 refine WC_seq <| WC_region ?_
 refine Wo (Run_assign Opd.c) rfl <| ?_
 refine WL_nil <| At_then <| WC_seq <| WC_region ?_
 refine Wo (Run_move (O rfl)) rfl <| ?_
 obtain ⟨b3, e4, hm⟩ := letv_some hm
 refine Wo (Run.eqB (Run_eqI (O rfl) Opd.c) e4) rfl <| Wo (Run_move (O rfl)) rfl <| Wg rfl guard_neg (Run_move (O rfl)) rfl <| ?_
 obtain ⟨b5, e6, hm⟩ := letv_some hm
 refine Wg rfl guard_neg (Run.eqB (Run_eqI (Opd.g rfl id) Opd.c) e6) rfl <| ?_
 obtain ⟨b7, e8, hm⟩ := letv_some hm
 refine Wo (Run.eqB (Run_or (O rfl) (Opd.g rfl id)) e8) rfl <| Wo (Run_move (O rfl)) rfl <| Wg rfl guard_neg (Run_move (O rfl)) rfl <| ?_
 obtain ⟨b9, e10, hm⟩ := letv_some hm
 refine Wg rfl guard_neg (Run.eqB (Run_eqI (Opd.g rfl id) Opd.c) e10) rfl <| ?_
 obtain ⟨b11, e12, hm⟩ := letv_some hm
 refine Wo (Run.eqB (Run_or (O rfl) (Opd.g rfl id)) e12) rfl <| Wo (Run_move (O rfl)) rfl <| Wg rfl guard_neg (Run_move (O rfl)) rfl <| ?_
 obtain ⟨b13, e14, hm⟩ := letv_some hm
 refine Wg rfl guard_neg (Run.eqB (Run_eqI (Opd.g rfl id) Opd.c) e14) rfl <| ?_
 obtain ⟨b15, e16, hm⟩ := letv_some hm
 refine Wo (Run.eqB (Run_or (O rfl) (Opd.g rfl id)) e16) rfl <| Wo (Run_assign (O rfl)) rfl <| ?_
 refine WL_nil <| At_then ?_
 refine WC_ret ?_
 refine At_r1 rfl (ResIs.t rfl) ?_
 cases hm
 exact ⟨rfl, (hs.re 0 [] rfl)⟩
set_option maxRecDepth 100000 in
set_option maxHeartbeats 4000000 in
theorem lex_Tokens_c1_ok {Φ : Ctx} {w : World} {c : Int} {r : Bool} (hs : Sat (Φ) w) (hm : lex_Tokens_c1 c = some r) :
  CallsR Tryd.prog 39 [(.int .u8 c)] w (fun v w' => v = (.bool r) ∧ Sat (Φ) w') := by
 refine CallsX_enter Tryd.func39 rfl Tryd.ntmps39 rfl ?_
 unfold lex_Tokens_c1 at hm
 refine WC_seq <| WC_region ?_
 refine Wo (Run_assign Opd.c) rfl <| ?_
 refine WL_nil <| At_then <| WC_seq <| WC_region ?_
 refine Wo (Run_move (O rfl)) rfl <| Wo (Run_neI (O rfl) Opd.c) rfl <| Wo (Run_assign (O rfl)) rfl <| ?_
 refine WL_nil <| At_then ?_
 refine WC_ret ?_
 refine At_r1 rfl (ResIs.t rfl) ?_
 cases hm
 exact ⟨rfl, (hs.re 0 [] rfl)⟩
set_option maxRecDepth 100000 in
set_option maxHeartbeats 4000000 in
theorem lex_run_ok {Φ : Ctx} {w : World} {text : Str} {r : Str} (hs : Sat (Φ) w) (hm : lex_run text = some r) :
  CallsR Tryd.prog 38 [(S text), (.func (.func 39) #[] #[])] w (fun v w' => v = (S r) ∧ Sat (Φ) w') := by
 refine CallsX_enter Tryd.func38 rfl Tryd.ntmps38 rfl ?_
 unfold lex_run at hm
 refine WC_seq <| WC_region ?_
 refine Wo (Run_assign Opd.c) rfl <| ?_
 refine WL_nil <| At_then <| WC_seq <| WC_seq <| WC_region ?_
 refine Wo (Run_move (O rfl)) rfl <| Wo (Run_lenS Tryd.underlying9 (O rfl)) rfl <| Wo (Run_move Opd.c) rfl <| ?_
 refine WL_nil <| At_then ?_
 refine WC_block ?_
 refine WC_loop (σ := Int) (γ := Unit) (F := (lex_run_L1 text)) (N := FUEL) (s0 := 0) (r := r) (fun t4 (_ : Unit) w3 => Sat (Φ) w3) (fun t4 (_ : Unit) => [(0, true, (S text)), (1, true, (.func (.func 39) #[] #[])), (7, true, (.int .i64 (List.length text : Int))), (8, true, (.int .i64 t4))]) hm () (hs.re 0 [] rfl) rfl ?_
 rintro again5 t4 _ w3 hm hs
 unfold lex_run_L1 at hm
 refine WC_seq <| WC_region ?_
 refine Wo (Run_ltI (O rfl) (O rfl)) rfl <| ?_
 refine WL_nil <| At_then <| WC_seq ?_
 refine WC_cond (O rfl) (fun hc6 => ?_) (fun hc6 => ?_)
 ·
  replace hm := bif_t hc6 hm
  refine WC_skip ?_
  refine At_then <| WC_seq ?_
  refine WC_block ?_
  refine WC_seq <| WC_region ?_
  refine Wo (Run_move (O rfl)) rfl <| Wo (Run_assign (O rfl)) rfl <| ?_
  refine WL_nil <| At_then <| WC_seq <| WC_region ?_
  refine Wo (Run_move (O rfl)) rfl <| Wo (Run_move (O rfl)) rfl <| Wo (Run_move (O rfl)) rfl <| ?_
  obtain ⟨k7, hm⟩ := chk_some hm
  refine Wo (Run_idxS Tryd.underlying9 (O rfl) (O rfl) (fun _ => k7)) rfl <| ?_
  obtain ⟨r8, hr9, hm⟩ := bind_some' hm
  refine WL_call (f := 39) (first := []) (cap := []) (xs := [(.tmp 14)]) (vs := [(.int .u8 (byteAt text t4))]) (args := [(.int .u8 (byteAt text t4))]) Tryd.call39 (O rfl) (.cons (O rfl) .nil) rfl rfl (lex_Tokens_c1_ok (hs.re 0 [] rfl) hr9) ?_
  rintro _ w10 ⟨rfl, hs⟩
  refine Wo (Run_notB (O rfl)) rfl <| ?_
  refine WL_nil <| At_then ?_
  refine WC_cond (O rfl) (fun hc11 => ?_) (fun hc11 => ?_)
  ·
   replace hm := bif_t hc11 hm
   refine WC_seq <| WC_region ?_
   refine Wo (Run_move (O rfl)) rfl <| Wo (Run_move (O rfl)) rfl <| ?_
   obtain ⟨k12, hm⟩ := chk_some hm
   refine Wo (Run_cutS (lo := none) (hi := (some (.tmp 18))) Tryd.underlying9 (O rfl) rfl ⟨_, (O rfl)⟩ (fun _ => k12)) rfl <| Wo (Run_assign (O rfl)) rfl <| ?_
   refine WL_nil <| At_then ?_
   refine WC_ret ?_
   refine At_blk_ret <| At_then_ret <| At_then_ret <| At_blk_ret <| At_then_ret <| ?_
   refine At_r1 rfl (ResIs.t rfl) ?_
   cases hm
   exact ⟨rfl, (hs.re 0 [] rfl)⟩
  ·
   replace hm := bif_f hc11 hm
   refine WC_skip ?_
   refine At_blk_normal ?_
   refine At_then <| WC_region ?_
   refine Wo (Run_add (O rfl) Opd.c) rfl <| Wo (Run_move (O rfl)) rfl <| ?_
   refine WL_nil ?_
   exact At_again (IntKind.i64.wrap (t4 + 1)) () hm (hs.re 0 [] rfl) rfl
 ·
  replace hm := bif_f hc6 hm
  refine WC_exit ?_
  refine At_then_exit <| At_then_exit <| At_blk_here <| ?_
  refine At_then <| WC_seq <| WC_region ?_
  refine Wo (Run_move (O rfl)) rfl <| Wo (Run_assign (O rfl)) rfl <| ?_
  refine WL_nil <| At_then ?_
  refine WC_ret ?_
  refine At_r1 rfl (ResIs.t rfl) ?_
  cases hm
  exact ⟨rfl, (hs.re 0 [] rfl)⟩
set_option maxRecDepth 100000 in
set_option maxHeartbeats 4000000 in
theorem lex_letter_ok {Φ : Ctx} {w : World} {c : Int} {r : Bool} (hs : Sat (Φ) w) (hm : lex_letter c = some r) :
  CallsR Tryd.prog 48 [(.int .u8 c)] w (fun v w' => v = (.bool r) ∧ Sat (Φ) w') := by
 refine CallsX_enter Tryd.func48 rfl Tryd.ntmps48 rfl ?_
 unfold lex_letter at hm
 refine WC_seq <| WC_region ?_
 refine Wo (Run_assign Opd.c) rfl <| ?_
 refine WL_nil <| At_then <| WC_seq <| WC_region ?_
 refine Wo (Run_move (O rfl)) rfl <| ?_
 obtain ⟨b3, e4, hm⟩ := letv_some hm
 refine Wo (Run.eqB (Run_geI (O rfl) Opd.c) e4) rfl <| Wo (Run_move (O rfl)) rfl <| WL_opG rfl rfl rfl rfl guard_pos (Run_move (O rfl)) rfl rfl rfl <| ?_
 obtain ⟨b5, e6, hm⟩ := letv_some hm
 refine WL_opG rfl rfl rfl rfl guard_pos (Run.eqB (Run_leI (Opd.g rfl id) Opd.c) e6) rfl rfl rfl <| ?_
 obtain ⟨b7, e8, hm⟩ := letv_some hm
 refine Wo (Run.eqB (Run_and (O rfl) (Opd.g rfl id)) e8) rfl <| Wo (Run_move (O rfl)) rfl <| Wg rfl guard_neg (Run_move (O rfl)) rfl <| ?_
 obtain ⟨b9, e10, hm⟩ := letv_some hm
 refine Wg rfl guard_neg (Run.eqB (Run_geI (Opd.g rfl id) Opd.c) e10) rfl <| Wg rfl guard_neg (Run_move (Opd.g rfl id)) rfl <| WL_opG rfl rfl rfl rfl guard_pos' (Run_move (O rfl)) rfl rfl rfl <| ?_
 obtain ⟨b11, e12, hm⟩ := letv_some hm
 refine WL_opG rfl rfl rfl rfl guard_pos' (Run.eqB (Run_leI (Opd.g rfl id) Opd.c) e12) rfl rfl rfl <| ?_
 obtain ⟨b13, e14, hm⟩ := letv_some hm
 refine Wg rfl guard_neg (Run.eqB (Run_and (Opd.g rfl id) (Opd.g rfl id)) e14) rfl <| ?_
 obtain ⟨b15, e16, hm⟩ := letv_some hm
 refine Wo (Run.eqB (Run_or (O rfl) (Opd.g rfl id)) e16) rfl <| Wo (Run_move (O rfl)) rfl <| Wg rfl guard_neg (Run_move (O rfl)) rfl <| ?_
 obtain ⟨b17, e18, hm⟩ := letv_some hm
 refine Wg rfl guard_neg (Run.eqB (Run_eqI (Opd.g rfl id) Opd.c) e18) rfl <| ?_
 obtain ⟨b19, e20, hm⟩ := letv_some hm
 refine Wo (Run.eqB (Run_or (O rfl) (Opd.g rfl id)) e20) rfl <| Wo (Run_assign (O rfl)) rfl <| ?_
 refine WL_nil <| At_then ?_
 refine WC_ret ?_
 refine At_r1 rfl (ResIs.t rfl) ?_
 cases hm
 exact ⟨rfl, (hs.re 0 [] rfl)⟩
end Go.Proofs.YtdhgpnejphlfpaaDoor
namespace Go.Proofs.YtdhgpnejphlfpaaDoor
open Go.Proofs
set_option maxRecDepth 100000 in
set_option maxHeartbeats 4000000 in
theorem lex_digit_ok {Φ : Ctx} {w : World} {c : Int} {r : Bool} (hs : Sat (Φ) w) (hm : lex_digit c = some r) :
  CallsR Tryd.prog 50 [(.int .u8 c)] w (fun v w' => v = (.bool r) ∧ Sat (Φ) w') := by
 refine CallsX_enter Tryd.func50 rfl Tryd.ntmps50 rfl ?_
 unfold lex_digit at hm
 refine WC_seq <| WC_region ?_
 refine Wo (Run_assign Opd.c) rfl <| ?_
 refine WL_nil <| At_then <| WC_seq <| WC_region ?_
 refine Wo (Run_move (O rfl)) rfl <| ?_
 obtain ⟨b3, e4, hm⟩ := letv_some hm
 refine Wo (Run.eqB (Run_geI (O rfl) Opd.c) e4) rfl <| Wo (Run_move (O rfl)) rfl <| WL_opG rfl rfl rfl rfl guard_pos (Run_move (O rfl)) rfl rfl rfl <| ?_
 obtain ⟨b5, e6, hm⟩ := letv_some hm
 refine WL_opG rfl rfl rfl rfl guard_pos (Run.eqB (Run_leI (Opd.g rfl id) Opd.c) e6) rfl rfl rfl <| ?_
 obtain ⟨b7, e8, hm⟩ := letv_some hm
 refine Wo (Run.eqB (Run_and (O rfl) (Opd.g rfl id)) e8) rfl <| Wo (Run_assign (O rfl)) rfl <| ?_
 refine WL_nil <| At_then ?_
 refine WC_ret ?_
 refine At_r1 rfl (ResIs.t rfl) ?_
 cases hm
 exact ⟨rfl, (hs.re 0 [] rfl)⟩
set_option maxRecDepth 100000 in
set_option maxHeartbeats 4000000 in
theorem lex_either_ok {Φ : Ctx} {w : World} {c : Int} {r : Bool} (hs : Sat (Φ) w) (hm : lex_either c = some r) :
  CallsR Tryd.prog 49 [(.int .u8 c)] w (fun v w' => v = (.bool r) ∧ Sat (Φ) w') := by
 refine CallsX_enter Tryd.func49 rfl Tryd.ntmps49 rfl ?_
 unfold lex_either at hm
 refine WC_seq <| WC_region ?_
 refine Wo (Run_assign Opd.c) rfl <| ?_
 refine WL_nil <| At_then <| WC_seq <| WC_region ?_
 refine Wo (Run_move (O rfl)) rfl <| ?_
 obtain ⟨r3, hr4, hm⟩ := bind_some' hm
 refine WL_call (f := 48) (first := []) (cap := []) (xs := [(.tmp 3)]) (vs := [(.int .u8 c)]) (args := [(.int .u8 c)]) Tryd.call48 Opd.f (.cons (O rfl) .nil) rfl rfl (lex_letter_ok (hs.re 0 [] rfl) hr4) ?_
 rintro _ w5 ⟨rfl, hs⟩
 refine Wo (Run_move (O rfl)) rfl <| Wg rfl guard_neg (Run_move (O rfl)) rfl <| ?_
 obtain ⟨r6, hr7, -, hm⟩ := callG_some hm
 refine WL_callG rfl rfl rfl guard_neg (f := 50) (first := []) (cap := []) (xs := [(.tmp 6)]) (vs := [(.int .u8 c)]) (args := [(.int .u8 c)]) Tryd.call50 Opd.f (.cons (Opd.g rfl id) .nil) rfl rfl (fun hg => lex_digit_ok (hs.re 0 [] rfl) (hr7 hg)) ?_
 intro v9 w8 hv10 hz11
 replace hs := Sat.ofG (fun hg => (hv10 hg).2.re 0 [] rfl) hz11 hs
 refine WL_sub1 (v := (.bool r6)) (fun hg => (hv10 hg).1) ?_
 obtain ⟨b12, e13, hm⟩ := letv_some hm
 refine Wo (Run.eqB (Run_or (O rfl) (Opd.g rfl id)) e13) rfl <| Wo (Run_assign (O rfl)) rfl <| ?_
 refine WL_nil <| At_then ?_
 refine WC_ret ?_
 refine At_r1 rfl (ResIs.t rfl) ?_
 cases hm
 exact ⟨rfl, (hs.re 0 [] rfl)⟩
set_option maxRecDepth 100000 in
set_option maxHeartbeats 4000000 in
theorem lex_run_s2_ok {Φ : Ctx} {w : World} {text : Str} {r : Str} (hs : Sat (Φ) w) (hm : lex_run_s2 text = some r) :
  CallsR Tryd.prog 38 [(S text), (.func (.func 49) #[] #[])] w (fun v w' => v = (S r) ∧ Sat (Φ) w') := by
 refine CallsX_enter Tryd.func38 rfl Tryd.ntmps38 rfl ?_
 unfold lex_run_s2 at hm
 refine WC_seq <| WC_region ?_
 refine Wo (Run_assign Opd.c) rfl <| ?_
 refine WL_nil <| At_then <| WC_seq <| WC_seq <| WC_region ?_
 refine Wo (Run_move (O rfl)) rfl <| Wo (Run_lenS Tryd.underlying9 (O rfl)) rfl <| Wo (Run_move Opd.c) rfl <| ?_
 refine WL_nil <| At_then ?_
 refine WC_block ?_
 refine WC_loop (σ := Int) (γ := Unit) (F := (lex_run_s2_L1 text)) (N := FUEL) (s0 := 0) (r := r) (fun t4 (_ : Unit) w3 => Sat (Φ) w3) (fun t4 (_ : Unit) => [(0, true, (S text)), (1, true, (.func (.func 49) #[] #[])), (7, true, (.int .i64 (List.length text : Int))), (8, true, (.int .i64 t4))]) hm () (hs.re 0 [] rfl) rfl ?_
 rintro again5 t4 _ w3 hm hs
 unfold lex_run_s2_L1 at hm
 refine WC_seq <| WC_region ?_
 refine Wo (Run_ltI (O rfl) (O rfl)) rfl <| ?_
 refine WL_nil <| At_then <| WC_seq ?_
 refine WC_cond (O rfl) (fun hc6 => ?_) (fun hc6 => ?_)
 ·
  replace hm := bif_t hc6 hm
  refine WC_skip ?_
  refine At_then <| WC_seq ?_
  refine WC_block ?_
  refine WC_seq <| WC_region ?_
  refine Wo (Run_move (O rfl)) rfl <| Wo (Run_assign (O rfl)) rfl <| ?_
  refine WL_nil <| At_then <| WC_seq <| WC_region ?_
  refine Wo (Run_move (O rfl)) rfl <| Wo (Run_move (O rfl)) rfl <| Wo (Run_move (O rfl)) rfl <| ?_
  obtain ⟨k7, hm⟩ := chk_some hm
  refine Wo (Run_idxS Tryd.underlying9 (O rfl) (O rfl) (fun _ => k7)) rfl <| ?_
  obtain ⟨r8, hr9, hm⟩ := bind_some' hm
  refine WL_call (f := 49) (first := []) (cap := []) (xs := [(.tmp 14)]) (vs := [(.int .u8 (byteAt text t4))]) (args := [(.int .u8 (byteAt text t4))]) Tryd.call49 (O rfl) (.cons (O rfl) .nil) rfl rfl (lex_either_ok (hs.re 0 [] rfl) hr9) ?_
  rintro _ w10 ⟨rfl, hs⟩
  refine Wo (Run_notB (O rfl)) rfl <| ?_
  refine WL_nil <| At_then ?_
  refine WC_cond (O rfl) (fun hc11 => ?_) (fun hc11 => ?_)
  ·
   replace hm := bif_t hc11 hm
   refine WC_seq <| WC_region ?_
   refine Wo (Run_move (O rfl)) rfl <| Wo (Run_move (O rfl)) rfl <| ?_
   obtain ⟨k12, hm⟩ := chk_some hm
   refine Wo (Run_cutS (lo := none) (hi := (some (.tmp 18))) Tryd.underlying9 (O rfl) rfl ⟨_, (O rfl)⟩ (fun _ => k12)) rfl <| Wo (Run_assign (O rfl)) rfl <| ?_
   refine WL_nil <| At_then ?_
   refine WC_ret ?_
   refine At_blk_ret <| At_then_ret <| At_then_ret <| At_blk_ret <| At_then_ret <| ?_
   refine At_r1 rfl (ResIs.t rfl) ?_
   cases hm
   exact ⟨rfl, (hs.re 0 [] rfl)⟩
  ·
   replace hm := bif_f hc11 hm
   refine WC_skip ?_
   refine At_blk_normal ?_
   refine At_then <| WC_region ?_
   refine Wo (Run_add (O rfl) Opd.c) rfl <| Wo (Run_move (O rfl)) rfl <| ?_
   refine WL_nil ?_
   exact At_again (IntKind.i64.wrap (t4 + 1)) () hm (hs.re 0 [] rfl) rfl
 ·
  replace hm := bif_f hc6 hm
  refine WC_exit ?_
  refine At_then_exit <| At_then_exit <| At_blk_here <| ?_
  refine At_then <| WC_seq <| WC_region ?_
  refine Wo (Run_move (O rfl)) rfl <| Wo (Run_assign (O rfl)) rfl <| ?_
  refine WL_nil <| At_then ?_
  refine WC_ret ?_
  refine At_r1 rfl (ResIs.t rfl) ?_
  cases hm
  exact ⟨rfl, (hs.re 0 [] rfl)⟩
set_option maxRecDepth 100000 in
set_option maxHeartbeats 4000000 in
theorem lex_run_s3_ok {Φ : Ctx} {w : World} {text : Str} {r : Str} (hs : Sat (Φ) w) (hm : lex_run_s3 text = some r) :
  CallsR Tryd.prog 38 [(S text), (.func (.func 50) #[] #[])] w (fun v w' => v = (S r) ∧ Sat (Φ) w') := by
 refine CallsX_enter Tryd.func38 rfl Tryd.ntmps38 rfl ?_
 unfold lex_run_s3 at hm
 refine WC_seq <| WC_region ?_
 refine Wo (Run_assign Opd.c) rfl <| ?_
 refine WL_nil <| At_then <| WC_seq <| WC_seq <| WC_region ?_
 refine Wo (Run_move (O rfl)) rfl <| Wo (Run_lenS Tryd.underlying9 (O rfl)) rfl <| Wo (Run_move Opd.c) rfl <| ?_
 refine WL_nil <| At_then ?_
 refine WC_block ?_
 refine WC_loop (σ := Int) (γ := Unit) (F := (lex_run_s3_L1 text)) (N := FUEL) (s0 := 0) (r := r) (fun t4 (_ : Unit) w3 => Sat (Φ) w3) (fun t4 (_ : Unit) => [(0, true, (S text)), (1, true, (.func (.func 50) #[] #[])), (7, true, (.int .i64 (List.length text : Int))), (8, true, (.int .i64 t4))]) hm () (hs.re 0 [] rfl) rfl ?_
 rintro again5 t4 _ w3 hm hs
 unfold lex_run_s3_L1 at hm
 refine WC_seq <| WC_region ?_
 refine Wo (Run_ltI (O rfl) (O rfl)) rfl <| ?_
 refine WL_nil <| At_then <| WC_seq ?_
 refine WC_cond (O rfl) (fun hc6 => ?_) (fun hc6 => ?_)
 ·
  replace hm := bif_t hc6 hm
  refine WC_skip ?_
  refine At_then <| WC_seq ?_
  refine WC_block ?_
  refine WC_seq <| WC_region ?_
  refine Wo (Run_move (O rfl)) rfl <| Wo (Run_assign (O rfl)) rfl <| ?_
  refine WL_nil <| At_then <| WC_seq <| WC_region ?_
  refine Wo (Run_move (O rfl)) rfl <| Wo (Run_move (O rfl)) rfl <| Wo (Run_move (O rfl)) rfl <| ?_
  obtain ⟨k7, hm⟩ := chk_some hm
  refine Wo (Run_idxS Tryd.underlying9 (O rfl) (O rfl) (fun _ => k7)) rfl <| ?_
  obtain ⟨r8, hr9, hm⟩ := bind_some' hm
  refine WL_call (f := 50) (first := []) (cap := []) (xs := [(.tmp 14)]) (vs := [(.int .u8 (byteAt text t4))]) (args := [(.int .u8 (byteAt text t4))]) Tryd.call50 (O rfl) (.cons (O rfl) .nil) rfl rfl (lex_digit_ok (hs.re 0 [] rfl) hr9) ?_
  rintro _ w10 ⟨rfl, hs⟩
  refine Wo (Run_notB (O rfl)) rfl <| ?_
  refine WL_nil <| At_then ?_
  refine WC_cond (O rfl) (fun hc11 => ?_) (fun hc11 => ?_)
  ·
   replace hm := bif_t hc11 hm
   refine WC_seq <| WC_region ?_
   refine Wo (Run_move (O rfl)) rfl <| Wo (Run_move (O rfl)) rfl <| ?_
   obtain ⟨k12, hm⟩ := chk_some hm
   refine Wo (Run_cutS (lo := none) (hi := (some (.tmp 18))) Tryd.underlying9 (O rfl) rfl ⟨_, (O rfl)⟩ (fun _ => k12)) rfl <| Wo (Run_assign (O rfl)) rfl <| ?_
   refine WL_nil <| At_then ?_
   refine WC_ret ?_
   refine At_blk_ret <| At_then_ret <| At_then_ret <| At_blk_ret <| At_then_ret <| ?_
   refine At_r1 rfl (ResIs.t rfl) ?_
   cases hm
   exact ⟨rfl, (hs.re 0 [] rfl)⟩
  ·
   replace hm := bif_f hc11 hm
   refine WC_skip ?_
   refine At_blk_normal ?_
   refine At_then <| WC_region ?_
   refine Wo (Run_add (O rfl) Opd.c) rfl <| Wo (Run_move (O rfl)) rfl <| ?_
   refine WL_nil ?_
   exact At_again (IntKind.i64.wrap (t4 + 1)) () hm (hs.re 0 [] rfl) rfl
 ·
  replace hm := bif_f hc6 hm
  refine WC_exit ?_
  refine At_then_exit <| At_then_exit <| At_blk_here <| ?_
  refine At_then <| WC_seq <| WC_region ?_
  refine Wo (Run_move (O rfl)) rfl <| Wo (Run_assign (O rfl)) rfl <| ?_
  refine WL_nil <| At_then ?_
  refine WC_ret ?_
  refine At_r1 rfl (ResIs.t rfl) ?_
  cases hm
  exact ⟨rfl, (hs.re 0 [] rfl)⟩
end Go.Proofs.YtdhgpnejphlfpaaDoor
namespace Go.Proofs.YtdhgpnejphlfpaaDoor
open Go.Proofs
set_option maxRecDepth 100000 in
set_option maxHeartbeats 4000000 in
theorem lex_value_ok {Φ : Ctx} {w : World} {s : Str} {r : (Int × Bool)} (hs : Sat (Φ) w) (hm : lex_value s = some r) :
  CallsR Tryd.prog 51 [(S s)] w (fun v w' => v = (.tuple #[(.int .i64 r.1), (.bool r.2)]) ∧ Sat (Φ) w') := by
 refine CallsX_enter Tryd.func51 rfl Tryd.ntmps51 rfl ?_
 unfold lex_value at hm
 refine WC_seq <| WC_region ?_
 refine Wo (Run_assign Opd.c) rfl <| Wo (Run_assign Opd.c) rfl <| ?_
 refine WL_nil <| At_then <| WC_seq <| WC_region ?_
 refine Wo (Run_assign Opd.c) rfl <| ?_
 refine WL_nil <| At_then <| WC_seq <| WC_seq <| WC_region ?_
 refine Wo (Run_move (O rfl)) rfl <| ?_
 refine WS_range hs Tryd.underlying9 (O rfl) rfl ?_
 intro b4 w5 hs
 refine WL_nil <| At_then ?_
 refine WC_block ?_
 refine WC_loop (σ := Int × Nat) (γ := Unit) (F := (lex_value_L1 s)) (N := FUEL) (s0 := (0, 0)) (r := r) (fun ⟨n7, p8⟩ (_ : Unit) w6 => Sat (iter b4 s p8 :: Φ) w6) (fun ⟨n7, p8⟩ (_ : Unit) => [(4, true, (.int .i64 n7)), (8, true, (.pointer (some ⟨b4, 0, none⟩)))]) hm () (hs.re 1 [0] rfl) rfl ?_
 rintro again9 ⟨n7, p8⟩ _ w6 hm hs
 unfold lex_value_L1 at hm
 dsimp only at hm
 refine WC_seq <| WC_region ?_
 refine WS_next hs 0 rfl (O rfl) rfl (fun hn10 => ?_) (fun hn10 => ?_)
 ·
  replace hm := bif_t hn10 hm
  intro w11 hs
  refine Wo (Run_extract (vs := [(.bool true), (.int .i64 (p8 : Int)), (.int .i32 (runeAt s p8))]) (O rfl) rfl) rfl <| ?_
  refine WL_nil <| At_then <| WC_seq ?_
  refine WC_cond (O rfl) (fun _ => ?_) (fun h => by cases h)
  refine WC_skip ?_
  refine At_then ?_
  refine WC_block ?_
  refine WC_seq <| WC_region ?_
  refine Wo (Run_extract (vs := [(.bool true), (.int .i64 (p8 : Int)), (.int .i32 (runeAt s p8))]) (O rfl) rfl) rfl <| Wo (Run_assign (O rfl)) rfl <| ?_
  refine WL_nil <| At_then <| WC_seq <| WC_region ?_
  refine Wo (Run_move (O rfl)) rfl <| Wo (Run_mul Opd.c (O rfl)) rfl <| Wo (Run_move (O rfl)) rfl <| Wo (Run_sub (O rfl) Opd.c) rfl <| Wo (Run_conv Tryd.underlying21 Tryd.underlying3 (O rfl)) rfl <| Wo (Run_add (O rfl) (O rfl)) rfl <| Wo (Run_assign (O rfl)) rfl <| ?_
  refine WL_nil <| At_then <| WC_seq <| WC_region ?_
  refine Wo (Run_move (O rfl)) rfl <| Wo (Run_gtI (O rfl) Opd.c) rfl <| ?_
  refine WL_nil <| At_then ?_
  refine WC_cond (O rfl) (fun hc12 => ?_) (fun hc12 => ?_)
  ·
   replace hm := bif_t hc12 hm
   refine WC_seq <| WC_region ?_
   refine Wo (Run_assign Opd.c) rfl <| Wo (Run_assign Opd.c) rfl <| ?_
   refine WL_nil <| At_then ?_
   refine WC_ret ?_
   refine At_blk_ret <| At_then_ret <| At_blk_ret <| At_then_ret <| ?_
   refine At_r2 rfl (ResIs.t rfl) (ResIs.t rfl) ?_
   cases hm
   exact ⟨rfl, (hs.re 1 [] rfl)⟩
  ·
   replace hm := bif_f hc12 hm
   refine WC_skip ?_
   refine At_blk_normal ?_
   exact At_again ((IntKind.i64.wrap ((IntKind.i64.wrap (10 * n7)) + (IntKind.i64.wrap (IntKind.i32.wrap ((runeAt s p8) - 48))))), (runePos s p8)) () hm (hs.re 1 [0] rfl) rfl
 ·
  replace hm := bif_f hn10 hm
  refine Wo (Run_extract (vs := [(.bool false)]) (O rfl) rfl) rfl <| ?_
  refine WL_nil <| At_then <| WC_seq ?_
  refine WC_cond (O rfl) (fun h => by cases h) (fun _ => ?_)
  refine WC_exit ?_
  refine At_then_exit <| At_then_exit <| At_blk_here <| ?_
  refine At_then <| WC_seq <| WC_region ?_
  refine Wo (Run_move (O rfl)) rfl <| Wo (Run_assign (O rfl)) rfl <| Wo (Run_assign Opd.c) rfl <| ?_
  refine WL_nil <| At_then ?_
  refine WC_ret ?_
  refine At_r2 rfl (ResIs.t rfl) (ResIs.t rfl) ?_
  cases hm
  exact ⟨rfl, (hs.re 1 [] rfl)⟩
set_option maxRecDepth 100000 in
set_option maxHeartbeats 4000000 in
theorem lex_Signs_ok {Φ : Ctx} {w : World} {r : (List Str)} (hs : Sat (Φ) w) (hm : lex_Signs = some r) :
  CallsR Tryd.prog 59 [] w (fun v w' => ∃ v3 : SLV, ∃ R4 : List Nat, v = (sl v3) ∧ Sat (osl RS 9 (sl v3) r R4 :: Φ) w') := by
 refine CallsX_enter Tryd.func59 rfl Tryd.ntmps59 rfl ?_
 unfold lex_Signs at hm
 refine WC_seq <| WC_region ?_
 refine Wo (Run_assign Opd.c) rfl <| ?_
 refine WL_nil <| At_then <| WC_seq <| WC_region ?_
 refine WS_lit (A := RS) (xs := [[60, 45, 62], [45, 62], [61, 61], [33, 61], [60, 61], [62, 61], [60], [62], [61], [43], [45], [42], [40], [41], [123], [125], [59], [44], [58], [38], [124], [33]]) (zs := [(S [])]) (cells := [(S [60, 45, 62]), (S [45, 62]), (S [61, 61]), (S [33, 61]), (S [60, 61]), (S [62, 61]), (S [60]), (S [62]), (S [61]), (S [43]), (S [45]), (S [42]), (S [40]), (S [41]), (S [123]), (S [125]), (S [59]), (S [44]), (S [58]), (S [38]), (S [124]), (S [33])]) (parts := [(0, (.const (.string ⟨#[60, 45, 62]⟩))), (1, (.const (.string ⟨#[45, 62]⟩))), (2, (.const (.string ⟨#[61, 61]⟩))), (3, (.const (.string ⟨#[33, 61]⟩))), (4, (.const (.string ⟨#[60, 61]⟩))), (5, (.const (.string ⟨#[62, 61]⟩))), (6, (.const (.string ⟨#[60]⟩))), (7, (.const (.string ⟨#[62]⟩))), (8, (.const (.string ⟨#[61]⟩))), (9, (.const (.string ⟨#[43]⟩))), (10, (.const (.string ⟨#[45]⟩))), (11, (.const (.string ⟨#[42]⟩))), (12, (.const (.string ⟨#[40]⟩))), (13, (.const (.string ⟨#[41]⟩))), (14, (.const (.string ⟨#[123]⟩))), (15, (.const (.string ⟨#[125]⟩))), (16, (.const (.string ⟨#[59]⟩))), (17, (.const (.string ⟨#[44]⟩))), (18, (.const (.string ⟨#[58]⟩))), (19, (.const (.string ⟨#[38]⟩))), (20, (.const (.string ⟨#[124]⟩))), (21, (.const (.string ⟨#[33]⟩)))]) hs Tryd.underlying26 ti9 rfl rfl rfl (.cons Opd.c (.cons Opd.c (.cons Opd.c (.cons Opd.c (.cons Opd.c (.cons Opd.c (.cons Opd.c (.cons Opd.c (.cons Opd.c (.cons Opd.c (.cons Opd.c (.cons Opd.c (.cons Opd.c (.cons Opd.c (.cons Opd.c (.cons Opd.c (.cons Opd.c (.cons Opd.c (.cons Opd.c (.cons Opd.c (.cons Opd.c (.cons Opd.c .nil)))))))))))))))))))))) (by kernel_rfl) rfl (ARd.cons (A := RS) (c := [(S [60, 45, 62])]) (x := [60, 45, 62]) rfl (ARd.cons (A := RS) (c := [(S [45, 62])]) (x := [45, 62]) rfl (ARd.cons (A := RS) (c := [(S [61, 61])]) (x := [61, 61]) rfl (ARd.cons (A := RS) (c := [(S [33, 61])]) (x := [33, 61]) rfl (ARd.cons (A := RS) (c := [(S [60, 61])]) (x := [60, 61]) rfl (ARd.cons (A := RS) (c := [(S [62, 61])]) (x := [62, 61]) rfl (ARd.cons (A := RS) (c := [(S [60])]) (x := [60]) rfl (ARd.cons (A := RS) (c := [(S [62])]) (x := [62]) rfl (ARd.cons (A := RS) (c := [(S [61])]) (x := [61]) rfl (ARd.cons (A := RS) (c := [(S [43])]) (x := [43]) rfl (ARd.cons (A := RS) (c := [(S [45])]) (x := [45]) rfl (ARd.cons (A := RS) (c := [(S [42])]) (x := [42]) rfl (ARd.cons (A := RS) (c := [(S [40])]) (x := [40]) rfl (ARd.cons (A := RS) (c := [(S [41])]) (x := [41]) rfl (ARd.cons (A := RS) (c := [(S [123])]) (x := [123]) rfl (ARd.cons (A := RS) (c := [(S [125])]) (x := [125]) rfl (ARd.cons (A := RS) (c := [(S [59])]) (x := [59]) rfl (ARd.cons (A := RS) (c := [(S [44])]) (x := [44]) rfl (ARd.cons (A := RS) (c := [(S [58])]) (x := [58]) rfl (ARd.cons (A := RS) (c := [(S [38])]) (x := [38]) rfl (ARd.cons (A := RS) (c := [(S [124])]) (x := [124]) rfl (ARd.cons (A := RS) (c := [(S [33])]) (x := [33]) rfl ARd.nil)))))))))))))))))))))) rfl ?_
 intro b5 w6 hs
 replace hs := Sat.n1 (Γ := Φ) hs rfl
 refine Wo (Run_assign (O rfl)) rfl <| ?_
 refine WL_nil <| At_then ?_
 refine WC_ret ?_
 refine At_r1 rfl (ResIs.t rfl) ?_
 cases hm
 exact ⟨(some ⟨b5, 0, none⟩, 22, 22), [b5], rfl, (hs.re 1 [0] rfl)⟩
set_option maxRecDepth 100000 in
set_option maxHeartbeats 4000000 in
theorem internal_stringslite_HasPrefix_ok {Φ : Ctx} {w : World} {s : Str} {prefix_ : Str} {r : Bool} (hs : Sat (Φ) w) (hm : internal_stringslite_HasPrefix s prefix_ = some r) :
  CallsR Tryd.prog 69 [(S s), (S prefix_)] w (fun v w' => v = (.bool r) ∧ Sat (Φ) w') := by
 refine CallsX_enter Tryd.func69 rfl Tryd.ntmps69 rfl ?_
 unfold internal_stringslite_HasPrefix at hm
 refine WC_seq <| WC_region ?_
 refine Wo (Run_assign Opd.c) rfl <| ?_
 refine WL_nil <| At_then <| WC_seq <| WC_region ?_
 refine Wo (Run_move (O rfl)) rfl <| Wo (Run_lenS Tryd.underlying9 (O rfl)) rfl <| Wo (Run_move (O rfl)) rfl <| Wo (Run_lenS Tryd.underlying9 (O rfl)) rfl <| ?_
 obtain ⟨b3, e4, hm⟩ := letv_some hm
 refine Wo (Run.eqB (Run_geI (O rfl) (O rfl)) e4) rfl <| Wo (Run_move (O rfl)) rfl <| WL_opG rfl rfl rfl rfl guard_pos (Run_move (O rfl)) rfl rfl rfl <| WL_opG rfl rfl rfl rfl guard_pos (Run_move (O rfl)) rfl rfl rfl <| WL_opG rfl rfl rfl rfl guard_pos (Run_lenS Tryd.underlying9 (Opd.g rfl id)) rfl rfl rfl <| ?_
 obtain ⟨k5, hm⟩ := chkG_some hm
 refine WL_opG rfl rfl rfl rfl guard_pos (Run_cutS (lo := none) (hi := (some (.tmp 13))) Tryd.underlying9 (Opd.g rfl id) rfl ⟨_, (Opd.g rfl id)⟩ k5) rfl rfl rfl <| WL_opG rfl rfl rfl rfl guard_pos (Run_move (O rfl)) rfl rfl rfl <| ?_
 obtain ⟨b6, e7, hm⟩ := letv_some hm
 refine WL_opG rfl rfl rfl rfl guard_pos (Run.eqB (Run_eqS (Opd.g rfl id) (Opd.g rfl id)) e7) rfl rfl rfl <| ?_
 obtain ⟨b8, e9, hm⟩ := letv_some hm
 refine Wo (Run.eqB (Run_and (O rfl) (Opd.g rfl id)) e9) rfl <| Wo (Run_assign (O rfl)) rfl <| ?_
 refine WL_nil <| At_then ?_
 refine WC_ret ?_
 refine At_r1 rfl (ResIs.t rfl) ?_
 cases hm
 exact ⟨rfl, (hs.re 0 [] rfl)⟩
set_option maxRecDepth 100000 in
set_option maxHeartbeats 4000000 in
theorem strings_HasPrefix_ok {Φ : Ctx} {w : World} {s : Str} {prefix_ : Str} {r : Bool} (hs : Sat (Φ) w) (hm : strings_HasPrefix s prefix_ = some r) :
  CallsR Tryd.prog 60 [(S s), (S prefix_)] w (fun v w' => v = (.bool r) ∧ Sat (Φ) w') := by
 refine CallsX_enter Tryd.func60 rfl Tryd.ntmps60 rfl ?_
 unfold strings_HasPrefix at hm
 refine WC_seq <| WC_region ?_
 refine Wo (Run_assign Opd.c) rfl <| ?_
 refine WL_nil <| At_then <| WC_seq <| WC_region ?_
 refine Wo (Run_move (O rfl)) rfl <| Wo (Run_move (O rfl)) rfl <| ?_
 obtain ⟨r3, hr4, hm⟩ := bind_some' hm
 refine WL_call (f := 69) (first := []) (cap := []) (xs := [(.tmp 5), (.tmp 6)]) (vs := [(S s), (S prefix_)]) (args := [(S s), (S prefix_)]) Tryd.call69 Opd.f (.cons (O rfl) (.cons (O rfl) .nil)) rfl rfl (internal_stringslite_HasPrefix_ok (hs.re 0 [] rfl) hr4) ?_
 rintro _ w5 ⟨rfl, hs⟩
 refine Wo (Run_assign (O rfl)) rfl <| ?_
 refine WL_nil <| At_then ?_
 refine WC_ret ?_
 refine At_r1 rfl (ResIs.t rfl) ?_
 cases hm
 exact ⟨rfl, (hs.re 0 [] rfl)⟩
end Go.Proofs.YtdhgpnejphlfpaaDoor
namespace Go.Proofs.YtdhgpnejphlfpaaDoor
open Go.Proofs
set_option maxRecDepth 100000 in
set_option maxHeartbeats 4000000 in
theorem lex_sign_ok {Φ : Ctx} {w : World} {text : Str} {r : Str} (hs : Sat (Φ) w) (hm : lex_sign text = some r) :
  CallsR Tryd.prog 52 [(S text)] w (fun v w' => v = (S r) ∧ Sat (Φ) w') := by
 refine CallsX_enter Tryd.func52 rfl Tryd.ntmps52 rfl ?_
 unfold lex_sign at hm
 refine WC_seq <| WC_region ?_
 refine Wo (Run_assign Opd.c) rfl <| ?_
 refine WL_nil <| At_then <| WC_seq <| WC_seq <| WC_region ?_
 obtain ⟨r3, hr4, hm⟩ := bind_some' hm
 refine WL_call (f := 59) (first := []) (cap := []) (xs := []) (vs := []) (args := []) Tryd.call59 Opd.f .nil rfl rfl (lex_Signs_ok (hs.re 0 [] rfl) hr4) ?_
 rintro _ w7 ⟨v5, R6, rfl, hs⟩
 replace hs := Sat.n1 (Γ := Φ) hs rfl
 refine Wo (Run_lenSlG Tryd.underlying26 (O rfl) (fun _ => (hs.own (i := 0) rfl).len)) rfl <| Wo (Run_move Opd.c) rfl <| ?_
 refine WL_nil <| At_then ?_
 refine WC_block ?_
 refine WC_loop (σ := Int) (γ := Unit) (F := (lex_sign_L1 text r3)) (N := FUEL) (s0 := 0) (r := r) (fun t9 (_ : Unit) w8 => Sat (osl RS 9 (sl v5) r3 R6 :: Φ) w8) (fun t9 (_ : Unit) => [(0, true, (S text)), (5, true, (sl v5)), (6, true, (.int .i64 (List.length r3 : Int))), (7, true, (.int .i64 t9))]) hm () (hs.re 1 [0] rfl) rfl ?_
 rintro again10 t9 _ w8 hm hs
 unfold lex_sign_L1 at hm
 refine WC_seq <| WC_region ?_
 refine Wo (Run_ltI (O rfl) (O rfl)) rfl <| ?_
 refine WL_nil <| At_then <| WC_seq ?_
 refine WC_cond (O rfl) (fun hc11 => ?_) (fun hc11 => ?_)
 ·
  replace hm := bif_t hc11 hm
  refine WC_skip ?_
  refine At_then <| WC_seq ?_
  refine WC_block ?_
  refine WC_seq <| WC_region ?_
  obtain ⟨e12, he13, hm⟩ := bind_some' hm
  refine Wo (Run_idxAddr (p := (elA (sl v5) t9 1)) Tryd.underlying26 ti9 (O rfl) (O rfl) (fun hg => (Own.atA (A := RS) (v := (sl v5)) (hs.own (i := 0) rfl) he13).1)) rfl <| Wo (Run_load1 (v := (S e12)) Tryd.underlying9 rfl (O rfl) (fun hg => (Own.cellsF (A := RS) (v := (sl v5)) (hs.own (i := 0) rfl) he13 (fun _ h => openT9 h)).sub 0 rfl)) rfl <| Wo (Run_assign (O rfl)) rfl <| ?_
  refine WL_nil <| At_then <| WC_seq <| WC_region ?_
  refine Wo (Run_move (O rfl)) rfl <| Wo (Run_move (O rfl)) rfl <| ?_
  obtain ⟨r14, hr15, hm⟩ := bind_some' hm
  refine WL_call (f := 60) (first := []) (cap := []) (xs := [(.tmp 11), (.tmp 12)]) (vs := [(S text), (S e12)]) (args := [(S text), (S e12)]) Tryd.call60 Opd.f (.cons (O rfl) (.cons (O rfl) .nil)) rfl rfl (strings_HasPrefix_ok (hs.re 1 [0] rfl) hr15) ?_
  rintro _ w16 ⟨rfl, hs⟩
  replace hs := Sat.n1 (Γ := Φ) hs rfl
  refine WL_nil <| At_then ?_
  refine WC_cond (O rfl) (fun hc17 => ?_) (fun hc17 => ?_)
  ·
   replace hm := bif_t hc17 hm
   refine WC_seq <| WC_region ?_
   refine Wo (Run_move (O rfl)) rfl <| Wo (Run_assign (O rfl)) rfl <| ?_
   refine WL_nil <| At_then ?_
   refine WC_ret ?_
   refine At_blk_ret <| At_then_ret <| At_then_ret <| At_blk_ret <| At_then_ret <| ?_
   refine At_r1 rfl (ResIs.t rfl) ?_
   cases hm
   exact ⟨rfl, (hs.re 1 [] rfl)⟩
  ·
   replace hm := bif_f hc17 hm
   refine WC_skip ?_
   refine At_blk_normal ?_
   refine At_then <| WC_region ?_
   refine Wo (Run_add (O rfl) Opd.c) rfl <| Wo (Run_move (O rfl)) rfl <| ?_
   refine WL_nil ?_
   exact At_again (IntKind.i64.wrap (t9 + 1)) () hm (hs.re 1 [0] rfl) rfl
 ·
  replace hm := bif_f hc11 hm
  refine WC_exit ?_
  refine At_then_exit <| At_then_exit <| At_blk_here <| ?_
  refine At_then <| WC_seq <| WC_region ?_
  refine Wo (Run_assign Opd.c) rfl <| ?_
  refine WL_nil <| At_then ?_
  refine WC_ret ?_
  refine At_r1 rfl (ResIs.t rfl) ?_
  cases hm
  exact ⟨rfl, (hs.re 1 [] rfl)⟩
set_option maxRecDepth 100000 in
set_option maxHeartbeats 4000000 in
theorem lex_token_ok {Φ : Ctx} {w : World} {text : Str} {r : ((Int × Str × Int × Int) × Int)} (hs : Sat (Φ) w) (hm : lex_token text = some r) :
  CallsR Tryd.prog 40 [(S text)] w (fun v w' => v = (.tuple #[(.agg #[(.int .i64 r.1.1), (S r.1.2.1), (.int .i64 r.1.2.2.1), (.int .i64 r.1.2.2.2)]), (.int .i64 r.2)]) ∧ Sat (Φ) w') := by
 refine CallsX_enter Tryd.func40 rfl Tryd.ntmps40 rfl ?_
 unfold lex_token at hm
 refine WC_seq <| WC_region ?_
 refine WS_alloc (zs := [(.int .i64 0), (S []), (.int .i64 0), (.int .i64 0)]) hs ti28 rfl rfl ?_
 intro b4 w5 hs
 replace hs := Sat.n1 (Γ := Φ) hs rfl
 refine Wo (Run_assign Opd.c) rfl <| ?_
 refine WL_nil <| At_then <| WC_seq <| WC_seq <| WC_region ?_
 refine Wo (Run_move (O rfl)) rfl <| ?_
 obtain ⟨k6, hm⟩ := chk_some hm
 refine Wo (Run_idxS Tryd.underlying9 (O rfl) Opd.c (fun _ => k6)) rfl <| Wo (Run_assign (O rfl)) rfl <| ?_
 refine WL_nil <| At_then ?_
 refine WC_block ?_
 refine WC_seq <| WC_region ?_
 refine Wo (Run_move (O rfl)) rfl <| ?_
 obtain ⟨r7, hr8, hm⟩ := bind_some' hm
 refine WL_call (f := 48) (first := []) (cap := []) (xs := [(.tmp 13)]) (vs := [(.int .u8 (byteAt text 0))]) (args := [(.int .u8 (byteAt text 0))]) Tryd.call48 Opd.f (.cons (O rfl) .nil) rfl rfl (lex_letter_ok (hs.re 1 [0] rfl) hr8) ?_
 rintro _ w9 ⟨rfl, hs⟩
 replace hs := Sat.n1 (Γ := Φ) hs rfl
 refine Wo (Run_assign (O rfl)) rfl <| ?_
 refine WL_nil <| At_then ?_
 refine WC_cond (O rfl) (fun hc10 => ?_) (fun hc10 => ?_)
 ·
  replace hm := bif_t hc10 hm
  refine WC_seq <| WC_region ?_
  refine Wo (Run_move (O rfl)) rfl <| ?_
  obtain ⟨r11, hr12, hm⟩ := bind_some' hm
  refine WL_call (f := 38) (first := []) (cap := []) (xs := [(.tmp 15), (.func 49)]) (vs := [(S text), (.func (.func 49) #[] #[])]) (args := [(S text), (.func (.func 49) #[] #[])]) Tryd.call38 Opd.f (.cons (O rfl) (.cons Opd.f .nil)) rfl rfl (lex_run_s2_ok (hs.re 1 [0] rfl) hr12) ?_
  rintro _ w13 ⟨rfl, hs⟩
  replace hs := Sat.n1 (Γ := Φ) hs rfl
  refine Wo (Run_assign (O rfl)) rfl <| ?_
  refine WL_nil <| At_then <| WC_seq <| WC_seq <| WC_region ?_
  refine Wo (Run_move (O rfl)) rfl <| Wo (Run_lenS Tryd.underlying9 (O rfl)) rfl <| Wo (Run_gtI (O rfl) Opd.c) rfl <| ?_
  refine WL_nil <| At_then ?_
  refine WC_cond (O rfl) (fun hc14 => ?_) (fun hc14 => ?_)
  ·
   replace hm := bif_t hc14 hm
   refine WC_seq <| WC_region ?_
   refine Wo (Run_build (parts := []) (v := (.agg #[(.int .i64 0), (S []), (.int .i64 0), (.int .i64 0)])) .nil (fun _ => by kernel_rfl)) rfl <| ?_
   refine WS_store (us := [(.int .i64 0), (S []), (.int .i64 0), (.int .i64 0)]) (vs' := [(.int .i64 0), (S []), (.int .i64 0), (.int .i64 0)]) hs 0 rfl ti28 (O rfl) (O rfl) rfl rfl rfl rfl rfl ?_
   intro w15 hs
   replace hs := Sat.n1 (Γ := Φ) hs rfl
   refine Wo (Run_assign Opd.c) rfl <| ?_
   refine WL_nil <| At_then ?_
   refine WC_ret ?_
   refine At_then_ret <| At_blk_ret <| At_then_ret <| ?_
   refine At_r2 rfl (ResIs.cA (vs := [(.int .i64 0), (S []), (.int .i64 0), (.int .i64 0)]) rfl Tryd.underlying28 rfl ti28 ((hs.box (i := 0) rfl).part 0 rfl) rfl) (ResIs.t rfl) ?_
   cases hm
   exact ⟨rfl, (hs.re 1 [] rfl)⟩
  ·
   replace hm := bif_f hc14 hm
   refine WC_skip ?_
   refine At_then <| WC_seq <| WC_region ?_
   refine Wo (Run_move (O rfl)) rfl <| Wo (Run_build (parts := [(0, (.const (.int .i64 1))), (1, (.tmp 21))]) (v := (.agg #[(.int .i64 1), (S r11), (.int .i64 0), (.int .i64 0)])) (.cons Opd.c (.cons (O rfl) .nil)) (fun _ => by kernel_rfl)) rfl <| ?_
   refine WS_store (us := [(.int .i64 1), (S r11), (.int .i64 0), (.int .i64 0)]) (vs' := [(.int .i64 1), (S r11), (.int .i64 0), (.int .i64 0)]) hs 0 rfl ti28 (O rfl) (O rfl) rfl rfl rfl rfl rfl ?_
   intro w16 hs
   replace hs := Sat.n1 (Γ := Φ) hs rfl
   refine Wo (Run_assign Opd.c) rfl <| ?_
   refine WL_nil <| At_then ?_
   refine WC_ret ?_
   refine At_blk_ret <| At_then_ret <| ?_
   refine At_r2 rfl (ResIs.cA (vs := [(.int .i64 1), (S r11), (.int .i64 0), (.int .i64 0)]) rfl Tryd.underlying28 rfl ti28 ((hs.box (i := 0) rfl).part 0 rfl) rfl) (ResIs.t rfl) ?_
   cases hm
   exact ⟨rfl, (hs.re 1 [] rfl)⟩
 ·
  replace hm := bif_f hc10 hm
  refine WC_seq <| WC_region ?_
  refine Wo (Run_move (O rfl)) rfl <| ?_
  obtain ⟨r17, hr18, hm⟩ := bind_some' hm
  refine WL_call (f := 50) (first := []) (cap := []) (xs := [(.tmp 24)]) (vs := [(.int .u8 (byteAt text 0))]) (args := [(.int .u8 (byteAt text 0))]) Tryd.call50 Opd.f (.cons (O rfl) .nil) rfl rfl (lex_digit_ok (hs.re 1 [0] rfl) hr18) ?_
  rintro _ w19 ⟨rfl, hs⟩
  replace hs := Sat.n1 (Γ := Φ) hs rfl
  refine Wo (Run_assign (O rfl)) rfl <| ?_
  refine WL_nil <| At_then ?_
  refine WC_cond (O rfl) (fun hc20 => ?_) (fun hc20 => ?_)
  ·
   replace hm := bif_t hc20 hm
   refine WC_seq <| WC_region ?_
   refine Wo (Run_move (O rfl)) rfl <| ?_
   obtain ⟨r21, hr22, hm⟩ := bind_some' hm
   refine WL_call (f := 38) (first := []) (cap := []) (xs := [(.tmp 26), (.func 50)]) (vs := [(S text), (.func (.func 50) #[] #[])]) (args := [(S text), (.func (.func 50) #[] #[])]) Tryd.call38 Opd.f (.cons (O rfl) (.cons Opd.f .nil)) rfl rfl (lex_run_s3_ok (hs.re 1 [0] rfl) hr22) ?_
   rintro _ w23 ⟨rfl, hs⟩
   replace hs := Sat.n1 (Γ := Φ) hs rfl
   refine Wo (Run_assign (O rfl)) rfl <| ?_
   refine WL_nil <| At_then <| WC_seq <| WC_region ?_
   refine Wo (Run_move (O rfl)) rfl <| ?_
   obtain ⟨r24, hr25, hm⟩ := bind_some' hm
   refine WL_call (f := 51) (first := []) (cap := []) (xs := [(.tmp 29)]) (vs := [(S r21)]) (args := [(S r21)]) Tryd.call51 Opd.f (.cons (O rfl) .nil) rfl rfl (lex_value_ok (hs.re 1 [0] rfl) hr25) ?_
   rintro _ w26 ⟨rfl, hs⟩
   replace hs := Sat.n1 (Γ := Φ) hs rfl
   refine Wo (Run_move (O rfl)) rfl <| Wo (Run_extract (vs := [(.int .i64 r24.1), (.bool r24.2)]) (O rfl) rfl) rfl <| Wo (Run_extract (vs := [(.int .i64 r24.1), (.bool r24.2)]) (O rfl) rfl) rfl <| Wo (Run_assign (O rfl)) rfl <| Wo (Run_assign (O rfl)) rfl <| ?_
   refine WL_nil <| At_then <| WC_seq <| WC_seq <| WC_region ?_
   refine Wo (Run_move (O rfl)) rfl <| Wo (Run_notB (O rfl)) rfl <| ?_
   refine WL_nil <| At_then ?_
   refine WC_cond (O rfl) (fun hc27 => ?_) (fun hc27 => ?_)
   ·
    replace hm := bif_t hc27 hm
    refine WC_seq <| WC_region ?_
    refine Wo (Run_build (parts := []) (v := (.agg #[(.int .i64 0), (S []), (.int .i64 0), (.int .i64 0)])) .nil (fun _ => by kernel_rfl)) rfl <| ?_
    refine WS_store (us := [(.int .i64 0), (S []), (.int .i64 0), (.int .i64 0)]) (vs' := [(.int .i64 0), (S []), (.int .i64 0), (.int .i64 0)]) hs 0 rfl ti28 (O rfl) (O rfl) rfl rfl rfl rfl rfl ?_
    intro w28 hs
    replace hs := Sat.n1 (Γ := Φ) hs rfl
    refine Wo (Run_assign Opd.c) rfl <| ?_
    refine WL_nil <| At_then ?_
    refine WC_ret ?_
    refine At_then_ret <| At_blk_ret <| At_then_ret <| ?_
    refine At_r2 rfl (ResIs.cA (vs := [(.int .i64 0), (S []), (.int .i64 0), (.int .i64 0)]) rfl Tryd.underlying28 rfl ti28 ((hs.box (i := 0) rfl).part 0 rfl) rfl) (ResIs.t rfl) ?_
    cases hm
    exact ⟨rfl, (hs.re 1 [] rfl)⟩
   ·
    replace hm := bif_f hc27 hm
    refine WC_skip ?_
    refine At_then <| WC_seq <| WC_region ?_
    refine Wo (Run_move (O rfl)) rfl <| Wo (Run_move (O rfl)) rfl <| Wo (Run_build (parts := [(0, (.const (.int .i64 2))), (1, (.tmp 36)), (2, (.tmp 37))]) (v := (.agg #[(.int .i64 2), (S r21), (.int .i64 r24.1), (.int .i64 0)])) (.cons Opd.c (.cons (O rfl) (.cons (O rfl) .nil))) (fun _ => by kernel_rfl)) rfl <| ?_
    refine WS_store (us := [(.int .i64 2), (S r21), (.int .i64 r24.1), (.int .i64 0)]) (vs' := [(.int .i64 2), (S r21), (.int .i64 r24.1), (.int .i64 0)]) hs 0 rfl ti28 (O rfl) (O rfl) rfl rfl rfl rfl rfl ?_
    intro w29 hs
    replace hs := Sat.n1 (Γ := Φ) hs rfl
    refine Wo (Run_assign Opd.c) rfl <| ?_
    refine WL_nil <| At_then ?_
    refine WC_ret ?_
    refine At_blk_ret <| At_then_ret <| ?_
    refine At_r2 rfl (ResIs.cA (vs := [(.int .i64 2), (S r21), (.int .i64 r24.1), (.int .i64 0)]) rfl Tryd.underlying28 rfl ti28 ((hs.box (i := 0) rfl).part 0 rfl) rfl) (ResIs.t rfl) ?_
    cases hm
    exact ⟨rfl, (hs.re 1 [] rfl)⟩
  ·
   replace hm := bif_f hc20 hm
   refine WC_skip ?_
   refine At_blk_normal ?_
   refine At_then <| WC_seq <| WC_region ?_
   refine Wo (Run_move (O rfl)) rfl <| ?_
   obtain ⟨r30, hr31, hm⟩ := bind_some' hm
   refine WL_call (f := 52) (first := []) (cap := []) (xs := [(.tmp 39)]) (vs := [(S text)]) (args := [(S text)]) Tryd.call52 Opd.f (.cons (O rfl) .nil) rfl rfl (lex_sign_ok (hs.re 1 [0] rfl) hr31) ?_
   rintro _ w32 ⟨rfl, hs⟩
   replace hs := Sat.n1 (Γ := Φ) hs rfl
   refine Wo (Run_assign (O rfl)) rfl <| ?_
   refine WL_nil <| At_then <| WC_seq <| WC_seq <| WC_region ?_
   refine Wo (Run_move (O rfl)) rfl <| Wo (Run_eqS (O rfl) Opd.c) rfl <| ?_
   refine WL_nil <| At_then ?_
   refine WC_cond (O rfl) (fun hc33 => ?_) (fun hc33 => ?_)
   ·
    replace hm := bif_t hc33 hm
    refine WC_seq <| WC_region ?_
    refine Wo (Run_build (parts := []) (v := (.agg #[(.int .i64 0), (S []), (.int .i64 0), (.int .i64 0)])) .nil (fun _ => by kernel_rfl)) rfl <| ?_
    refine WS_store (us := [(.int .i64 0), (S []), (.int .i64 0), (.int .i64 0)]) (vs' := [(.int .i64 0), (S []), (.int .i64 0), (.int .i64 0)]) hs 0 rfl ti28 (O rfl) (O rfl) rfl rfl rfl rfl rfl ?_
    intro w34 hs
    replace hs := Sat.n1 (Γ := Φ) hs rfl
    refine Wo (Run_assign Opd.c) rfl <| ?_
    refine WL_nil <| At_then ?_
    refine WC_ret ?_
    refine At_then_ret <| ?_
    refine At_r2 rfl (ResIs.cA (vs := [(.int .i64 0), (S []), (.int .i64 0), (.int .i64 0)]) rfl Tryd.underlying28 rfl ti28 ((hs.box (i := 0) rfl).part 0 rfl) rfl) (ResIs.t rfl) ?_
    cases hm
    exact ⟨rfl, (hs.re 1 [] rfl)⟩
   ·
    replace hm := bif_f hc33 hm
    refine WC_skip ?_
    refine At_then <| WC_seq <| WC_region ?_
    refine Wo (Run_move (O rfl)) rfl <| Wo (Run_build (parts := [(0, (.const (.int .i64 3))), (1, (.tmp 44))]) (v := (.agg #[(.int .i64 3), (S r30), (.int .i64 0), (.int .i64 0)])) (.cons Opd.c (.cons (O rfl) .nil)) (fun _ => by kernel_rfl)) rfl <| ?_
    refine WS_store (us := [(.int .i64 3), (S r30), (.int .i64 0), (.int .i64 0)]) (vs' := [(.int .i64 3), (S r30), (.int .i64 0), (.int .i64 0)]) hs 0 rfl ti28 (O rfl) (O rfl) rfl rfl rfl rfl rfl ?_
    intro w35 hs
    replace hs := Sat.n1 (Γ := Φ) hs rfl
    refine Wo (Run_assign Opd.c) rfl <| ?_
    refine WL_nil <| At_then ?_
    refine WC_ret ?_
    refine At_r2 rfl (ResIs.cA (vs := [(.int .i64 3), (S r30), (.int .i64 0), (.int .i64 0)]) rfl Tryd.underlying28 rfl ti28 ((hs.box (i := 0) rfl).part 0 rfl) rfl) (ResIs.t rfl) ?_
    cases hm
    exact ⟨rfl, (hs.re 1 [] rfl)⟩
set_option maxRecDepth 100000 in
set_option maxHeartbeats 4000000 in
theorem lex_Tokens_ok {Φ : Ctx} {w : World} {text : Str} {r : ((List (Int × Str × Int × Int)) × Int × Int)} (hs : Sat (Φ) w) (hm : lex_Tokens text = some r) :
  CallsR Tryd.prog 22 [(S text)] w (fun v w' => ∃ v3 : SLV, ∃ R4 : List Nat, v = (.tuple #[(sl v3), (.int .i64 r.2.1), (.int .i64 r.2.2)]) ∧ Sat (osl (RP (RI .i64) (RP RS (RP (RI .i64) (RI .i64)))) 28 (sl v3) r.1 R4 :: Φ) w') := by
 refine CallsX_enter Tryd.func22 rfl Tryd.ntmps22 rfl ?_
 unfold lex_Tokens at hm
 refine WC_seq <| WC_region ?_
 refine Wo (Run_assign Opd.c) rfl <| Wo (Run_assign Opd.c) rfl <| Wo (Run_assign Opd.c) rfl <| ?_
 refine WL_nil <| At_then ?_
 refine WC_scope (σ := (List (Int × Str × Int × Int)) × Int) (γ := SLV × List Nat) (F := (lex_Tokens_G1 text)) (r := r) (fun ⟨out9, at12⟩ ⟨v10, R11⟩ w8 => Sat (osl (RP (RI .i64) (RP RS (RP (RI .i64) (RI .i64)))) 28 (sl v10) out9 R11 :: Φ) w8) (fun ⟨out9, at12⟩ ⟨v10, R11⟩ => [(0, true, (S text)), (5, true, (sl v10)), (6, true, (.int .i64 at12))]) 0 (by rfl) ?_ ?_
 ·
  refine WC_seq <| WC_region ?_
  refine Wo (Run_assign Opd.c) rfl <| ?_
  refine WL_nil <| At_then <| WC_seq <| WC_region ?_
  refine Wo (Run_assign Opd.c) rfl <| ?_
  refine WL_nil <| At_then <| WC_seq <| WC_seq <| WC_region ?_
  refine Wo (Run_move (O rfl)) rfl <| Wo (Run_lenS Tryd.underlying9 (O rfl)) rfl <| Wo (Run_gtI (O rfl) Opd.c) rfl <| ?_
  refine WL_nil <| At_then ?_
  refine WC_cond (O rfl) (fun hc7 => ?_) (fun hc7 => ?_)
  ·
   replace hm := bif_t hc7 hm
   refine WC_seq <| WC_region ?_
   refine Wo (Run_assign Opd.c) rfl <| Wo (Run_assign Opd.c) rfl <| Wo (Run_assign Opd.c) rfl <| ?_
   refine WL_nil <| At_then ?_
   refine WC_ret ?_
   refine At_then_ret <| At_jmp_ret <| ?_
   refine At_r3 rfl (ResIs.t rfl) (ResIs.t rfl) (ResIs.t rfl) ?_
   replace hs := hs.addNil (RP (RI .i64) (RP RS (RP (RI .i64) (RI .i64)))) 28
   cases hm
   exact ⟨(none, 0, 0), [], rfl, (hs.re 1 [0] rfl)⟩
  ·
   replace hm := bif_f hc7 hm
   refine WC_skip ?_
   refine At_then <| WC_seq ?_
   refine WC_label ?_
   replace hs := hs.addNil (RP (RI .i64) (RP RS (RP (RI .i64) (RI .i64)))) 28
   refine At_gen (σ := (List (Int × Str × Int × Int)) × Int) (γ := SLV × List Nat) (F := (lex_Tokens_G1 text)) (N := FUEL) (s0 := ([], 0)) (r := r) (fun ⟨out9, at12⟩ ⟨v10, R11⟩ w8 => Sat (osl (RP (RI .i64) (RP RS (RP (RI .i64) (RI .i64)))) 28 (sl v10) out9 R11 :: Φ) w8) (fun ⟨out9, at12⟩ ⟨v10, R11⟩ => [(0, true, (S text)), (5, true, (sl v10)), (6, true, (.int .i64 at12))]) hm ((none, 0, 0), []) (hs.re 1 [0] rfl) rfl ?_
   rintro m again13 hag ⟨out9, at12⟩ ⟨v10, R11⟩ w8 hm hs
   unfold lex_Tokens_G1 at hm
   dsimp only at hm
   refine At_then <| WC_seq <| WC_seq <| WC_region ?_
   refine Wo (Run_move (O rfl)) rfl <| Wo (Run_move (O rfl)) rfl <| Wo (Run_lenS Tryd.underlying9 (O rfl)) rfl <| ?_
   obtain ⟨b14, e15, hm⟩ := letv_some hm
   refine Wo (Run.eqB (Run_ltI (O rfl) (O rfl)) e15) rfl <| Wo (Run_move (O rfl)) rfl <| WL_opG rfl rfl rfl rfl guard_pos (Run_move (O rfl)) rfl rfl rfl <| WL_opG rfl rfl rfl rfl guard_pos (Run_move (O rfl)) rfl rfl rfl <| ?_
   obtain ⟨k16, hm⟩ := chkG_some hm
   refine WL_opG rfl rfl rfl rfl guard_pos (Run_idxS Tryd.underlying9 (Opd.g rfl id) (Opd.g rfl id) k16) rfl rfl rfl <| ?_
   obtain ⟨r17, hr18, -, hm⟩ := callG_some hm
   refine WL_callG rfl rfl rfl guard_pos (f := 37) (first := []) (cap := []) (xs := [(.tmp 19)]) (vs := [(.int .u8 (byteAt text at12))]) (args := [(.int .u8 (byteAt text at12))]) Tryd.call37 Opd.f (.cons (Opd.g rfl id) .nil) rfl rfl (fun hg => lex_blank_ok (hs.re 1 [0] rfl) (hr18 hg)) ?_
   intro v20 w19 hv21 hz22
   replace hs := Sat.ofG (fun hg => (hv21 hg).2.re 1 [0] rfl) hz22 hs
   refine WL_sub1 (v := (.bool r17)) (fun hg => (hv21 hg).1) ?_
   replace hs := Sat.n1 (Γ := Φ) hs rfl
   obtain ⟨b23, e24, hm⟩ := letv_some hm
   refine Wo (Run.eqB (Run_and (O rfl) (Opd.g rfl id)) e24) rfl <| ?_
   refine WL_nil <| At_then ?_
   refine WC_cond (O rfl) (fun hc25 => ?_) (fun hc25 => ?_)
   ·
    replace hm := bif_t hc25 hm
    refine WC_seq <| WC_region ?_
    refine Wo (Run_move (O rfl)) rfl <| Wo (Run_add (O rfl) Opd.c) rfl <| Wo (Run_assign (O rfl)) rfl <| ?_
    refine WL_nil <| At_then ?_
    refine WC_goto ?_
    refine At_then_goto <| ?_
    exact At_jump_first hag (out9, (IntKind.i64.wrap (at12 + 1))) (v10, R11) hm (hs.re 1 [0] rfl) rfl
   ·
    replace hm := bif_f hc25 hm
    refine WC_skip ?_
    refine At_then <| WC_seq <| WC_seq <| WC_region ?_
    refine Wo (Run_move (O rfl)) rfl <| Wo (Run_move (O rfl)) rfl <| Wo (Run_lenS Tryd.underlying9 (O rfl)) rfl <| ?_
    obtain ⟨b26, e27, hm⟩ := letv_some hm
    refine Wo (Run.eqB (Run_ltI (O rfl) (O rfl)) e27) rfl <| Wo (Run_move (O rfl)) rfl <| WL_opG rfl rfl rfl rfl guard_pos (Run_move (O rfl)) rfl rfl rfl <| WL_opG rfl rfl rfl rfl guard_pos (Run_move (O rfl)) rfl rfl rfl <| ?_
    obtain ⟨k28, hm⟩ := chkG_some hm
    refine WL_opG rfl rfl rfl rfl guard_pos (Run_idxS Tryd.underlying9 (Opd.g rfl id) (Opd.g rfl id) k28) rfl rfl rfl <| ?_
    obtain ⟨b29, e30, hm⟩ := letv_some hm
    refine WL_opG rfl rfl rfl rfl guard_pos (Run.eqB (Run_eqI (Opd.g rfl id) Opd.c) e30) rfl rfl rfl <| ?_
    obtain ⟨b31, e32, hm⟩ := letv_some hm
    refine Wo (Run.eqB (Run_and (O rfl) (Opd.g rfl id)) e32) rfl <| ?_
    refine WL_nil <| At_then ?_
    refine WC_cond (O rfl) (fun hc33 => ?_) (fun hc33 => ?_)
    ·
     replace hm := bif_t hc33 hm
     refine WC_seq <| WC_region ?_
     refine Wo (Run_move (O rfl)) rfl <| Wo (Run_move (O rfl)) rfl <| Wo (Run_move (O rfl)) rfl <| ?_
     obtain ⟨k34, hm⟩ := chk_some hm
     refine Wo (Run_cutS (lo := (some (.tmp 36))) (hi := none) Tryd.underlying9 (O rfl) ⟨_, (O rfl)⟩ rfl (fun _ => k34)) rfl <| ?_
     obtain ⟨r35, hr36, hm⟩ := bind_some' hm
     refine WL_call (f := 38) (first := []) (cap := []) (xs := [(.tmp 37), (.func 39)]) (vs := [(S (cut text at12 ((List.length text) : Int))), (.func (.func 39) #[] #[])]) (args := [(S (cut text at12 ((List.length text) : Int))), (.func (.func 39) #[] #[])]) Tryd.call38 Opd.f (.cons (O rfl) (.cons Opd.f .nil)) rfl rfl (lex_run_ok (hs.re 1 [0] rfl) hr36) ?_
     rintro _ w37 ⟨rfl, hs⟩
     replace hs := Sat.n1 (Γ := Φ) hs rfl
     refine Wo (Run_lenS Tryd.underlying9 (O rfl)) rfl <| Wo (Run_add (O rfl) (O rfl)) rfl <| Wo (Run_assign (O rfl)) rfl <| ?_
     refine WL_nil <| At_then ?_
     refine WC_goto ?_
     refine At_then_goto <| ?_
     exact At_jump_first hag (out9, (IntKind.i64.wrap (at12 + (List.length r35 : Int)))) (v10, R11) hm (hs.re 1 [0] rfl) rfl
    ·
     replace hm := bif_f hc33 hm
     refine WC_skip ?_
     refine At_then <| WC_seq <| WC_seq <| WC_region ?_
     refine Wo (Run_move (O rfl)) rfl <| Wo (Run_move (O rfl)) rfl <| Wo (Run_lenS Tryd.underlying9 (O rfl)) rfl <| Wo (Run_ltI (O rfl) (O rfl)) rfl <| ?_
     refine WL_nil <| At_then ?_
     refine WC_cond (O rfl) (fun hc38 => ?_) (fun hc38 => ?_)
     ·
      replace hm := bif_t hc38 hm
      refine WC_seq <| WC_region ?_
      refine Wo (Run_move (O rfl)) rfl <| Wo (Run_move (O rfl)) rfl <| ?_
      obtain ⟨k39, hm⟩ := chk_some hm
      refine Wo (Run_cutS (lo := (some (.tmp 47))) (hi := none) Tryd.underlying9 (O rfl) ⟨_, (O rfl)⟩ rfl (fun _ => k39)) rfl <| ?_
      obtain ⟨r40, hr41, hm⟩ := bind_some' hm
      refine WL_call (f := 40) (first := []) (cap := []) (xs := [(.tmp 48)]) (vs := [(S (cut text at12 ((List.length text) : Int)))]) (args := [(S (cut text at12 ((List.length text) : Int)))]) Tryd.call40 Opd.f (.cons (O rfl) .nil) rfl rfl (lex_token_ok (hs.re 1 [0] rfl) hr41) ?_
      rintro _ w42 ⟨rfl, hs⟩
      replace hs := Sat.n1 (Γ := Φ) hs rfl
      refine Wo (Run_move (O rfl)) rfl <| Wo (Run_extract (vs := [(.agg #[(.int .i64 r40.1.1), (S r40.1.2.1), (.int .i64 r40.1.2.2.1), (.int .i64 r40.1.2.2.2)]), (.int .i64 r40.2)]) (O rfl) rfl) rfl <| Wo (Run_extract (vs := [(.agg #[(.int .i64 r40.1.1), (S r40.1.2.1), (.int .i64 r40.1.2.2.1), (.int .i64 r40.1.2.2.2)]), (.int .i64 r40.2)]) (O rfl) rfl) rfl <| ?_
      refine WS_alloc (zs := [(.int .i64 0), (S []), (.int .i64 0), (.int .i64 0)]) hs ti28 rfl rfl ?_
      intro b43 w44 hs
      replace hs := Sat.n2 (Γ := Φ) hs rfl
      refine WS_store (us := [(.int .i64 r40.1.1), (S r40.1.2.1), (.int .i64 r40.1.2.2.1), (.int .i64 r40.1.2.2.2)]) (vs' := [(.int .i64 r40.1.1), (S r40.1.2.1), (.int .i64 r40.1.2.2.1), (.int .i64 r40.1.2.2.2)]) hs 0 rfl ti28 (O rfl) (O rfl) rfl rfl rfl rfl rfl ?_
      intro w45 hs
      replace hs := Sat.n2 (Γ := Φ) hs rfl
      refine Wo (Run_assign (O rfl)) rfl <| ?_
      refine WL_nil <| At_then <| WC_seq <| WC_seq <| WC_region ?_
      refine Wo (Run_move (O rfl)) rfl <| Wo (Run_neI (O rfl) Opd.c) rfl <| ?_
      refine WL_nil <| At_then ?_
      refine WC_cond (O rfl) (fun hc46 => ?_) (fun hc46 => ?_)
      ·
       replace hm := bif_t hc46 hm
       refine WC_seq <| WC_region ?_
       refine Wo (Run_move (O rfl)) rfl <| Wo (Run_move (O rfl)) rfl <| Wo (Run_assign Opd.c) rfl <| Wo (Run_assign (O rfl)) rfl <| Wo (Run_assign (O rfl)) rfl <| ?_
       refine WL_nil <| At_then ?_
       refine WC_ret ?_
       refine At_then_ret <| At_then_ret <| At_jmp_ret <| ?_
       refine At_r3 rfl (ResIs.t rfl) (ResIs.t rfl) (ResIs.t rfl) ?_
       replace hs := hs.addNil (RP (RI .i64) (RP RS (RP (RI .i64) (RI .i64)))) 28
       cases hm
       exact ⟨(none, 0, 0), [], rfl, (hs.re 3 [0] rfl)⟩
      ·
       replace hm := bif_f hc46 hm
       refine WC_skip ?_
       refine At_then <| WC_seq <| WC_region ?_
       refine Wo (Run_move (O rfl)) rfl <| Wo (Run_fieldAddr fo28_3 (O rfl)) rfl <| ?_
       refine WS_store (us := [(.int .i64 at12)]) (vs' := [(.int .i64 r40.1.1), (S r40.1.2.1), (.int .i64 r40.1.2.2.1), (.int .i64 at12)]) hs 0 rfl ti3 (O rfl) (O rfl) rfl rfl rfl rfl rfl ?_
       intro w47 hs
       replace hs := Sat.n2 (Γ := Φ) hs rfl
       refine WL_nil <| At_then <| WC_seq <| WC_region ?_
       refine Wo (Run_move (O rfl)) rfl <| Wo (Run_loadA (vs := [(.int .i64 r40.1.1), (S r40.1.2.1), (.int .i64 r40.1.2.2.1), (.int .i64 at12)]) Tryd.underlying28 rfl ti28 (O rfl) (fun _ => (hs.box (i := 0) rfl).part 0 rfl) rfl) rfl <| ?_
       refine WS_lit (A := (RP (RI .i64) (RP RS (RP (RI .i64) (RI .i64))))) (xs := [(r40.1.1, r40.1.2.1, r40.1.2.2.1, at12)]) (zs := [(.int .i64 0), (S []), (.int .i64 0), (.int .i64 0)]) (cells := [(.int .i64 r40.1.1), (S r40.1.2.1), (.int .i64 r40.1.2.2.1), (.int .i64 at12)]) (parts := [(0, (.tmp 59))]) hs Tryd.underlying23 ti28 rfl rfl rfl (.cons (O rfl) .nil) (by kernel_rfl) rfl (ARd.cons (A := (RP (RI .i64) (RP RS (RP (RI .i64) (RI .i64))))) (c := [(.int .i64 r40.1.1), (S r40.1.2.1), (.int .i64 r40.1.2.2.1), (.int .i64 at12)]) (x := (r40.1.1, r40.1.2.1, r40.1.2.2.1, at12)) ⟨_, _, rfl, rfl, ⟨_, _, rfl, rfl, ⟨_, _, rfl, rfl, rfl⟩⟩⟩ ARd.nil) rfl ?_
       intro b48 w49 hs
       replace hs := Sat.n3 (Γ := Φ) hs rfl
       replace hs := hs.freeze (i := 0) rfl
       obtain ⟨k50, hm⟩ := chk_some hm
       refine WS_append (A := (RP (RI .i64) (RP RS (RP (RI .i64) (RI .i64))))) hs 2 rfl Tryd.underlying23 ti28 rfl rfl (O rfl) (O rfl) (hs.sl (i := 0) rfl) k50 rfl ?_
       intro v51 R52 w53 hs
       replace hs := Sat.n3 (Γ := Φ) hs rfl
       refine Wo (Run_assign (O rfl)) rfl <| ?_
       refine WL_nil <| At_then <| WC_seq <| WC_region ?_
       refine Wo (Run_move (O rfl)) rfl <| Wo (Run_fieldAddr fo28_1 (O rfl)) rfl <| Wo (Run_load1 (v := (S r40.1.2.1)) Tryd.underlying9 rfl (O rfl) (fun _ => (hs.box (i := 1) rfl).part 1 rfl)) rfl <| Wo (Run_lenS Tryd.underlying9 (O rfl)) rfl <| Wo (Run_add (O rfl) (O rfl)) rfl <| Wo (Run_assign (O rfl)) rfl <| ?_
       refine WL_nil <| At_then ?_
       refine WC_goto ?_
       refine At_then_goto <| ?_
       exact At_jump_first hag ((out9 ++ ([(r40.1.1, r40.1.2.1, r40.1.2.2.1, at12)] : List (Int × Str × Int × Int))), (IntKind.i64.wrap (at12 + (List.length r40.1.2.1 : Int)))) (v51, R52) hm (hs.re 3 [2] rfl) rfl
     ·
      replace hm := bif_f hc38 hm
      refine WC_skip ?_
      refine At_then <| WC_seq <| WC_region ?_
      refine Wo (Run_move (O rfl)) rfl <| Wo (Run_move (O rfl)) rfl <| Wo (Run_build (parts := [(0, (.const (.int .i64 4))), (3, (.tmp 68))]) (v := (.agg #[(.int .i64 4), (S []), (.int .i64 0), (.int .i64 at12)])) (.cons Opd.c (.cons (O rfl) .nil)) (fun _ => by kernel_rfl)) rfl <| ?_
      refine WS_lit (A := (RP (RI .i64) (RP RS (RP (RI .i64) (RI .i64))))) (xs := [(4, [], 0, at12)]) (zs := [(.int .i64 0), (S []), (.int .i64 0), (.int .i64 0)]) (cells := [(.int .i64 4), (S []), (.int .i64 0), (.int .i64 at12)]) (parts := [(0, (.tmp 69))]) hs Tryd.underlying23 ti28 rfl rfl rfl (.cons (O rfl) .nil) (by kernel_rfl) rfl (ARd.cons (A := (RP (RI .i64) (RP RS (RP (RI .i64) (RI .i64))))) (c := [(.int .i64 4), (S []), (.int .i64 0), (.int .i64 at12)]) (x := (4, [], 0, at12)) ⟨_, _, rfl, rfl, ⟨_, _, rfl, rfl, ⟨_, _, rfl, rfl, rfl⟩⟩⟩ ARd.nil) rfl ?_
      intro b54 w55 hs
      replace hs := Sat.n2 (Γ := Φ) hs rfl
      replace hs := hs.freeze (i := 0) rfl
      obtain ⟨k56, hm⟩ := chk_some hm
      refine WS_append (A := (RP (RI .i64) (RP RS (RP (RI .i64) (RI .i64))))) hs 1 rfl Tryd.underlying23 ti28 rfl rfl (O rfl) (O rfl) (hs.sl (i := 0) rfl) k56 rfl ?_
      intro v57 R58 w59 hs
      replace hs := Sat.n2 (Γ := Φ) hs rfl
      refine Wo (Run_assign (O rfl)) rfl <| Wo (Run_assign Opd.c) rfl <| Wo (Run_assign Opd.c) rfl <| ?_
      refine WL_nil <| At_then ?_
      refine WC_ret ?_
      refine At_jmp_ret <| ?_
      refine At_r3 rfl (ResIs.t rfl) (ResIs.t rfl) (ResIs.t rfl) ?_
      cases hm
      exact ⟨v57, R58, rfl, (hs.re 2 [1] rfl)⟩
 ·
  rintro again13 ⟨out9, at12⟩ ⟨v10, R11⟩ w8 hm hs
  unfold lex_Tokens_G1 at hm
  dsimp only at hm
  refine WC_seq ?_
  refine WC_skip ?_
  refine At_then <| WC_seq <| WC_seq <| WC_region ?_
  refine Wo (Run_move (O rfl)) rfl <| Wo (Run_move (O rfl)) rfl <| Wo (Run_lenS Tryd.underlying9 (O rfl)) rfl <| ?_
  obtain ⟨b14, e15, hm⟩ := letv_some hm
  refine Wo (Run.eqB (Run_ltI (O rfl) (O rfl)) e15) rfl <| Wo (Run_move (O rfl)) rfl <| WL_opG rfl rfl rfl rfl guard_pos (Run_move (O rfl)) rfl rfl rfl <| WL_opG rfl rfl rfl rfl guard_pos (Run_move (O rfl)) rfl rfl rfl <| ?_
  obtain ⟨k16, hm⟩ := chkG_some hm
  refine WL_opG rfl rfl rfl rfl guard_pos (Run_idxS Tryd.underlying9 (Opd.g rfl id) (Opd.g rfl id) k16) rfl rfl rfl <| ?_
  obtain ⟨r17, hr18, -, hm⟩ := callG_some hm
  refine WL_callG rfl rfl rfl guard_pos (f := 37) (first := []) (cap := []) (xs := [(.tmp 19)]) (vs := [(.int .u8 (byteAt text at12))]) (args := [(.int .u8 (byteAt text at12))]) Tryd.call37 Opd.f (.cons (Opd.g rfl id) .nil) rfl rfl (fun hg => lex_blank_ok (hs.re 1 [0] rfl) (hr18 hg)) ?_
  intro v20 w19 hv21 hz22
  replace hs := Sat.ofG (fun hg => (hv21 hg).2.re 1 [0] rfl) hz22 hs
  refine WL_sub1 (v := (.bool r17)) (fun hg => (hv21 hg).1) ?_
  replace hs := Sat.n1 (Γ := Φ) hs rfl
  obtain ⟨b23, e24, hm⟩ := letv_some hm
  refine Wo (Run.eqB (Run_and (O rfl) (Opd.g rfl id)) e24) rfl <| ?_
  refine WL_nil <| At_then ?_
  refine WC_cond (O rfl) (fun hc25 => ?_) (fun hc25 => ?_)
  ·
   replace hm := bif_t hc25 hm
   refine WC_seq <| WC_region ?_
   refine Wo (Run_move (O rfl)) rfl <| Wo (Run_add (O rfl) Opd.c) rfl <| Wo (Run_assign (O rfl)) rfl <| ?_
   refine WL_nil <| At_then ?_
   refine WC_goto ?_
   refine At_then_goto <| ?_
   exact At_jump (out9, (IntKind.i64.wrap (at12 + 1))) (v10, R11) hm (hs.re 1 [0] rfl) rfl
  ·
   replace hm := bif_f hc25 hm
   refine WC_skip ?_
   refine At_then <| WC_seq <| WC_seq <| WC_region ?_
   refine Wo (Run_move (O rfl)) rfl <| Wo (Run_move (O rfl)) rfl <| Wo (Run_lenS Tryd.underlying9 (O rfl)) rfl <| ?_
   obtain ⟨b26, e27, hm⟩ := letv_some hm
   refine Wo (Run.eqB (Run_ltI (O rfl) (O rfl)) e27) rfl <| Wo (Run_move (O rfl)) rfl <| WL_opG rfl rfl rfl rfl guard_pos (Run_move (O rfl)) rfl rfl rfl <| WL_opG rfl rfl rfl rfl guard_pos (Run_move (O rfl)) rfl rfl rfl <| ?_
   obtain ⟨k28, hm⟩ := chkG_some hm
   refine WL_opG rfl rfl rfl rfl guard_pos (Run_idxS Tryd.underlying9 (Opd.g rfl id) (Opd.g rfl id) k28) rfl rfl rfl <| ?_
   obtain ⟨b29, e30, hm⟩ := letv_some hm
   refine WL_opG rfl rfl rfl rfl guard_pos (Run.eqB (Run_eqI (Opd.g rfl id) Opd.c) e30) rfl rfl rfl <| ?_
   obtain ⟨b31, e32, hm⟩ := letv_some hm
   refine Wo (Run.eqB (Run_and (O rfl) (Opd.g rfl id)) e32) rfl <| ?_
   refine WL_nil <| At_then ?_
   refine WC_cond (O rfl) (fun hc33 => ?_) (fun hc33 => ?_)
   ·
    replace hm := bif_t hc33 hm
    refine WC_seq <| WC_region ?_
    refine Wo (Run_move (O rfl)) rfl <| Wo (Run_move (O rfl)) rfl <| Wo (Run_move (O rfl)) rfl <| ?_
    obtain ⟨k34, hm⟩ := chk_some hm
    refine Wo (Run_cutS (lo := (some (.tmp 36))) (hi := none) Tryd.underlying9 (O rfl) ⟨_, (O rfl)⟩ rfl (fun _ => k34)) rfl <| ?_
    obtain ⟨r35, hr36, hm⟩ := bind_some' hm
    refine WL_call (f := 38) (first := []) (cap := []) (xs := [(.tmp 37), (.func 39)]) (vs := [(S (cut text at12 ((List.length text) : Int))), (.func (.func 39) #[] #[])]) (args := [(S (cut text at12 ((List.length text) : Int))), (.func (.func 39) #[] #[])]) Tryd.call38 Opd.f (.cons (O rfl) (.cons Opd.f .nil)) rfl rfl (lex_run_ok (hs.re 1 [0] rfl) hr36) ?_
    rintro _ w37 ⟨rfl, hs⟩
    replace hs := Sat.n1 (Γ := Φ) hs rfl
    refine Wo (Run_lenS Tryd.underlying9 (O rfl)) rfl <| Wo (Run_add (O rfl) (O rfl)) rfl <| Wo (Run_assign (O rfl)) rfl <| ?_
    refine WL_nil <| At_then ?_
    refine WC_goto ?_
    refine At_then_goto <| ?_
    exact At_jump (out9, (IntKind.i64.wrap (at12 + (List.length r35 : Int)))) (v10, R11) hm (hs.re 1 [0] rfl) rfl
   ·
    replace hm := bif_f hc33 hm
    refine WC_skip ?_
    refine At_then <| WC_seq <| WC_seq <| WC_region ?_
    refine Wo (Run_move (O rfl)) rfl <| Wo (Run_move (O rfl)) rfl <| Wo (Run_lenS Tryd.underlying9 (O rfl)) rfl <| Wo (Run_ltI (O rfl) (O rfl)) rfl <| ?_
    refine WL_nil <| At_then ?_
    refine WC_cond (O rfl) (fun hc38 => ?_) (fun hc38 => ?_)
    ·
     replace hm := bif_t hc38 hm
     refine WC_seq <| WC_region ?_
     refine Wo (Run_move (O rfl)) rfl <| Wo (Run_move (O rfl)) rfl <| ?_
     obtain ⟨k39, hm⟩ := chk_some hm
     refine Wo (Run_cutS (lo := (some (.tmp 47))) (hi := none) Tryd.underlying9 (O rfl) ⟨_, (O rfl)⟩ rfl (fun _ => k39)) rfl <| ?_
     obtain ⟨r40, hr41, hm⟩ := bind_some' hm
     refine WL_call (f := 40) (first := []) (cap := []) (xs := [(.tmp 48)]) (vs := [(S (cut text at12 ((List.length text) : Int)))]) (args := [(S (cut text at12 ((List.length text) : Int)))]) Tryd.call40 Opd.f (.cons (O rfl) .nil) rfl rfl (lex_token_ok (hs.re 1 [0] rfl) hr41) ?_
     rintro _ w42 ⟨rfl, hs⟩
     replace hs := Sat.n1 (Γ := Φ) hs rfl
     refine Wo (Run_move (O rfl)) rfl <| Wo (Run_extract (vs := [(.agg #[(.int .i64 r40.1.1), (S r40.1.2.1), (.int .i64 r40.1.2.2.1), (.int .i64 r40.1.2.2.2)]), (.int .i64 r40.2)]) (O rfl) rfl) rfl <| Wo (Run_extract (vs := [(.agg #[(.int .i64 r40.1.1), (S r40.1.2.1), (.int .i64 r40.1.2.2.1), (.int .i64 r40.1.2.2.2)]), (.int .i64 r40.2)]) (O rfl) rfl) rfl <| ?_
     refine WS_alloc (zs := [(.int .i64 0), (S []), (.int .i64 0), (.int .i64 0)]) hs ti28 rfl rfl ?_
     intro b43 w44 hs
     replace hs := Sat.n2 (Γ := Φ) hs rfl
     refine WS_store (us := [(.int .i64 r40.1.1), (S r40.1.2.1), (.int .i64 r40.1.2.2.1), (.int .i64 r40.1.2.2.2)]) (vs' := [(.int .i64 r40.1.1), (S r40.1.2.1), (.int .i64 r40.1.2.2.1), (.int .i64 r40.1.2.2.2)]) hs 0 rfl ti28 (O rfl) (O rfl) rfl rfl rfl rfl rfl ?_
     intro w45 hs
     replace hs := Sat.n2 (Γ := Φ) hs rfl
     refine Wo (Run_assign (O rfl)) rfl <| ?_
     refine WL_nil <| At_then <| WC_seq <| WC_seq <| WC_region ?_
     refine Wo (Run_move (O rfl)) rfl <| Wo (Run_neI (O rfl) Opd.c) rfl <| ?_
     refine WL_nil <| At_then ?_
     refine WC_cond (O rfl) (fun hc46 => ?_) (fun hc46 => ?_)
     ·
      replace hm := bif_t hc46 hm
      refine WC_seq <| WC_region ?_
      refine Wo (Run_move (O rfl)) rfl <| Wo (Run_move (O rfl)) rfl <| Wo (Run_assign Opd.c) rfl <| Wo (Run_assign (O rfl)) rfl <| Wo (Run_assign (O rfl)) rfl <| ?_
      refine WL_nil <| At_then ?_
      refine WC_ret ?_
      refine At_then_ret <| At_then_ret <| At_jmp_ret <| ?_
      refine At_r3 rfl (ResIs.t rfl) (ResIs.t rfl) (ResIs.t rfl) ?_
      replace hs := hs.addNil (RP (RI .i64) (RP RS (RP (RI .i64) (RI .i64)))) 28
      cases hm
      exact ⟨(none, 0, 0), [], rfl, (hs.re 3 [0] rfl)⟩
     ·
      replace hm := bif_f hc46 hm
      refine WC_skip ?_
      refine At_then <| WC_seq <| WC_region ?_
      refine Wo (Run_move (O rfl)) rfl <| Wo (Run_fieldAddr fo28_3 (O rfl)) rfl <| ?_
      refine WS_store (us := [(.int .i64 at12)]) (vs' := [(.int .i64 r40.1.1), (S r40.1.2.1), (.int .i64 r40.1.2.2.1), (.int .i64 at12)]) hs 0 rfl ti3 (O rfl) (O rfl) rfl rfl rfl rfl rfl ?_
      intro w47 hs
      replace hs := Sat.n2 (Γ := Φ) hs rfl
      refine WL_nil <| At_then <| WC_seq <| WC_region ?_
      refine Wo (Run_move (O rfl)) rfl <| Wo (Run_loadA (vs := [(.int .i64 r40.1.1), (S r40.1.2.1), (.int .i64 r40.1.2.2.1), (.int .i64 at12)]) Tryd.underlying28 rfl ti28 (O rfl) (fun _ => (hs.box (i := 0) rfl).part 0 rfl) rfl) rfl <| ?_
      refine WS_lit (A := (RP (RI .i64) (RP RS (RP (RI .i64) (RI .i64))))) (xs := [(r40.1.1, r40.1.2.1, r40.1.2.2.1, at12)]) (zs := [(.int .i64 0), (S []), (.int .i64 0), (.int .i64 0)]) (cells := [(.int .i64 r40.1.1), (S r40.1.2.1), (.int .i64 r40.1.2.2.1), (.int .i64 at12)]) (parts := [(0, (.tmp 59))]) hs Tryd.underlying23 ti28 rfl rfl rfl (.cons (O rfl) .nil) (by kernel_rfl) rfl (ARd.cons (A := (RP (RI .i64) (RP RS (RP (RI .i64) (RI .i64))))) (c := [(.int .i64 r40.1.1), (S r40.1.2.1), (.int .i64 r40.1.2.2.1), (.int .i64 at12)]) (x := (r40.1.1, r40.1.2.1, r40.1.2.2.1, at12)) ⟨_, _, rfl, rfl, ⟨_, _, rfl, rfl, ⟨_, _, rfl, rfl, rfl⟩⟩⟩ ARd.nil) rfl ?_
      intro b48 w49 hs
      replace hs := Sat.n3 (Γ := Φ) hs rfl
      replace hs := hs.freeze (i := 0) rfl
      obtain ⟨k50, hm⟩ := chk_some hm
      refine WS_append (A := (RP (RI .i64) (RP RS (RP (RI .i64) (RI .i64))))) hs 2 rfl Tryd.underlying23 ti28 rfl rfl (O rfl) (O rfl) (hs.sl (i := 0) rfl) k50 rfl ?_
      intro v51 R52 w53 hs
      replace hs := Sat.n3 (Γ := Φ) hs rfl
      refine Wo (Run_assign (O rfl)) rfl <| ?_
      refine WL_nil <| At_then <| WC_seq <| WC_region ?_
      refine Wo (Run_move (O rfl)) rfl <| Wo (Run_fieldAddr fo28_1 (O rfl)) rfl <| Wo (Run_load1 (v := (S r40.1.2.1)) Tryd.underlying9 rfl (O rfl) (fun _ => (hs.box (i := 1) rfl).part 1 rfl)) rfl <| Wo (Run_lenS Tryd.underlying9 (O rfl)) rfl <| Wo (Run_add (O rfl) (O rfl)) rfl <| Wo (Run_assign (O rfl)) rfl <| ?_
      refine WL_nil <| At_then ?_
      refine WC_goto ?_
      refine At_then_goto <| ?_
      exact At_jump ((out9 ++ ([(r40.1.1, r40.1.2.1, r40.1.2.2.1, at12)] : List (Int × Str × Int × Int))), (IntKind.i64.wrap (at12 + (List.length r40.1.2.1 : Int)))) (v51, R52) hm (hs.re 3 [2] rfl) rfl
    ·
     replace hm := bif_f hc38 hm
     refine WC_skip ?_
     refine At_then <| WC_seq <| WC_region ?_
     refine Wo (Run_move (O rfl)) rfl <| Wo (Run_move (O rfl)) rfl <| Wo (Run_build (parts := [(0, (.const (.int .i64 4))), (3, (.tmp 68))]) (v := (.agg #[(.int .i64 4), (S []), (.int .i64 0), (.int .i64 at12)])) (.cons Opd.c (.cons (O rfl) .nil)) (fun _ => by kernel_rfl)) rfl <| ?_
     refine WS_lit (A := (RP (RI .i64) (RP RS (RP (RI .i64) (RI .i64))))) (xs := [(4, [], 0, at12)]) (zs := [(.int .i64 0), (S []), (.int .i64 0), (.int .i64 0)]) (cells := [(.int .i64 4), (S []), (.int .i64 0), (.int .i64 at12)]) (parts := [(0, (.tmp 69))]) hs Tryd.underlying23 ti28 rfl rfl rfl (.cons (O rfl) .nil) (by kernel_rfl) rfl (ARd.cons (A := (RP (RI .i64) (RP RS (RP (RI .i64) (RI .i64))))) (c := [(.int .i64 4), (S []), (.int .i64 0), (.int .i64 at12)]) (x := (4, [], 0, at12)) ⟨_, _, rfl, rfl, ⟨_, _, rfl, rfl, ⟨_, _, rfl, rfl, rfl⟩⟩⟩ ARd.nil) rfl ?_
     intro b54 w55 hs
     replace hs := Sat.n2 (Γ := Φ) hs rfl
     replace hs := hs.freeze (i := 0) rfl
     obtain ⟨k56, hm⟩ := chk_some hm
     refine WS_append (A := (RP (RI .i64) (RP RS (RP (RI .i64) (RI .i64))))) hs 1 rfl Tryd.underlying23 ti28 rfl rfl (O rfl) (O rfl) (hs.sl (i := 0) rfl) k56 rfl ?_
     intro v57 R58 w59 hs
     replace hs := Sat.n2 (Γ := Φ) hs rfl
     refine Wo (Run_assign (O rfl)) rfl <| Wo (Run_assign Opd.c) rfl <| Wo (Run_assign Opd.c) rfl <| ?_
     refine WL_nil <| At_then ?_
     refine WC_ret ?_
     refine At_jmp_ret <| ?_
     refine At_r3 rfl (ResIs.t rfl) (ResIs.t rfl) (ResIs.t rfl) ?_
     cases hm
     exact ⟨v57, R58, rfl, (hs.re 2 [1] rfl)⟩
set_option maxRecDepth 100000 in
set_option maxHeartbeats 4000000 in
theorem model_read_next_ok {Φ : Ctx} {w : World} {l : (List (Int × Str × Int × Int))} {at_ : Int} {Names : (List Str)} {Schema : (List (Int × Int))} {Init : (List Int)} {Procs : (List Str)} {Cmd : (List (Int × Ex × (List (Int × Ex))))} {b : Nat} {v2 : SLV} {R : List Nat} {v4 : SLV} {R5 : List Nat} {v7 : SLV} {R8 : List Nat} {v10 : SLV} {R11 : List Nat} {v13 : SLV} {R14 : List Nat} {v16 : SLV} {R17 : List Nat} {r : (Int × Str × Int × Int)} (hs : Sat (box b 69 [(sl v2), (.int .i64 at_), (sl v4), (sl v7), (sl v10), (sl v13), (sl v16)] :: osl (RP (RI .i64) (RP RS (RP (RI .i64) (RI .i64)))) 28 (sl v2) l R :: osl RS 9 (sl v4) Names R5 :: osl (RP (RI .i64) (RI .i64)) 44 (sl v7) Schema R8 :: osl (RI .i64) 3 (sl v10) Init R11 :: osl RS 9 (sl v13) Procs R14 :: osl (RP (RI .i64) (RP RExpr (RSl (RP (RI .i64) RExpr)))) 54 (sl v16) Cmd R17 :: Φ) w) (hm : model_read_next l at_ Names Schema Init Procs Cmd = some r) :
  CallsR Tryd.prog 43 [(.pointer (some ⟨b, 0, none⟩))] w (fun v w' => v = (.agg #[(.int .i64 r.1), (S r.2.1), (.int .i64 r.2.2.1), (.int .i64 r.2.2.2)]) ∧ Sat (box b 69 [(sl v2), (.int .i64 at_), (sl v4), (sl v7), (sl v10), (sl v13), (sl v16)] :: osl (RP (RI .i64) (RP RS (RP (RI .i64) (RI .i64)))) 28 (sl v2) l R :: osl RS 9 (sl v4) Names R5 :: osl (RP (RI .i64) (RI .i64)) 44 (sl v7) Schema R8 :: osl (RI .i64) 3 (sl v10) Init R11 :: osl RS 9 (sl v13) Procs R14 :: osl (RP (RI .i64) (RP RExpr (RSl (RP (RI .i64) RExpr)))) 54 (sl v16) Cmd R17 :: Φ) w') := by
 refine CallsX_enter Tryd.func43 rfl Tryd.ntmps43 rfl ?_
 unfold model_read_next at hm
 refine WC_seq <| WC_region ?_
 refine WS_alloc (zs := [(.int .i64 0), (S []), (.int .i64 0), (.int .i64 0)]) hs ti28 rfl rfl ?_
 intro b3 w4 hs
 replace hs := Sat.n8 (Γ := Φ) hs rfl
 refine WL_nil <| At_then <| WC_seq ?_
 refine WC_region_mixed [0, 1, 2, 4, 0, 16, 32, 64, 136, 256, 1023] (.q 0 0 (.q 1 1 (.q 2 3 (.q 3 7 (.q 4 15 (.q 5 31 (.q 6 63 (.q 7 127 (.q 8 255 (.q 9 511 (.l 10 1023 .nil))))))))))) (by kernel_rfl) (by kernel_rfl) ?_
 intro w5 hx6
 replace hs := hs.ext hx6
 refine WD_pure (fun _ => (Run_move (O rfl))) rfl rfl rfl rfl <| WD_pure (fun _ => (Run_nilP (O rfl))) rfl rfl rfl rfl <| WD_pure (fun _ => (Run_fieldAddr fo69_0 (O rfl))) rfl rfl rfl rfl <| WD_op (fun w => CellsAt w ⟨b, 0, none⟩ [(sl v2)]) ((hs.box (i := 1) rfl).part 0 rfl) (fun _ hJ => (Run_load1 (v := (sl v2)) Tryd.underlying23 rfl (O rfl) (fun _ => hJ))) rfl rfl rfl rfl <| WD_pure (fun _ => (Run_move (O rfl))) rfl rfl rfl rfl <| WD_pure (fun _ => (Run_nilP (O rfl))) rfl rfl rfl rfl <| WD_pure (fun _ => (Run_fieldAddr fo69_1 (O rfl))) rfl rfl rfl rfl <| WD_op (fun w => CellsAt w ⟨b, 1, none⟩ [(.int .i64 at_)]) ((hs.box (i := 1) rfl).part 1 rfl) (fun _ hJ => (Run_load1 (v := (.int .i64 at_)) Tryd.underlying3 rfl (O rfl) (fun _ => hJ))) rfl rfl rfl rfl <| ?_
 obtain ⟨e7, he8, hm⟩ := bind_some' hm
 refine WD_pure (fun _ => (Run_idxAddr (p := (elA (sl v2) at_ 4)) Tryd.underlying23 ti28 (O rfl) (O rfl) (fun hg => (Own.atA (A := (RP (RI .i64) (RP RS (RP (RI .i64) (RI .i64))))) (v := (sl v2)) (hs.own (i := 2) rfl) he8).1))) rfl rfl rfl rfl <| WD_op (fun w => true = true → CellsAt w (elA (sl v2) at_ 4) [(.int .i64 e7.1), (S e7.2.1), (.int .i64 e7.2.2.1), (.int .i64 e7.2.2.2)]) (fun hg => (Own.cellsF (A := (RP (RI .i64) (RP RS (RP (RI .i64) (RI .i64))))) (v := (sl v2)) (hs.own (i := 2) rfl) he8 (fun _ h => openT28 h)).sub 0 rfl) (fun _ hJ => (Run_loadA (vs := [(.int .i64 e7.1), (S e7.2.1), (.int .i64 e7.2.2.1), (.int .i64 e7.2.2.2)]) Tryd.underlying28 rfl ti28 (O rfl) hJ rfl)) rfl rfl rfl rfl <| ?_
 refine WD_loud (pend' := []) rfl (by kernel_rfl) ?_
 refine WS_store (us := [(.int .i64 e7.1), (S e7.2.1), (.int .i64 e7.2.2.1), (.int .i64 e7.2.2.2)]) (vs' := [(.int .i64 e7.1), (S e7.2.1), (.int .i64 e7.2.2.1), (.int .i64 e7.2.2.2)]) hs 0 rfl ti28 (O rfl) (O rfl) rfl rfl rfl rfl rfl ?_
 intro w9 hs
 replace hs := Sat.n8 (Γ := Φ) hs rfl
 refine WL_nil ?_
 refine At_QK allJ_nil ?_
 refine WD_nil ?_
 refine At_then ?_
 refine WC_ret ?_
 refine At_r1 rfl (ResIs.cA (vs := [(.int .i64 e7.1), (S e7.2.1), (.int .i64 e7.2.2.1), (.int .i64 e7.2.2.2)]) rfl Tryd.underlying28 rfl ti28 ((hs.box (i := 0) rfl).part 0 rfl) rfl) ?_
 cases hm
 exact ⟨rfl, (hs.re 8 [1, 2, 3, 4, 5, 6, 7] rfl)⟩
end Go.Proofs.YtdhgpnejphlfpaaDoor
namespace Go.Proofs.YtdhgpnejphlfpaaDoor
open Go.Proofs
set_option maxRecDepth 100000 in
set_option maxHeartbeats 4000000 in
theorem model_read_is_ok {Φ : Ctx} {w : World} {kind : Int} {text : Str} {l : (List (Int × Str × Int × Int))} {at_ : Int} {Names : (List Str)} {Schema : (List (Int × Int))} {Init : (List Int)} {Procs : (List Str)} {Cmd : (List (Int × Ex × (List (Int × Ex))))} {b : Nat} {v2 : SLV} {R : List Nat} {v4 : SLV} {R5 : List Nat} {v7 : SLV} {R8 : List Nat} {v10 : SLV} {R11 : List Nat} {v13 : SLV} {R14 : List Nat} {v16 : SLV} {R17 : List Nat} {r : Bool} (hs : Sat (box b 69 [(sl v2), (.int .i64 at_), (sl v4), (sl v7), (sl v10), (sl v13), (sl v16)] :: osl (RP (RI .i64) (RP RS (RP (RI .i64) (RI .i64)))) 28 (sl v2) l R :: osl RS 9 (sl v4) Names R5 :: osl (RP (RI .i64) (RI .i64)) 44 (sl v7) Schema R8 :: osl (RI .i64) 3 (sl v10) Init R11 :: osl RS 9 (sl v13) Procs R14 :: osl (RP (RI .i64) (RP RExpr (RSl (RP (RI .i64) RExpr)))) 54 (sl v16) Cmd R17 :: Φ) w) (hm : model_read_is kind text l at_ Names Schema Init Procs Cmd = some r) :
  CallsR Tryd.prog 44 [(.pointer (some ⟨b, 0, none⟩)), (.int .i64 kind), (S text)] w (fun v w' => v = (.bool r) ∧ Sat (box b 69 [(sl v2), (.int .i64 at_), (sl v4), (sl v7), (sl v10), (sl v13), (sl v16)] :: osl (RP (RI .i64) (RP RS (RP (RI .i64) (RI .i64)))) 28 (sl v2) l R :: osl RS 9 (sl v4) Names R5 :: osl (RP (RI .i64) (RI .i64)) 44 (sl v7) Schema R8 :: osl (RI .i64) 3 (sl v10) Init R11 :: osl RS 9 (sl v13) Procs R14 :: osl (RP (RI .i64) (RP RExpr (RSl (RP (RI .i64) RExpr)))) 54 (sl v16) Cmd R17 :: Φ) w') := by
 refine CallsX_enter Tryd.func44 rfl Tryd.ntmps44 rfl ?_
 unfold model_read_is at hm
 refine WC_seq <| WC_region ?_
 refine Wo (Run_assign Opd.c) rfl <| ?_
 refine WL_nil <| At_then <| WC_seq <| WC_region ?_
 refine Wo (Run_move (O rfl)) rfl <| ?_
 obtain ⟨r3, hr4, hm⟩ := bind_some' hm
 refine WL_call (f := 43) (first := []) (cap := []) (xs := [(.tmp 7)]) (vs := [(.pointer (some ⟨b, 0, none⟩))]) (args := [(.pointer (some ⟨b, 0, none⟩))]) Tryd.call43 Opd.f (.cons (O rfl) .nil) rfl rfl (model_read_next_ok (hs.re 7 [0, 1, 2, 3, 4, 5, 6] rfl) hr4) ?_
 rintro _ w5 ⟨rfl, hs⟩
 replace hs := Sat.n7 (Γ := Φ) hs rfl
 refine Wo (Run_field (cs := [(.int .i64 r3.1), (S r3.2.1), (.int .i64 r3.2.2.1), (.int .i64 r3.2.2.2)]) Tryd.underlying28 rfl rfl rfl Tryd.underlying3 ti3 (O rfl) rfl) rfl <| Wo (Run_move (O rfl)) rfl <| ?_
 obtain ⟨b6, e7, hm⟩ := letv_some hm
 refine Wo (Run.eqB (Run_eqI (O rfl) (O rfl)) e7) rfl <| Wo (Run_move (O rfl)) rfl <| WL_opG rfl rfl rfl rfl guard_pos (Run_move (O rfl)) rfl rfl rfl <| ?_
 obtain ⟨r8, hr9, -, hm⟩ := callG_some hm
 refine WL_callG rfl rfl rfl guard_pos (f := 43) (first := []) (cap := []) (xs := [(.tmp 13)]) (vs := [(.pointer (some ⟨b, 0, none⟩))]) (args := [(.pointer (some ⟨b, 0, none⟩))]) Tryd.call43 Opd.f (.cons (Opd.g rfl id) .nil) rfl rfl (fun hg => model_read_next_ok (hs.re 7 [0, 1, 2, 3, 4, 5, 6] rfl) (hr9 hg)) ?_
 intro v11 w10 hv12 hz13
 replace hs := Sat.ofG (fun hg => (hv12 hg).2.re 7 [0, 1, 2, 3, 4, 5, 6] rfl) hz13 hs
 refine WL_sub1 (v := (.agg #[(.int .i64 r8.1), (S r8.2.1), (.int .i64 r8.2.2.1), (.int .i64 r8.2.2.2)])) (fun hg => (hv12 hg).1) ?_
 replace hs := Sat.n7 (Γ := Φ) hs rfl
 refine WL_opG rfl rfl rfl rfl guard_pos (Run_field (cs := [(.int .i64 r8.1), (S r8.2.1), (.int .i64 r8.2.2.1), (.int .i64 r8.2.2.2)]) Tryd.underlying28 rfl rfl rfl Tryd.underlying9 ti9 (Opd.g rfl id) rfl) rfl rfl rfl <| WL_opG rfl rfl rfl rfl guard_pos (Run_move (O rfl)) rfl rfl rfl <| ?_
 obtain ⟨b14, e15, hm⟩ := letv_some hm
 refine WL_opG rfl rfl rfl rfl guard_pos (Run.eqB (Run_eqS (Opd.g rfl id) (Opd.g rfl id)) e15) rfl rfl rfl <| ?_
 obtain ⟨b16, e17, hm⟩ := letv_some hm
 refine Wo (Run.eqB (Run_and (O rfl) (Opd.g rfl id)) e17) rfl <| Wo (Run_assign (O rfl)) rfl <| ?_
 refine WL_nil <| At_then ?_
 refine WC_ret ?_
 refine At_r1 rfl (ResIs.t rfl) ?_
 cases hm
 exact ⟨rfl, (hs.re 7 [0, 1, 2, 3, 4, 5, 6] rfl)⟩
set_option maxRecDepth 100000 in
set_option maxHeartbeats 4000000 in
theorem model_read_stop_ok {Φ : Ctx} {w : World} {e : Int} {l : (List (Int × Str × Int × Int))} {at_ : Int} {Names : (List Str)} {Schema : (List (Int × Int))} {Init : (List Int)} {Procs : (List Str)} {Cmd : (List (Int × Ex × (List (Int × Ex))))} {b : Nat} {v2 : SLV} {R : List Nat} {v4 : SLV} {R5 : List Nat} {v7 : SLV} {R8 : List Nat} {v10 : SLV} {R11 : List Nat} {v13 : SLV} {R14 : List Nat} {v16 : SLV} {R17 : List Nat} {r : (Except (Int × Int) Empty)} (hs : Sat (box b 69 [(sl v2), (.int .i64 at_), (sl v4), (sl v7), (sl v10), (sl v13), (sl v16)] :: osl (RP (RI .i64) (RP RS (RP (RI .i64) (RI .i64)))) 28 (sl v2) l R :: osl RS 9 (sl v4) Names R5 :: osl (RP (RI .i64) (RI .i64)) 44 (sl v7) Schema R8 :: osl (RI .i64) 3 (sl v10) Init R11 :: osl RS 9 (sl v13) Procs R14 :: osl (RP (RI .i64) (RP RExpr (RSl (RP (RI .i64) RExpr)))) 54 (sl v16) Cmd R17 :: Φ) w) (hm : model_read_stop e l at_ Names Schema Init Procs Cmd = some r) :
  CallsE Tryd.prog 45 [(.pointer (some ⟨b, 0, none⟩)), (.int .i64 e)] w r panV Φ (fun (_ : Empty) _ _ => False) := by
 refine CallsX_enter Tryd.func45 rfl Tryd.ntmps45 rfl ?_
 unfold model_read_stop at hm
 refine WC_region ?_
 refine Wo (Run_move (O rfl)) rfl <| Wo (Run_move (O rfl)) rfl <| ?_
 obtain ⟨r2, hr3, hm⟩ := bind_some' hm
 refine WL_call (f := 43) (first := []) (cap := []) (xs := [(.tmp 5)]) (vs := [(.pointer (some ⟨b, 0, none⟩))]) (args := [(.pointer (some ⟨b, 0, none⟩))]) Tryd.call43 Opd.f (.cons (O rfl) .nil) rfl rfl (model_read_next_ok (hs.re 7 [0, 1, 2, 3, 4, 5, 6] rfl) hr3) ?_
 rintro _ w4 ⟨rfl, hs⟩
 replace hs := Sat.n7 (Γ := Φ) hs rfl
 refine Wo (Run_field (cs := [(.int .i64 r2.1), (S r2.2.1), (.int .i64 r2.2.2.1), (.int .i64 r2.2.2.2)]) Tryd.underlying28 rfl rfl rfl Tryd.underlying3 ti3 (O rfl) rfl) rfl <| Wo (Run_build (parts := [(0, (.tmp 4)), (1, (.tmp 7))]) (v := (.agg #[(.int .i64 e), (.int .i64 r2.2.2.2)])) (.cons (O rfl) (.cons (O rfl) .nil)) (fun _ => by kernel_rfl)) rfl <| Wo (Run_mkIface Tryd.underlying65 rfl (O rfl)) rfl <| ?_
 cases hm
 refine WL_panic (O rfl) ?_
 exact At_p ⟨_, rfl, rfl, hs.re 7 [] rfl⟩
set_option maxRecDepth 100000 in
set_option maxHeartbeats 4000000 in
theorem slices_Index_string_string_ok {Φ : Ctx} {w : World} {s : (List Str)} {v3 : Str} {v1 : SLV} {r : Int} (hs : Sat (imm (RSl RS) [sl v1] s :: Φ) w) (hm : slices_Index_string_string s v3 = some r) :
  CallsR Tryd.prog 74 [(sl v1), (S v3)] w (fun v w' => v = (.int .i64 r) ∧ Sat (Φ) w') := by
 refine CallsX_enter Tryd.func74 rfl Tryd.ntmps74 rfl ?_
 unfold slices_Index_string_string at hm
 refine WC_seq <| WC_region ?_
 refine Wo (Run_assign Opd.c) rfl <| ?_
 refine WL_nil <| At_then <| WC_seq <| WC_seq <| WC_region ?_
 refine Wo (Run_move (O rfl)) rfl <| Wo (Run_lenSlG Tryd.underlying26 (O rfl) (fun hg => (hs.sl (i := 0) rfl).len)) rfl <| Wo (Run_move Opd.c) rfl <| ?_
 refine WL_nil <| At_then ?_
 refine WC_block ?_
 refine WC_loop (σ := Int) (γ := Unit) (F := (slices_Index_string_string_L1 s v3)) (N := FUEL) (s0 := 0) (r := r) (fun t4 (_ : Unit) w3 => Sat (imm (RSl RS) [sl v1] s :: Φ) w3) (fun t4 (_ : Unit) => [(0, true, (sl v1)), (1, true, (S v3)), (7, true, (.int .i64 (List.length s : Int))), (8, true, (.int .i64 t4))]) hm () (hs.re 1 [0] rfl) rfl ?_
 rintro again5 t4 _ w3 hm hs
 unfold slices_Index_string_string_L1 at hm
 refine WC_seq <| WC_region ?_
 refine Wo (Run_ltI (O rfl) (O rfl)) rfl <| ?_
 refine WL_nil <| At_then <| WC_seq ?_
 refine WC_cond (O rfl) (fun hc6 => ?_) (fun hc6 => ?_)
 ·
  replace hm := bif_t hc6 hm
  refine WC_skip ?_
  refine At_then <| WC_seq ?_
  refine WC_block ?_
  refine WC_seq <| WC_region ?_
  refine Wo (Run_move (O rfl)) rfl <| Wo (Run_assign (O rfl)) rfl <| ?_
  refine WL_nil <| At_then <| WC_seq <| WC_region ?_
  refine Wo (Run_move (O rfl)) rfl <| Wo (Run_move (O rfl)) rfl <| Wo (Run_move (O rfl)) rfl <| ?_
  obtain ⟨e7, he8, hm⟩ := bind_some' hm
  refine Wo (Run_idxAddr (p := (elA (sl v1) t4 1)) Tryd.underlying26 ti9 (O rfl) (O rfl) (fun hg => (SRd.atA (A := RS) (v := (sl v1)) (hs.sl (i := 0) rfl) he8).1)) rfl <| Wo (Run_load1 (v := (S e7)) Tryd.underlying9 rfl (O rfl) (fun hg => (SRd.cellsF (A := RS) (v := (sl v1)) (hs.sl (i := 0) rfl) he8 (fun _ h => openT9 h)).sub 0 rfl)) rfl <| Wo (Run_eqS (O rfl) (O rfl)) rfl <| ?_
  refine WL_nil <| At_then ?_
  refine WC_cond (O rfl) (fun hc9 => ?_) (fun hc9 => ?_)
  ·
   replace hm := bif_t hc9 hm
   refine WC_seq <| WC_region ?_
   refine Wo (Run_move (O rfl)) rfl <| Wo (Run_assign (O rfl)) rfl <| ?_
   refine WL_nil <| At_then ?_
   refine WC_ret ?_
   refine At_blk_ret <| At_then_ret <| At_then_ret <| At_blk_ret <| At_then_ret <| ?_
   refine At_r1 rfl (ResIs.t rfl) ?_
   cases hm
   exact ⟨rfl, (hs.re 1 [] rfl)⟩
  ·
   replace hm := bif_f hc9 hm
   refine WC_skip ?_
   refine At_blk_normal ?_
   refine At_then <| WC_region ?_
   refine Wo (Run_add (O rfl) Opd.c) rfl <| Wo (Run_move (O rfl)) rfl <| ?_
   refine WL_nil ?_
   exact At_again (IntKind.i64.wrap (t4 + 1)) () hm (hs.re 1 [0] rfl) rfl
 ·
  replace hm := bif_f hc6 hm
  refine WC_exit ?_
  refine At_then_exit <| At_then_exit <| At_blk_here <| ?_
  refine At_then <| WC_seq <| WC_region ?_
  refine Wo (Run_assign Opd.c) rfl <| ?_
  refine WL_nil <| At_then ?_
  refine WC_ret ?_
  refine At_r1 rfl (ResIs.t rfl) ?_
  cases hm
  exact ⟨rfl, (hs.re 1 [] rfl)⟩
set_option maxRecDepth 100000 in
set_option maxHeartbeats 4000000 in
theorem slices_Contains_string_string_ok {Φ : Ctx} {w : World} {s : (List Str)} {v3 : Str} {v1 : SLV} {r : Bool} (hs : Sat (imm (RSl RS) [sl v1] s :: Φ) w) (hm : slices_Contains_string_string s v3 = some r) :
  CallsR Tryd.prog 70 [(sl v1), (S v3)] w (fun v w' => v = (.bool r) ∧ Sat (Φ) w') := by
 refine CallsX_enter Tryd.func70 rfl Tryd.ntmps70 rfl ?_
 unfold slices_Contains_string_string at hm
 refine WC_seq <| WC_region ?_
 refine Wo (Run_assign Opd.c) rfl <| ?_
 refine WL_nil <| At_then <| WC_seq <| WC_region ?_
 refine Wo (Run_move (O rfl)) rfl <| Wo (Run_move (O rfl)) rfl <| ?_
 obtain ⟨r3, hr4, hm⟩ := bind_some' hm
 refine WL_call (f := 74) (first := []) (cap := []) (xs := [(.tmp 5), (.tmp 6)]) (vs := [(sl v1), (S v3)]) (args := [(sl v1), (S v3)]) Tryd.call74 Opd.f (.cons (O rfl) (.cons (O rfl) .nil)) rfl rfl (slices_Index_string_string_ok (hs.re 1 [0, 0] rfl) hr4) ?_
 rintro _ w5 ⟨rfl, hs⟩
 replace hs := Sat.n1 (Γ := Φ) hs rfl
 refine Wo (Run_geI (O rfl) Opd.c) rfl <| Wo (Run_assign (O rfl)) rfl <| ?_
 refine WL_nil <| At_then ?_
 refine WC_ret ?_
 refine At_r1 rfl (ResIs.t rfl) ?_
 cases hm
 exact ⟨rfl, (hs.re 1 [] rfl)⟩
end Go.Proofs.YtdhgpnejphlfpaaDoor
namespace Go.Proofs.YtdhgpnejphlfpaaDoor
open Go.Proofs
set_option maxRecDepth 100000 in
set_option maxHeartbeats 4000000 in
theorem expr_Key_ok {Φ : Ctx} {w : World} {name : Str} {r : Bool} (hs : Sat (gl 0 (keysL.map S) :: Φ) w) (hm : expr_Key name = some r) :
  CallsR Tryd.prog 61 [(S name)] w (fun v w' => v = (.bool r) ∧ Sat (Φ) w') := by
 refine CallsX_enter Tryd.func61 rfl Tryd.ntmps61 rfl ?_
 unfold expr_Key at hm
 refine WC_seq <| WC_region ?_
 refine Wo (Run_assign Opd.c) rfl <| ?_
 refine WL_nil <| At_then <| WC_seq <| WC_region ?_
 refine Wo (Run_cutArr Tryd.underlying104 ti9 rfl Opd.gl) rfl <| ?_
 replace hs := hs.addS (gl_sl (A := RS) (hs.gl (i := 0) rfl).1 (hs.gl (i := 0) rfl).2 (ARd_strs _))
 refine Wo (Run_move (O rfl)) rfl <| ?_
 obtain ⟨r3, hr4, hm⟩ := bind_some' hm
 refine WL_call (f := 70) (first := []) (cap := []) (xs := [(.tmp 3), (.tmp 4)]) (vs := [(sl (some ⟨0, 0, none⟩, 9, 9)), (S name)]) (args := [(sl (some ⟨0, 0, none⟩, 9, 9)), (S name)]) Tryd.call70 Opd.f (.cons (O rfl) (.cons (O rfl) .nil)) rfl rfl (slices_Contains_string_string_ok (hs.re 2 [0, 0, 1] rfl) hr4) ?_
 rintro _ w5 ⟨rfl, hs⟩
 replace hs := Sat.n2 (Γ := Φ) hs rfl
 refine Wo (Run_assign (O rfl)) rfl <| ?_
 refine WL_nil <| At_then ?_
 refine WC_ret ?_
 refine At_r1 rfl (ResIs.t rfl) ?_
 cases hm
 exact ⟨rfl, (hs.re 2 [] rfl)⟩
set_option maxRecDepth 100000 in
set_option maxHeartbeats 4000000 in
theorem slices_Index_string_string_s2_ok {Φ : Ctx} {w : World} {s : (List Str)} {v3 : Str} {v1 : SLV} {R : List Nat} {r : Int} (hs : Sat (osl RS 9 (sl v1) s R :: Φ) w) (hm : slices_Index_string_string_s2 s v3 = some r) :
  CallsR Tryd.prog 74 [(sl v1), (S v3)] w (fun v w' => v = (.int .i64 r) ∧ Sat (osl RS 9 (sl v1) s R :: Φ) w') := by
 refine CallsX_enter Tryd.func74 rfl Tryd.ntmps74 rfl ?_
 unfold slices_Index_string_string_s2 at hm
 refine WC_seq <| WC_region ?_
 refine Wo (Run_assign Opd.c) rfl <| ?_
 refine WL_nil <| At_then <| WC_seq <| WC_seq <| WC_region ?_
 refine Wo (Run_move (O rfl)) rfl <| Wo (Run_lenSlG Tryd.underlying26 (O rfl) (fun _ => (hs.own (i := 0) rfl).len)) rfl <| Wo (Run_move Opd.c) rfl <| ?_
 refine WL_nil <| At_then ?_
 refine WC_block ?_
 refine WC_loop (σ := Int) (γ := Unit) (F := (slices_Index_string_string_s2_L1 s v3)) (N := FUEL) (s0 := 0) (r := r) (fun t4 (_ : Unit) w3 => Sat (osl RS 9 (sl v1) s R :: Φ) w3) (fun t4 (_ : Unit) => [(0, true, (sl v1)), (1, true, (S v3)), (7, true, (.int .i64 (List.length s : Int))), (8, true, (.int .i64 t4))]) hm () (hs.re 1 [0] rfl) rfl ?_
 rintro again5 t4 _ w3 hm hs
 unfold slices_Index_string_string_s2_L1 at hm
 refine WC_seq <| WC_region ?_
 refine Wo (Run_ltI (O rfl) (O rfl)) rfl <| ?_
 refine WL_nil <| At_then <| WC_seq ?_
 refine WC_cond (O rfl) (fun hc6 => ?_) (fun hc6 => ?_)
 ·
  replace hm := bif_t hc6 hm
  refine WC_skip ?_
  refine At_then <| WC_seq ?_
  refine WC_block ?_
  refine WC_seq <| WC_region ?_
  refine Wo (Run_move (O rfl)) rfl <| Wo (Run_assign (O rfl)) rfl <| ?_
  refine WL_nil <| At_then <| WC_seq <| WC_region ?_
  refine Wo (Run_move (O rfl)) rfl <| Wo (Run_move (O rfl)) rfl <| Wo (Run_move (O rfl)) rfl <| ?_
  obtain ⟨e7, he8, hm⟩ := bind_some' hm
  refine Wo (Run_idxAddr (p := (elA (sl v1) t4 1)) Tryd.underlying26 ti9 (O rfl) (O rfl) (fun hg => (Own.atA (A := RS) (v := (sl v1)) (hs.own (i := 0) rfl) he8).1)) rfl <| Wo (Run_load1 (v := (S e7)) Tryd.underlying9 rfl (O rfl) (fun hg => (Own.cellsF (A := RS) (v := (sl v1)) (hs.own (i := 0) rfl) he8 (fun _ h => openT9 h)).sub 0 rfl)) rfl <| Wo (Run_eqS (O rfl) (O rfl)) rfl <| ?_
  refine WL_nil <| At_then ?_
  refine WC_cond (O rfl) (fun hc9 => ?_) (fun hc9 => ?_)
  ·
   replace hm := bif_t hc9 hm
   refine WC_seq <| WC_region ?_
   refine Wo (Run_move (O rfl)) rfl <| Wo (Run_assign (O rfl)) rfl <| ?_
   refine WL_nil <| At_then ?_
   refine WC_ret ?_
   refine At_blk_ret <| At_then_ret <| At_then_ret <| At_blk_ret <| At_then_ret <| ?_
   refine At_r1 rfl (ResIs.t rfl) ?_
   cases hm
   exact ⟨rfl, (hs.re 1 [0] rfl)⟩
  ·
   replace hm := bif_f hc9 hm
   refine WC_skip ?_
   refine At_blk_normal ?_
   refine At_then <| WC_region ?_
   refine Wo (Run_add (O rfl) Opd.c) rfl <| Wo (Run_move (O rfl)) rfl <| ?_
   refine WL_nil ?_
   exact At_again (IntKind.i64.wrap (t4 + 1)) () hm (hs.re 1 [0] rfl) rfl
 ·
  replace hm := bif_f hc6 hm
  refine WC_exit ?_
  refine At_then_exit <| At_then_exit <| At_blk_here <| ?_
  refine At_then <| WC_seq <| WC_region ?_
  refine Wo (Run_assign Opd.c) rfl <| ?_
  refine WL_nil <| At_then ?_
  refine WC_ret ?_
  refine At_r1 rfl (ResIs.t rfl) ?_
  cases hm
  exact ⟨rfl, (hs.re 1 [0] rfl)⟩
set_option maxRecDepth 100000 in
set_option maxHeartbeats 4000000 in
theorem slices_Contains_string_string_s2_ok {Φ : Ctx} {w : World} {s : (List Str)} {v3 : Str} {v1 : SLV} {R : List Nat} {r : Bool} (hs : Sat (osl RS 9 (sl v1) s R :: Φ) w) (hm : slices_Contains_string_string_s2 s v3 = some r) :
  CallsR Tryd.prog 70 [(sl v1), (S v3)] w (fun v w' => v = (.bool r) ∧ Sat (osl RS 9 (sl v1) s R :: Φ) w') := by
 refine CallsX_enter Tryd.func70 rfl Tryd.ntmps70 rfl ?_
 unfold slices_Contains_string_string_s2 at hm
 refine WC_seq <| WC_region ?_
 refine Wo (Run_assign Opd.c) rfl <| ?_
 refine WL_nil <| At_then <| WC_seq <| WC_region ?_
 refine Wo (Run_move (O rfl)) rfl <| Wo (Run_move (O rfl)) rfl <| ?_
 obtain ⟨r3, hr4, hm⟩ := bind_some' hm
 refine WL_call (f := 74) (first := []) (cap := []) (xs := [(.tmp 5), (.tmp 6)]) (vs := [(sl v1), (S v3)]) (args := [(sl v1), (S v3)]) Tryd.call74 Opd.f (.cons (O rfl) (.cons (O rfl) .nil)) rfl rfl (slices_Index_string_string_s2_ok (hs.re 1 [0] rfl) hr4) ?_
 rintro _ w5 ⟨rfl, hs⟩
 replace hs := Sat.n1 (Γ := Φ) hs rfl
 refine Wo (Run_geI (O rfl) Opd.c) rfl <| Wo (Run_assign (O rfl)) rfl <| ?_
 refine WL_nil <| At_then ?_
 refine WC_ret ?_
 refine At_r1 rfl (ResIs.t rfl) ?_
 cases hm
 exact ⟨rfl, (hs.re 1 [0] rfl)⟩
set_option maxRecDepth 100000 in
set_option maxHeartbeats 4000000 in
theorem model_read_given_ok {Φ : Ctx} {w : World} {name : Str} {l : (List (Int × Str × Int × Int))} {at_ : Int} {Names : (List Str)} {Schema : (List (Int × Int))} {Init : (List Int)} {Procs : (List Str)} {Cmd : (List (Int × Ex × (List (Int × Ex))))} {b : Nat} {v2 : SLV} {R : List Nat} {v4 : SLV} {R5 : List Nat} {v7 : SLV} {R8 : List Nat} {v10 : SLV} {R11 : List Nat} {v13 : SLV} {R14 : List Nat} {v16 : SLV} {R17 : List Nat} {r : Bool} (hs : Sat (box b 69 [(sl v2), (.int .i64 at_), (sl v4), (sl v7), (sl v10), (sl v13), (sl v16)] :: osl (RP (RI .i64) (RP RS (RP (RI .i64) (RI .i64)))) 28 (sl v2) l R :: osl RS 9 (sl v4) Names R5 :: osl (RP (RI .i64) (RI .i64)) 44 (sl v7) Schema R8 :: osl (RI .i64) 3 (sl v10) Init R11 :: osl RS 9 (sl v13) Procs R14 :: osl (RP (RI .i64) (RP RExpr (RSl (RP (RI .i64) RExpr)))) 54 (sl v16) Cmd R17 :: Φ) w) (hm : model_read_given name l at_ Names Schema Init Procs Cmd = some r) :
  CallsR Tryd.prog 62 [(.pointer (some ⟨b, 0, none⟩)), (S name)] w (fun v w' => v = (.bool r) ∧ Sat (box b 69 [(sl v2), (.int .i64 at_), (sl v4), (sl v7), (sl v10), (sl v13), (sl v16)] :: osl (RP (RI .i64) (RP RS (RP (RI .i64) (RI .i64)))) 28 (sl v2) l R :: osl RS 9 (sl v4) Names R5 :: osl (RP (RI .i64) (RI .i64)) 44 (sl v7) Schema R8 :: osl (RI .i64) 3 (sl v10) Init R11 :: osl RS 9 (sl v13) Procs R14 :: osl (RP (RI .i64) (RP RExpr (RSl (RP (RI .i64) RExpr)))) 54 (sl v16) Cmd R17 :: Φ) w') := by
 refine CallsX_enter Tryd.func62 rfl Tryd.ntmps62 rfl ?_
 unfold model_read_given at hm
 refine WC_seq <| WC_region ?_
 refine Wo (Run_assign Opd.c) rfl <| ?_
 refine WL_nil <| At_then <| WC_seq <| WC_region ?_
 refine Wo (Run_move (O rfl)) rfl <| Wo (Run_nilP (O rfl)) rfl <| Wo (Run_fieldAddr fo69_2 (O rfl)) rfl <| Wo (Run_fieldAddr fo33_0 (O rfl)) rfl <| Wo (Run_load1 (v := (sl v4)) Tryd.underlying26 rfl (O rfl) (fun _ => (hs.box (i := 0) rfl).part 2 rfl)) rfl <| Wo (Run_move (O rfl)) rfl <| ?_
 obtain ⟨r3, hr4, hm⟩ := bind_some' hm
 refine WL_call (f := 70) (first := []) (cap := []) (xs := [(.tmp 9), (.tmp 10)]) (vs := [(sl v4), (S name)]) (args := [(sl v4), (S name)]) Tryd.call70 Opd.f (.cons (O rfl) (.cons (O rfl) .nil)) rfl rfl (slices_Contains_string_string_s2_ok (hs.re 7 [2, 0, 1, 3, 4, 5, 6] rfl) hr4) ?_
 rintro _ w5 ⟨rfl, hs⟩
 replace hs := Sat.n7 (Γ := Φ) hs rfl
 refine Wo (Run_move (O rfl)) rfl <| Wg rfl guard_neg (Run_move (O rfl)) rfl <| Wg rfl guard_neg (Run_nilP (Opd.g rfl id)) rfl <| Wg rfl guard_neg (Run_fieldAddr fo69_2 (Opd.g rfl id)) rfl <| Wg rfl guard_neg (Run_fieldAddr fo33_3 (Opd.g rfl id)) rfl <| Wg rfl guard_neg (Run_load1 (v := (sl v13)) Tryd.underlying26 rfl (Opd.g rfl id) (fun _ => (hs.box (i := 1) rfl).part 5 rfl)) rfl <| Wg rfl guard_neg (Run_move (O rfl)) rfl <| ?_
 obtain ⟨r6, hr7, -, hm⟩ := callG_some hm
 refine WL_callG rfl rfl rfl guard_neg (f := 70) (first := []) (cap := []) (xs := [(.tmp 17), (.tmp 18)]) (vs := [(sl v13), (S name)]) (args := [(sl v13), (S name)]) Tryd.call70 Opd.f (.cons (Opd.g rfl id) (.cons (Opd.g rfl id) .nil)) rfl rfl (fun hg => slices_Contains_string_string_s2_ok (hs.re 7 [5, 0, 1, 2, 3, 4, 6] rfl) (hr7 hg)) ?_
 intro v9 w8 hv10 hz11
 replace hs := Sat.ofG (fun hg => (hv10 hg).2.re 7 [1, 2, 3, 4, 5, 0, 6] rfl) hz11 hs
 refine WL_sub1 (v := (.bool r6)) (fun hg => (hv10 hg).1) ?_
 replace hs := Sat.n7 (Γ := Φ) hs rfl
 obtain ⟨b12, e13, hm⟩ := letv_some hm
 refine Wo (Run.eqB (Run_or (O rfl) (Opd.g rfl id)) e13) rfl <| Wo (Run_assign (O rfl)) rfl <| ?_
 refine WL_nil <| At_then ?_
 refine WC_ret ?_
 refine At_r1 rfl (ResIs.t rfl) ?_
 cases hm
 exact ⟨rfl, (hs.re 7 [1, 2, 0, 3, 4, 5, 6] rfl)⟩
end Go.Proofs.YtdhgpnejphlfpaaDoor
