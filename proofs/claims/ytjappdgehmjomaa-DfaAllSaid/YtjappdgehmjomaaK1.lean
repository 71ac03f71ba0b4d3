/-
  Own framework, part 1: models, environments, rules for code (in a round of a range over a function, too). Nothing of a program in it.
-/
import Derived.WalkKit
import Derived.ScopeJumps
import Derived.Deep.Quiet
import Derived.KernelRfl
import Derived.TacticsIn
import Derived.OrdersIn
import Derived.RangeFuncRecord
namespace Go.Proofs.Ytjappdgehmjomaa

/-! ### words of the models -/

abbrev Str := List UInt8
def S (l : Str) : Value := .string ⟨l.toArray⟩

def fixN {σ ρ : Type} (F : (σ → Option ρ) → σ → Option ρ) : Nat → σ → Option ρ
  | 0, _ => none
  | n + 1, s => F (fixN F n) s
theorem fixN_succ {σ ρ : Type} {F : (σ → Option ρ) → σ → Option ρ} {n : Nat} {s : σ} : fixN F (n + 1) s = F (fixN F n) s := rfl
def FUEL : Nat := 2 ^ 64

def chk {ρ : Type} (c : Bool) (k : Option ρ) : Option ρ := bif c then k else none
def letv {α ρ : Type} (x : α) (k : α → Option ρ) : Option ρ := k x
/-- a call that is made where 'g' holds -/
def callG {α ρ : Type} (g : Bool) (d : α) (m : Option α) (k : α → Option ρ) : Option ρ := (bif g then m else some d).bind k

theorem chk_some {ρ : Type} {c : Bool} {k : Option ρ} {r : ρ} (h : chk c k = some r) : c = true ∧ k = some r := by
  cases c
  · cases h
  · exact ⟨rfl, h⟩
theorem letv_some {α ρ : Type} {x : α} {k : α → Option ρ} {r : ρ} (h : letv x k = some r) : ∃ y, x = y ∧ k y = some r := ⟨x, rfl, h⟩
theorem bind_some' {α ρ : Type} {m : Option α} {k : α → Option ρ} {r : ρ} (h : m.bind k = some r) : ∃ y, m = some y ∧ k y = some r := by
  cases m with
  | none => cases h
  | some y => exact ⟨y, rfl, h⟩
theorem callG_some {α ρ : Type} {g : Bool} {d : α} {m : Option α} {k : α → Option ρ} {r : ρ} (h : callG g d m k = some r) :
    ∃ y, (g = true → m = some y) ∧ (g = false → y = d) ∧ k y = some r := by
  cases g
  · exact ⟨d, (fun h => by cases h), fun _ => rfl, h⟩
  · obtain ⟨y, hy, hk⟩ := bind_some' h
    exact ⟨y, fun _ => hy, (fun h => by cases h), hk⟩
theorem bif_some {ρ : Type} {c : Bool} {x y : Option ρ} {r : ρ} (h : (bif c then x else y) = some r) :
    (c = true ∧ x = some r) ∨ (c = false ∧ y = some r) := by
  cases c
  · exact .inr ⟨rfl, h⟩
  · exact .inl ⟨rfl, h⟩
theorem bif_t {ρ : Type} {c : Bool} {x y : Option ρ} {r : ρ} (hc : c = true) (h : (bif c then x else y) = some r) : x = some r := by
  subst hc; exact h
theorem bif_f {ρ : Type} {c : Bool} {x y : Option ρ} {r : ρ} (hc : c = false) (h : (bif c then x else y) = some r) : y = some r := by
  subst hc; exact h
theorem callG_t {α ρ : Type} {d : α} {m : Option α} {k : α → Option ρ} {r : ρ} (h : callG true d m k = some r) : ∃ y, m = some y ∧ k y = some r := bind_some' h
/-- a check that is made where 'g' holds -/
def chkG {ρ : Type} (g c : Bool) (k : Option ρ) : Option ρ := bif g then (bif c then k else none) else k
theorem chkG_some {ρ : Type} {g c : Bool} {k : Option ρ} {r : ρ} (h : chkG g c k = some r) : (g = true → c = true) ∧ k = some r := by
  cases g
  · exact ⟨(fun h => by cases h), h⟩
  · obtain ⟨h1, h2⟩ := chk_some (c := c) h
    exact ⟨fun _ => h1, h2⟩
/-- a thing that is there where 'g' holds -/
theorem exG {α : Type} [Inhabited α] {g : Bool} {p : α → Prop} (h : g = true → ∃ x, p x) : ∃ x, g = true → p x := by
  cases g
  · exact ⟨default, fun h => by cases h⟩
  · obtain ⟨x, hx⟩ := h rfl
    exact ⟨x, fun _ => hx⟩
theorem fixN_some {σ ρ : Type} {F : (σ → Option ρ) → σ → Option ρ} {n : Nat} {s : σ} {r : ρ} (h : fixN F n s = some r) :
    ∃ m, n = m + 1 ∧ F (fixN F m) s = some r := by
  cases n with
  | zero => cases h
  | succ m => exact ⟨m, rfl, h⟩

/-! ### environments -/

abbrev Env := List (Nat × Bool × Value)

def look : Env → Nat → Option (Bool × Value)
  | [], _ => none
  | (r, g, v) :: E, t => bif Nat.beq r t then some (g, v) else look E t

def gval (g : Bool) (v : Value) : Value := bif g then v else undef

structure Fits (n : Nat) (E : Env) (a : Act) : Prop where
  size : a.tmps.size = n
  at_ : ∀ t g v, look E t = some (g, v) → a.tmps.getD t undef = gval g v

/-- operand x, where g holds, is v -/
def Opd (E : Env) (g : Bool) (x : Operand) (v : Value) : Prop :=
  ∀ n a, Fits n E a → g = true → a.eval x = v

theorem Opd.t {E : Env} {g : Bool} {t : Tmp} {v : Value} (h : look E t = some (true, v)) : Opd E g (.tmp t) v :=
  fun n a hf _ => by simpa [gval, Act.eval] using hf.at_ t true v h
theorem Opd.g {E : Env} {g g' : Bool} {t : Tmp} {v : Value} (h : look E t = some (g', v)) (hg : g = true → g' = true) : Opd E g (.tmp t) v :=
  fun n a hf hgt => by have := hf.at_ t g' v h; rw [hg hgt] at this; simpa [gval, Act.eval] using this
theorem Opd.c {E : Env} {g : Bool} {v : Value} : Opd E g (.const v) v := fun _ _ _ _ => rfl
theorem Opd.f {E : Env} {g : Bool} {f : FuncId} : Opd E g (.func f) (.func (.func f) #[] #[]) := fun _ _ _ _ => rfl
theorem Opd.gl {E : Env} {g : Bool} {f : Nat} : Opd E g (.global f) (.pointer (some ⟨f, 0, none⟩)) := fun _ _ _ _ => rfl

inductive Opds (E : Env) (g : Bool) : List Operand → List Value → Prop
  | nil : Opds E g [] []
  | cons {x v xs vs} : Opd E g x v → Opds E g xs vs → Opds E g (x :: xs) (v :: vs)

theorem Opds.map {E : Env} {g : Bool} {xs : List Operand} {vs : List Value} (h : Opds E g xs vs) {n : Nat} {a : Act} (hf : Fits n E a) (hg : g = true) :
    xs.map a.eval = vs := by
  induction h with
  | nil => rfl
  | cons hx _ ih => simp [hx n a hf hg, ih]

def put (dst : Option Tmp) (g : Bool) (v : Value) (E : Env) : Env :=
  match dst with
  | some d => (d, g, v) :: E
  | none => E

theorem getD_setIfInBounds (xs : Array Value) (i j : Nat) (v : Value) :
    (xs.setIfInBounds i v).getD j undef = if i = j ∧ i < xs.size then v else xs.getD j undef := by
  simp only [Array.getD_eq_getD_getElem?, Array.getElem?_setIfInBounds]
  by_cases h : i = j
  · subst h
    by_cases h2 : i < xs.size
    · simp [h2]
    · simp [h2]
  · simp [h]

theorem Fits.put {n : Nat} {E : Env} {a : Act} (h : Fits n E a) {d : Tmp} {g : Bool} {v : Value} (hd : Nat.blt d n = true) :
    Fits n ((d, g, v) :: E) (a.put (some d) (gval g v)) := by
  have hd' : d < n := by simpa using hd
  refine ⟨by simp [Act.put, h.size], fun t g' v' ht => ?_⟩
  simp only [Act.put, getD_setIfInBounds, h.size, hd', and_true]
  simp only [look] at ht
  by_cases hdt : d = t
  · subst hdt
    simp only [Nat.beq_refl, cond_true, Option.some.injEq, Prod.mk.injEq] at ht
    obtain ⟨rfl, rfl⟩ := ht
    simp
  · have : Nat.beq d t = false := by cases hb : Nat.beq d t with
      | true => exact absurd (Nat.eq_of_beq_eq_true hb) hdt
      | false => rfl
    rw [this, cond_false] at ht
    rw [if_neg hdt]
    exact h.at_ t g' v' ht

theorem Fits.putN {n : Nat} {E : Env} {a : Act} (h : Fits n E a) {v : Value} : Fits n E (a.put none v) := h

/-- the entries of E', each as E has it -/
abbrev subB (E' E : Env) : Prop := E'.map (fun p => look E p.1) = E'.map (fun p => some p.2)

theorem look_mem : ∀ {E : Env} {t : Nat} {p : Bool × Value}, look E t = some p → (t, p) ∈ E
  | (r, g, v) :: E, t, p, h => by
    simp only [look] at h
    cases hb : Nat.beq r t with
    | true =>
      rw [hb, cond_true] at h
      have := Nat.eq_of_beq_eq_true hb
      subst this
      cases h
      exact List.mem_cons_self ..
    | false =>
      rw [hb, cond_false] at h
      exact List.mem_cons_of_mem _ (look_mem h)

theorem Fits.sub {n : Nat} {E E' : Env} {a : Act} (h : Fits n E a) (hs : subB E' E) : Fits n E' a := by
  refine ⟨h.size, fun t g v ht => h.at_ t g v ?_⟩
  have hm := look_mem ht
  have := List.map_inj_left.1 hs _ hm
  simpa using this

/-! ### posts and code -/

abbrev Post := Exit → Act → World → Prop

/-- no fence; within a round of the loop ρ, or in no round -/
def FW (ρ : Option Nat) : Fence := { fn := fun _ => True, depth := none, alive := false, round := ρ }
theorem FW_fn {ρ : Option Nat} {f : FuncId} : (FW ρ).fn f := trivial
theorem FW_room {ρ : Option Nat} {k : Nat} : (FW ρ).room k := fun _ h => by cases h
theorem FW_depth {ρ : Option Nat} {p : Prop} : (FW ρ).depth.isSome = true → p := fun h => by cases h
theorem FW_all {ρ : Option Nat} {P : Program} {m : Machine} : m.fenced P (FW ρ) := fenced_wide P m
theorem callsIn_FW {ρ : Option Nat} {n : Nat} {P : Program} {f : FuncId} {args : Array Value} {w : World} {R : Ending → World → Prop} (h : Calls P f args w R) : CallsIn (FW ρ) n P f args w R :=
  callsIn_wide.2 h
theorem calls_of_FW {ρ : Option Nat} {n : Nat} {P : Program} {f : FuncId} {args : Array Value} {w : World} {R : Ending → World → Prop} (h : CallsIn (FW ρ) n P f args w R) : Calls P f args w R :=
  callsIn_wide.1 h

/-- the post at exit e, from whatever act that fits -/
def At (Q : Post) (e : Exit) (n : Nat) (D : List Deferred) (E : Env) (w : World) : Prop :=
  ∀ a, Fits n E a → a.defers = D → Q e a w

def WC (P : Program) (ρ : Option Nat) (c : Code) (Q : Post) (n : Nat) (D : List Deferred) (E : Env) (w : World) : Prop :=
  ∀ a, Fits n E a → a.defers = D → c.wpIn (FW ρ) 0 P Q a w

def WL (P : Program) (ρ : Option Nat) (ops : Array Oper) (Q : Post) (n : Nat) (D : List Deferred) (l : List Oper) (E : Env) (w : World) : Prop :=
  ∀ a, Fits n E a → a.defers = D → wpListIn (FW ρ) 0 P ops Q l a w

section
variable {P : Program} {ρ : Option Nat} {Q : Post} {n : Nat} {D : List Deferred} {E : Env} {w : World}

theorem WC.sub {c : Code} (E' : Env) (hs : subB E' E) (h : WC P ρ c Q n D E' w) : WC P ρ c Q n D E w :=
  fun a hf hd => h a (hf.sub hs) hd
theorem At.sub {e : Exit} (E' : Env) (hs : subB E' E) (h : At Q e n D E' w) : At Q e n D E w :=
  fun a hf hd => h a (hf.sub hs) hd

theorem WC_seq {x y : Code} (h : WC P ρ x (Exit.then (y.wpIn (FW ρ) 0 P Q) Q) n D E w) : WC P ρ (.seq x y) Q n D E w :=
  fun a hf hd => wpIn_seq (h a hf hd)
theorem At_then {y : Code} (h : WC P ρ y Q n D E w) : At (Exit.then (y.wpIn (FW ρ) 0 P Q) Q) .normal n D E w := h
theorem At_then_ret {K : Act → World → Prop} (h : At Q .ret n D E w) : At (Exit.then K Q) .ret n D E w := h
theorem At_then_exit {K : Act → World → Prop} {i : Nat} (h : At Q (.exit i) n D E w) : At (Exit.then K Q) (.exit i) n D E w := h
theorem At_then_goto {K : Act → World → Prop} {i : Nat} (h : At Q (.goto i) n D E w) : At (Exit.then K Q) (.goto i) n D E w := h
theorem At_then_panic {K : Act → World → Prop} {i : List PanicEntry} (h : At Q (.panic i) n D E w) : At (Exit.then K Q) (.panic i) n D E w := h
theorem At_blk_normal {i : Nat} (h : At Q .normal n D E w) : At (Exit.inBlock i Q) .normal n D E w := h
theorem At_blk_ret {i : Nat} (h : At Q .ret n D E w) : At (Exit.inBlock i Q) .ret n D E w := h
theorem At_blk_goto {i j : Nat} (h : At Q (.goto j) n D E w) : At (Exit.inBlock i Q) (.goto j) n D E w := h
theorem At_blk_panic {i : Nat} {j : List PanicEntry} (h : At Q (.panic j) n D E w) : At (Exit.inBlock i Q) (.panic j) n D E w := h
theorem At_blk_here {i : Nat} (h : At Q .normal n D E w) : At (Exit.inBlock i Q) (.exit i) n D E w :=
  fun a hf hd => by simp only [Exit.inBlock, if_true]; exact h a hf hd
theorem At_blk_other {i j : Nat} (hij : Nat.beq j i = false) (h : At Q (.exit j) n D E w) : At (Exit.inBlock i Q) (.exit j) n D E w :=
  fun a hf hd => by
    have : ¬ j = i := fun e => by subst e; simp at hij
    simp only [Exit.inBlock, if_neg this]; exact h a hf hd

theorem WC_skip (h : At Q .normal n D E w) : WC P ρ .skip Q n D E w := fun a hf hd => wpIn_skip (h a hf hd)
theorem WC_label {l : Nat} (h : At Q .normal n D E w) : WC P ρ (.label l) Q n D E w := fun a hf hd => wpIn_label (h a hf hd)
theorem WC_exit {i : Nat} (h : At Q (.exit i) n D E w) : WC P ρ (.exit i) Q n D E w := fun a hf hd => wpIn_exit (h a hf hd)
theorem WC_goto {i : Nat} (h : At Q (.goto i) n D E w) : WC P ρ (.goto i) Q n D E w := fun a hf hd => wpIn_goto (h a hf hd)
theorem WC_ret (h : At Q .ret n D E w) : WC P ρ .ret Q n D E w := fun a hf hd => wpIn_ret (h a hf hd)
theorem WC_block {i : Nat} {c : Code} (h : WC P ρ c (Exit.inBlock i Q) n D E w) : WC P ρ (.block i c) Q n D E w := fun a hf hd => wpIn_block (h a hf hd)
theorem WC_region {id : Nat} {l : List Oper} (h : WL P ρ l.toArray Q n D l E w) : WC P ρ (.region id l.toArray false) Q n D E w :=
  fun a hf hd => wpIn_region_lit (h a hf hd)

theorem WC_cond {c : Operand} {x y : Code} {b : Bool} (hc : Opd E true c (.bool b))
    (ht : b = true → WC P ρ x Q n D E w) (hf : b = false → WC P ρ y Q n D E w) : WC P ρ (.cond c x y) Q n D E w :=
  fun a hfit hd => wpIn_cond_split (hc n a hfit rfl) (fun h => ht h a hfit hd) (fun h => hf h a hfit hd)

/-- a join: what holds where x comes to its end (J over ghosts, the environment there) -/
def JoinPost {γ : Type} (J : γ → World → Prop) (Es : γ → Env) (n : Nat) (D : List Deferred) (a : Act) (w : World) : Prop :=
  ∃ g, J g w ∧ Fits n (Es g) a ∧ a.defers = D

theorem WC_seq_cut {γ : Type} (J : γ → World → Prop) (Es : γ → Env) {x y : Code}
    (hy : ∀ g w', J g w' → WC P ρ y Q n D (Es g) w') (hx : WC P ρ x (Exit.then (JoinPost J Es n D) Q) n D E w) : WC P ρ (.seq x y) Q n D E w :=
  fun a hf hd => wpIn_seq (wpIn_mono (hx a hf hd) (fun e a' w' h => by
    cases e <;> first | exact h | (obtain ⟨g, hJ, hF, hD⟩ := h; exact hy g w' hJ a' hF hD)))

theorem At_join {γ : Type} {J : γ → World → Prop} {Es : γ → Env} (g : γ) (hJ : J g w) (hs : subB (Es g) E) : At (Exit.then (JoinPost J Es n D) Q) .normal n D E w :=
  fun _a hf hd => ⟨g, hJ, hf.sub hs, hd⟩

/-- loops with a ghost measure -/
theorem wpR_loop_ghost {c : Code} (I : Nat → Act → World → Prop) {a : Act} {w : World} (N : Nat) (h₀ : I N a w)
    (round : ∀ m a w, I m a w → c.wpIn (FW ρ) 0 P (Exit.then (fun a' w' => ∃ m' < m, I m' a' w') Q) a w) : (Code.loop c).wpIn (FW ρ) 0 P Q a w := by
  intro b k cs hro hb hr
  have key : ∀ m a w, I m a w →
      ∃ e a' w', Q e a' w' ∧ ArrivesIn (Machine.fenced P (FW ρ)) P (lone (b.atR a (.code c :: .inLoop c :: k)) cs w) b k cs e a' w' := by
    intro m
    induction m using Nat.strongRecOn with
    | _ m ih =>
      intro a w hI
      obtain ⟨e, a₁, w₁, hq, harr⟩ := round m a w hI b (.inLoop c :: k) cs hro hb hr
      cases e with
      | normal =>
        obtain ⟨m', hlt, hI₁⟩ := hq
        obtain ⟨e₂, a₂, w₂, hq₂, harr₂⟩ := ih m' hlt a₁ w₁ hI₁
        exact ⟨e₂, a₂, w₂, hq₂, .of_steps (StepsIn.trans harr (.one FW_all stepR_inLoop)) harr₂⟩
      | exit id => exact ⟨_, a₁, w₁, hq, .pass (x := .inLoop c) rfl (fun _ _ => .inl (by simp)) harr⟩
      | goto l => exact ⟨_, a₁, w₁, hq, .pass (x := .inLoop c) rfl (fun _ _ => .inl (by simp)) harr⟩
      | ret => exact ⟨_, a₁, w₁, hq, .pass (x := .inLoop c) rfl (fun _ _ => .inl (by simp)) harr⟩
      | panic ch => exact ⟨_, a₁, w₁, hq, .pass (x := .inLoop c) rfl (fun _ _ => .inl (by simp)) harr⟩
      | outgrown => exact ⟨_, a₁, w₁, hq, .pass (x := .inLoop c) rfl (fun _ _ => .inl (by simp)) harr⟩
  obtain ⟨e, a', w', hq, harr⟩ := key N a w h₀
  exact ⟨e, a', w', hq, .of_steps (.one FW_all stepR_loop) harr⟩

/-- the next round: what the model says of it gives r -/
def Again {σ γ τ : Type} (again : σ → Option τ) (r : τ) (J : σ → γ → World → Prop) (Es : σ → γ → Env) (n : Nat) (D : List Deferred) (a : Act) (w : World) : Prop :=
  ∃ s g, again s = some r ∧ J s g w ∧ Fits n (Es s g) a ∧ a.defers = D

theorem WC_loop {σ γ τ : Type} {F : (σ → Option τ) → σ → Option τ} {r : τ} (J : σ → γ → World → Prop) (Es : σ → γ → Env) {body : Code}
    {N : Nat} {s0 : σ} (hm : fixN F N s0 = some r) (g0 : γ) (h0 : J s0 g0 w) (hE : subB (Es s0 g0) E)
    (round : ∀ again s g w, F again s = some r → J s g w → WC P ρ body (Exit.then (Again again r J Es n D) Q) n D (Es s g) w) :
    WC P ρ (.loop body) Q n D E w := fun a hf hd =>
  wpR_loop_ghost (fun m => Again (fixN F m) r J Es n D) N ⟨s0, g0, hm, h0, hf.sub hE, hd⟩ fun m a w ⟨s, g, hs, hJ, hF, hD⟩ => by
    obtain ⟨m', rfl, hs'⟩ := fixN_some hs
    exact wpIn_mono (round (fixN F m') s g w hs' hJ a hF hD) fun e a w h => by
      cases e <;> first | exact h | exact ⟨m', Nat.lt_succ_self _, h⟩

theorem At_again {σ γ τ : Type} {again : σ → Option τ} {r : τ} {J : σ → γ → World → Prop} {Es : σ → γ → Env}
    (s : σ) (g : γ) (hm : again s = some r) (hJ : J s g w) (hs : subB (Es s g) E) : At (Exit.then (Again again r J Es n D) Q) .normal n D E w :=
  fun _a hf hd => ⟨s, g, hm, hJ, hf.sub hs, hd⟩

theorem stepR_scope' {b : Frame} {a : Act} {k : List Item} {cs : List Frame} {c : Code} : step P (lone (b.atR a (.code (.scope c) :: k)) cs w) = .next (lone (b.atR a (.code c :: .inScope c :: k)) cs w) :=
  step_lone_go (by simp [stepG, stepG.exec, Frame.atR])
theorem stepR_inScope' {b : Frame} {a : Act} {k : List Item} {cs : List Frame} {c : Code} : step P (lone (b.atR a (.inScope c :: k)) cs w) = .next (lone (b.atR a k) cs w) :=
  step_lone_go (by simp [stepG, stepG.exec, Frame.atR])

/-- a scope with one label that is jumped back to -/
theorem wpR_scope_ghost {c rest : Code} (l : Nat) (J : Nat → Act → World → Prop) {a : Act} {w : World} (hf : findLabel c l = some rest)
    (first : c.wpIn (FW ρ) 0 P (Exit.jump l (fun a w => ∃ m, J m a w) Q) a w)
    (pass : ∀ m a w, J m a w → rest.wpIn (FW ρ) 0 P (Exit.jump l (fun a' w' => ∃ m' < m, J m' a' w') Q) a w) : (Code.scope c).wpIn (FW ρ) 0 P Q a w := by
  intro b k cs hro hb hr
  have hg : gotoIn l (.inScope c :: k) = some (.code rest :: .inScope c :: k) := by simp [gotoIn, hf]
  have hx : ∀ id, exitTo id (.inScope c :: k) = exitTo id k := fun id => by simp [exitTo]
  have out : ∀ {m₁ : Machine} {e : Exit} {a₁ : Act} {w₁ : World}, (∀ l', e ≠ .goto l') → ArrivesIn (Machine.fenced P (FW ρ)) P m₁ b (.inScope c :: k) cs e a₁ w₁ → ArrivesIn (Machine.fenced P (FW ρ)) P m₁ b k cs e a₁ w₁ := by
    intro m₁ e a₁ w₁ hne h
    cases e with
    | normal => exact StepsIn.trans h (.one FW_all stepR_inScope')
    | exit id => exact ⟨fun k' hk => h.1 k' (by rw [hx]; exact hk), fun hr' hk => h.2 hr' (by rw [hx]; exact hk)⟩
    | goto l' => exact absurd rfl (hne l')
    | ret => exact h
    | panic ch => exact h
    | outgrown => exact h
  have key : ∀ m a w, J m a w → ∃ e a' w', Q e a' w' ∧ ArrivesIn (Machine.fenced P (FW ρ)) P (lone (b.atR a (.code rest :: .inScope c :: k)) cs w) b k cs e a' w' := by
    intro m
    induction m using Nat.strongRecOn with
    | _ m ih =>
      intro a w hJ
      obtain ⟨e, a₁, w₁, hq, harr⟩ := pass m a w hJ b (.inScope c :: k) cs hro hb hr
      cases e with
      | normal => exact ⟨.normal, a₁, w₁, hq, out (by simp) harr⟩
      | exit id => exact ⟨.exit id, a₁, w₁, hq, out (by simp) harr⟩
      | goto l' =>
        obtain ⟨rfl, m', hlt, hJ'⟩ := hq
        obtain ⟨e₂, a₂, w₂, hq₂, harr₂⟩ := ih m' hlt a₁ w₁ hJ'
        exact ⟨e₂, a₂, w₂, hq₂, .of_steps (harr.1 _ hg) harr₂⟩
      | ret => exact ⟨_, a₁, w₁, hq, out (by simp) harr⟩
      | panic ch => exact ⟨_, a₁, w₁, hq, out (by simp) harr⟩
      | outgrown => exact ⟨_, a₁, w₁, hq, out (by simp) harr⟩
  obtain ⟨e, a₁, w₁, hq, harr⟩ := first b (.inScope c :: k) cs hro hb hr
  cases e with
  | normal => exact ⟨.normal, a₁, w₁, hq, .of_steps (.one FW_all stepR_scope') (out (e := .normal) (by simp) harr)⟩
  | exit id => exact ⟨.exit id, a₁, w₁, hq, .of_steps (.one FW_all stepR_scope') (out (by simp) harr)⟩
  | goto l' =>
    obtain ⟨rfl, m, hJ'⟩ := hq
    obtain ⟨e₂, a₂, w₂, hq₂, harr₂⟩ := key m a₁ w₁ hJ'
    exact ⟨e₂, a₂, w₂, hq₂, .of_steps (.head FW_all stepR_scope' (harr.1 _ hg)) harr₂⟩
  | ret => exact ⟨_, a₁, w₁, hq, .of_steps (.one FW_all stepR_scope') (out (by simp) harr)⟩
  | panic ch => exact ⟨_, a₁, w₁, hq, .of_steps (.one FW_all stepR_scope') (out (by simp) harr)⟩
  | outgrown => exact ⟨_, a₁, w₁, hq, .of_steps (.one FW_all stepR_scope') (out (by simp) harr)⟩

/-- scope: the code up to the label 'first', the label's rest 'rest' -/
theorem WC_scope {σ γ τ : Type} {F : (σ → Option τ) → σ → Option τ} {r : τ} (J : σ → γ → World → Prop) (Es : σ → γ → Env) {c rest : Code} (l : Nat)
    (hl : findLabel c l = some rest)
    (first : WC P ρ c (Exit.jump l (fun a w => ∃ m, Again (fixN F m) r J Es n D a w) Q) n D E w)
    (pass : ∀ again s g w, F again s = some r → J s g w → WC P ρ rest (Exit.jump l (Again again r J Es n D) Q) n D (Es s g) w) :
    WC P ρ (.scope c) Q n D E w := fun a hf hd =>
  wpR_scope_ghost l (fun m => Again (fixN F m) r J Es n D) hl (first a hf hd) fun m a w ⟨s, g, hs, hJ, hF, hD⟩ => by
    obtain ⟨m', rfl, hs'⟩ := fixN_some hs
    exact wpIn_mono (pass (fixN F m') s g w hs' hJ a hF hD) fun e a w h => by
      cases e <;> first | exact h | exact ⟨h.1, m', Nat.lt_succ_self _, h.2⟩

theorem At_jump {σ γ τ : Type} {again : σ → Option τ} {r : τ} {J : σ → γ → World → Prop} {Es : σ → γ → Env} {l : Nat}
    (s : σ) (g : γ) (hm : again s = some r) (hJ : J s g w) (hs : subB (Es s g) E) :
    At (Exit.jump l (Again again r J Es n D) Q) (.goto l) n D E w :=
  fun _a hf hd => ⟨rfl, s, g, hm, hJ, hf.sub hs, hd⟩
theorem At_jump_first {σ γ τ : Type} {F : (σ → Option τ) → σ → Option τ} {again : σ → Option τ} {r : τ} {J : σ → γ → World → Prop} {Es : σ → γ → Env} {m l : Nat} (hag : again = fixN F m)
    (s : σ) (g : γ) (hm : again s = some r) (hJ : J s g w) (hs : subB (Es s g) E) :
    At (Exit.jump l (fun a w => ∃ m, Again (fixN F m) r J Es n D a w) Q) (.goto l) n D E w :=
  fun _a hf hd => ⟨rfl, m, s, g, hag ▸ hm, hJ, hf.sub hs, hd⟩
theorem At_jmp_ret {l : Nat} {K : Act → World → Prop} (h : At Q .ret n D E w) : At (Exit.jump l K Q) .ret n D E w := h
theorem At_jmp_normal {l : Nat} {K : Act → World → Prop} (h : At Q .normal n D E w) : At (Exit.jump l K Q) .normal n D E w := h
theorem At_jmp_exit {l i : Nat} {K : Act → World → Prop} (h : At Q (.exit i) n D E w) : At (Exit.jump l K Q) (.exit i) n D E w := h
theorem At_jmp_panic {l : Nat} {i : List PanicEntry} {K : Act → World → Prop} (h : At Q (.panic i) n D E w) : At (Exit.jump l K Q) (.panic i) n D E w := h
/-- the state is taken for one of a fixpoint's -/
theorem At_gen {σ γ τ : Type} {F : (σ → Option τ) → σ → Option τ} {r : τ} {N : Nat} {s0 : σ} {e : Exit} (J : σ → γ → World → Prop) (Es : σ → γ → Env)
    (hm : fixN F N s0 = some r) (g0 : γ) (h0 : J s0 g0 w) (hE : subB (Es s0 g0) E)
    (h : ∀ m again, again = fixN F m → ∀ s g w, F again s = some r → J s g w → At Q e n D (Es s g) w) : At Q e n D E w := by
  obtain ⟨m, rfl, hm⟩ := fixN_some hm
  exact (h m _ rfl s0 g0 w hm h0).sub _ hE
end

/-! ### calls -/

/-- what is asked of a call's end: S of what it returns, Sp of what it panics with -/
def RE (S : Value → World → Prop) (Sp : List PanicEntry → World → Prop) : Ending → World → Prop
  | .returned v, w => S v w
  | .panicked c, w => Sp c w
  | .outgrown, _ => False
def CallsX (P : Program) (f : FuncId) (args : List Value) (w : World) (S : Value → World → Prop) (Sp : List PanicEntry → World → Prop) : Prop :=
  Calls P f args.toArray w (RE S Sp)
/-- the call returns a value of which S holds in the world that is left -/
abbrev CallsR (P : Program) (f : FuncId) (args : List Value) (w : World) (S : Value → World → Prop) : Prop := CallsX P f args w S (fun _ _ => False)

theorem CallsX.mono {P : Program} {f : FuncId} {args : List Value} {w : World} {S S' : Value → World → Prop} {Sp Sp' : List PanicEntry → World → Prop} (h : CallsX P f args w S Sp)
    (hs : ∀ v w', S v w' → S' v w') (hp : ∀ v w', Sp v w' → Sp' v w') : CallsX P f args w S' Sp' :=
  Calls.mono h fun e w' he => by
    cases e with
    | returned v => exact hs _ _ he
    | panicked c => exact hp _ _ he
    | outgrown => exact he
theorem CallsR.mono {P : Program} {f : FuncId} {args : List Value} {w : World} {S S' : Value → World → Prop} (h : CallsR P f args w S)
    (hs : ∀ v w', S v w' → S' v w') : CallsR P f args w S' := CallsX.mono h hs (fun _ _ h => h)

def iota : Nat → List Value → Env
  | _, [] => []
  | k, v :: vs => (k, true, v) :: iota (k + 1) vs

theorem look_iota : ∀ (vs : List Value) (k t : Nat) (g : Bool) (v : Value), look (iota k vs) t = some (g, v) → ∃ j, t = k + j ∧ vs[j]? = some v ∧ g = true
  | [], _, _, _, _, h => by cases h
  | u :: vs, k, t, g, v, h => by
    simp only [iota, look] at h
    cases hb : Nat.beq k t with
    | true =>
      rw [hb, cond_true] at h
      have := Nat.eq_of_beq_eq_true hb
      subst this
      cases h
      exact ⟨0, rfl, rfl, rfl⟩
    | false =>
      rw [hb, cond_false] at h
      obtain ⟨j, hj, hv, hg⟩ := look_iota vs (k + 1) t g v h
      exact ⟨j + 1, by omega, by simpa using hv, hg⟩

/-- what a body must come to -/
abbrev BP (P : Program) (fn : Func) (S : Value → World → Prop) (Sp : List PanicEntry → World → Prop) : Post := bodyPostM (FW none) 0 P fn (RE S Sp)
theorem CallsX_enter {P : Program} {f : FuncId} {fn : Func} {c : Code} {vs : List Value} {w : World} {n : Nat} {S : Value → World → Prop} {Sp : List PanicEntry → World → Prop}
    (hf : P.funcs[f]? = some fn) (hb : fn.body = some c) (hn : fn.ntmps = n) (hl : Nat.ble vs.length n = true)
    (h : WC P none c (BP P fn S Sp) n [] (iota 0 vs) w) : CallsX P f vs w S Sp := by
  refine calls_of_FW (ρ := none) (callsIn_of_wp_marks hf hb trivial (h _ ⟨?_, fun t g v ht => ?_⟩ rfl))
  · have : vs.length ≤ n := by simpa using hl
    simp [hn]; omega
  · obtain ⟨j, rfl, hv, rfl⟩ := look_iota vs 0 t g v ht
    have hj : j < vs.length := by
      rcases Nat.lt_or_ge j vs.length with h | h
      · exact h
      · rw [List.getElem?_eq_none h] at hv; cases hv
    simp only [gval, cond_true, Nat.zero_add, Array.getD_eq_getD_getElem?]
    rw [Array.getElem?_append_left (by simpa using hj)]
    simp [hv]

/-! ### operations -/

/-- the operation, where g holds, yields v and leaves the world as it is -/
def Run (P : Program) (E : Env) (g : Bool) (o : Oper) (w : World) (v : Value) : Prop :=
  ∀ n a, Fits n E a → g = true → (execOp a.eval o).run P w = .ok (.value v) w
theorem Run.eqB {P : Program} {E : Env} {g : Bool} {o : Oper} {w : World} {x y : Bool} (h : Run P E g o w (.bool x)) (e : x = y) : Run P E g o w (.bool y) := e ▸ h
theorem Run.eqI {P : Program} {E : Env} {g : Bool} {o : Oper} {w : World} {k : IntKind} {x y : Int} (h : Run P E g o w (.int k x)) (e : x = y) : Run P E g o w (.int k y) := e ▸ h

section
variable {P : Program} {ρ : Option Nat} {Q : Post} {n : Nat} {D : List Deferred} {E : Env} {w : World} {ops : Array Oper} {rest : List Oper}

theorem WL_nil (h : At Q .normal n D E w) : WL P ρ ops Q n D [] E w := fun a hf hd => wpListIn_nil (h a hf hd)
theorem WL_nil_sub (E' : Env) (hs : subB E' E) (h : At Q .normal n D E' w) : WL P ρ ops Q n D [] E w := fun a hf hd => wpListIn_nil (h a (hf.sub hs) hd)

/-- no 'defer' -/
def plainO (o : Oper) : Bool := match o.op with
  | .defer _ => false
  | _ => true
theorem plainO_sem {o : Oper} (h : plainO o = true) (ev : Operand → Value) : o.semAt ρ ev = execOp ev o := by
  cases ρ with
  | none => rfl
  | some l => exact Oper.semAt_some l ev o (fun c e => by simp [plainO, e] at h)
theorem wpIn_of {o : Oper} (hp : plainO o = true) {a : Act} {next : Act → World → Prop} (h : o.uponIn (FW ρ) 0 P a next Q ((execOp a.eval o).run P w)) : o.wpIn (FW ρ) 0 P a w next Q :=
  ⟨fun _ _ => trivial, by rw [show (FW ρ).round = ρ from rfl, plainO_sem hp]; exact h⟩

theorem WL_op {o : Oper} {d : Tmp} {v : Value} (hr : Run P E true o w v) (hp : plainO o = true) (hg : o.guard = none) (hd : o.dst = some d) (hn : Nat.blt d n = true)
    (h : WL P ρ ops Q n D rest ((d, true, v) :: E) w) : WL P ρ ops Q n D (o :: rest) E w := fun a hf hD =>
  wpListIn_plain hg fun K hK => wpIn_of hp (by
    rw [hr n a hf rfl, Oper.uponIn_value, hd]
    exact hK _ _ (h _ (hf.put hn) hD))

/-- is the operation wanted, and what its guard's operation yielded -/
theorem wanted_of {o : Oper} {j : Nat} {pol : Bool} {rj : Tmp} {gj bj : Bool} {a : Act} (hg : o.guard = some (j, pol)) (hj : (ops[j]?).bind (·.dst) = some rj)
    (hl : look E rj = some (gj, .bool bj)) (hf : Fits n E a) (hn : Nat.blt rj n = true) : Region.wanted o (yielded ops a.tmps) = (gj && (bj == pol)) := by
  have hsz : rj < a.tmps.size := by rw [hf.size]; simpa using hn
  have h2 := hf.at_ rj gj _ hl
  have h3 : a.tmps[rj]? = some (gval gj (.bool bj)) := by
    rw [Array.getElem?_eq_getElem hsz, ← h2]; simp [Array.getD, hsz]
  simp only [Region.wanted, hg, yielded, hj, Option.bind_some, h3]
  cases gj
  · simp [gval, undef]
  · cases bj <;> cases pol <;> rfl

theorem WL_opG {o : Oper} {d : Tmp} {v : Value} {j : Nat} {pol : Bool} {rj : Tmp} {gj bj : Bool} {g : Bool} (hgd : o.guard = some (j, pol)) (hj : (ops[j]?).bind (·.dst) = some rj)
    (hl : look E rj = some (gj, .bool bj)) (hnj : Nat.blt rj n = true) (hG : (gj && (bj == pol)) = g)
    (hr : Run P E g o w v) (hp : plainO o = true) (hd : o.dst = some d) (hn : Nat.blt d n = true)
    (h : WL P ρ ops Q n D rest ((d, g, v) :: E) w) : WL P ρ ops Q n D (o :: rest) E w := fun a hf hD =>
  wpListIn_step fun K hK => by
    rw [wanted_of hgd hj hl hf hnj, hG]
    cases g
    · simp only [Bool.false_eq_true, if_false]
      have := hf.put (g := false) (v := v) hn
      rw [hd]
      exact ⟨fun _ _ => trivial, hK _ _ (h _ this hD)⟩
    · simp only [if_true]
      refine wpIn_of hp ?_
      rw [hr n a hf rfl, Oper.uponIn_value, hd]
      exact hK _ _ (h _ (hf.put hn) hD)

theorem guard_pos {b : Bool} : (true && (b == true)) = b := by cases b <;> rfl
theorem guard_neg {b : Bool} : (true && (b == false)) = !b := by cases b <;> rfl
theorem guard_pos' {g b : Bool} : (g && (b == true)) = (g && b) := by cases b <;> rfl
theorem guard_neg' {g b : Bool} : (g && (b == false)) = (g && !b) := by cases b <;> rfl
end
end Go.Proofs.Ytjappdgehmjomaa
