/-
  Own texts for the statement StepTells, cut down to what it needs: K13, K14, K15, KEx, KIt, Model, KLay, KSh, Types, Walk1, Walk2. (cut and joined by a program)
-/
import Derived.Test.YtjdabjpjafkogaaDoorStepTellsA
import Derived.Lib.AppendStr
import Derived.Lib.UnsafeStr
import Derived.Lib.Builder
import Derived.Laws.Externs
import Derived.Lib.ItoaNum
import Derived.Shelf.Strconv.Itoa3
import Derived.Ground.NamesProg
import Derived.Test.YtjdabjpjafkogaaDoorProg
namespace Go.Proofs.YtjdabjpjafkogaaDoor
def objI (b : Nat) (o : Obj) : Item where
 own := [b]
 P _ w := w.heap[b]? = some o
 lt h c hc := by
  have : c = b := by simpa using hc
  subst this; exact (Array.getElem?_eq_some_iff.1 h).1
 keep h _ k _ := (k b (by simp)).trans h
 pers := false
 hp h := by cases h
def pack {γ : Type} (Γ : γ → Ctx) (R : List Nat) : Item where
 own := R
 P M w := (∀ b ∈ R, b < w.heap.size) ∧ ∃ g, (∀ b, (Γ g).M b ↔ b ∈ R) ∧ (∀ it, it ∈ Γ g → it.P M w) ∧
  (∀ (i j : Nat) (it jt : Item), (Γ g)[i]? = some it → (Γ g)[j]? = some jt → i ≠ j → ∀ b, b ∈ it.own → b ∉ jt.own)
 lt h := h.1
 keep {M M' w w'} h m k e := by
  obtain ⟨h1, g, h2, h3, h4⟩ := h
  exact ⟨fun b hb => Nat.lt_of_lt_of_le (h1 b hb) m.1, g, h2, fun it hi => it.keep (h3 it hi) m (fun b hb => k b ((h2 b).1 ⟨it, hi, hb⟩)) e, h4⟩
 pers := false
 hp h := by cases h
theorem Ctx.M_append {Γ Δ : Ctx} {b : Nat} : Ctx.M (Γ ++ Δ) b ↔ Γ.M b ∨ Δ.M b := by
 constructor
 ·rintro ⟨it, hi, hb⟩
  rcases List.mem_append.1 hi with h | h
  ·exact .inl ⟨it, h, hb⟩
  ·exact .inr ⟨it, h, hb⟩
 ·rintro (⟨it, hi, hb⟩ | ⟨it, hi, hb⟩)
  ·exact ⟨it, List.mem_append_left _ hi, hb⟩
  ·exact ⟨it, List.mem_append_right _ hi, hb⟩
theorem getElem?_app_l {α : Type} {l m : List α} {i : Nat} {x : α} (h : l[i]? = some x) : (l ++ m)[i]? = some x := by
 rw [List.getElem?_append_left (List.getElem?_eq_some_iff.1 h).1]; exact h
theorem getElem?_app_r {α : Type} {l m : List α} {i : Nat} : (l ++ m)[l.length + i]? = m[i]? := by
 rw [List.getElem?_append_right (Nat.le_add_right _ _)]; congr 1; omega
theorem getElem?_app {α : Type} {l m : List α} {i : Nat} {x : α} (h : (l ++ m)[i]? = some x) : l[i]? = some x ∧ i < l.length ∨ ∃ j, i = l.length + j ∧ m[j]? = some x := by
 rcases Nat.lt_or_ge i l.length with hi | hi
 ·rw [List.getElem?_append_left hi] at h; exact .inl ⟨h, hi⟩
 ·rw [List.getElem?_append_right hi] at h; exact .inr ⟨i - l.length, by omega, h⟩
theorem Sat.pack {γ : Type} (Γ : γ → Ctx) (g : γ) (Δ : Ctx) {w : World} (h : Sat (Γ g ++ Δ) w) : ∃ R, Sat (Go.Proofs.YtjdabjpjafkogaaDoor.pack Γ R :: Δ) w := by
 have hR : ∀ b, (Γ g).M b ↔ b ∈ (Γ g).flatMap Item.own := fun b => by
  simp only [List.mem_flatMap]; exact Iff.rfl
 refine ⟨(Γ g).flatMap Item.own, ?_⟩
 generalize hRe : (Γ g).flatMap Item.own = R at hR
 have hM : ∀ b, Ctx.M (Go.Proofs.YtjdabjpjafkogaaDoor.pack Γ R :: Δ) b ↔ Ctx.M (Γ g ++ Δ) b := fun b => by
  rw [Ctx.M_cons, Ctx.M_append, hR]; exact Iff.rfl
 have mv : Mv (Ctx.M (Γ g ++ Δ)) w (Ctx.M (Go.Proofs.YtjdabjpjafkogaaDoor.pack Γ R :: Δ)) w := Mv.weaken w (fun b hb => (hM b).1 hb)
 have cross : ∀ (b : Nat) (j : Nat) (jt : Item), b ∈ R → Δ[j]? = some jt → b ∉ jt.own := fun b j jt hb hj hb' => by
  obtain ⟨it, hi, hbi⟩ := (hR b).2 hb
  obtain ⟨i, hi⟩ := List.mem_iff_getElem?.1 hi
  have hlt := (List.getElem?_eq_some_iff.1 hi).1
  exact h.sep i ((Γ g).length + j) it jt (getElem?_app_l hi) (getElem?_app_r.trans hj) (by omega) b hbi hb'
 refine ⟨fun it hi => ?_, fun i j it jt hi hj hij b hb hb' => ?_⟩
 ·rcases List.mem_cons.1 hi with rfl | hi
  ·exact ⟨fun b hb => h.lt (Ctx.M_append.2 (.inl ((hR b).2 hb))), g, hR, fun it hi => it.keep (h.all it (List.mem_append_left _ hi)) mv (fun _ _ => rfl) (SameEnv.refl w),
    fun i j it jt hi hj => h.sep i j it jt (getElem?_app_l hi) (getElem?_app_l hj)⟩
  ·exact it.keep (h.all it (List.mem_append_right _ hi)) mv (fun _ _ => rfl) (SameEnv.refl w)
 ·cases i with
  | zero =>
   simp only [List.getElem?_cons_zero, Option.some.injEq] at hi
   subst hi
   cases j with
   | zero => exact hij rfl
   | succ j => simp only [List.getElem?_cons_succ] at hj; exact cross b j jt hb hj hb'
  | succ i =>
   simp only [List.getElem?_cons_succ] at hi
   cases j with
   | zero =>
    simp only [List.getElem?_cons_zero, Option.some.injEq] at hj
    subst hj
    exact cross b i it hb' hi hb
   | succ j =>
    simp only [List.getElem?_cons_succ] at hj
    exact h.sep ((Γ g).length + i) ((Γ g).length + j) it jt (getElem?_app_r.trans hi) (getElem?_app_r.trans hj) (by omega) b hb hb'
theorem Sat.unpack {γ : Type} {Γ : γ → Ctx} {R : List Nat} {Δ : Ctx} {w : World} (h : Sat (Go.Proofs.YtjdabjpjafkogaaDoor.pack Γ R :: Δ) w) : ∃ g, Sat (Γ g ++ Δ) w := by
 obtain ⟨h1, g, h2, h3, h4⟩ := h.all _ (List.mem_cons_self ..)
 have hM : ∀ b, Ctx.M (Go.Proofs.YtjdabjpjafkogaaDoor.pack Γ R :: Δ) b ↔ Ctx.M (Γ g ++ Δ) b := fun b => by
  rw [Ctx.M_cons, Ctx.M_append, h2]; exact Iff.rfl
 have mv : Mv (Ctx.M (Go.Proofs.YtjdabjpjafkogaaDoor.pack Γ R :: Δ)) w (Ctx.M (Γ g ++ Δ)) w := Mv.weaken w (fun b hb => (hM b).2 hb)
 have cross : ∀ (i j : Nat) (it jt : Item) (b : Nat), (Γ g)[i]? = some it → Δ[j]? = some jt → b ∈ it.own → b ∉ jt.own := fun i j it jt b hi hj hb =>
  h.sep 0 (j + 1) _ jt rfl (by simpa using hj) (by omega) b ((h2 b).1 (Ctx.mem_M hi hb))
 refine ⟨g, fun it hi => ?_, fun i j it jt hi hj hij b hb hb' => ?_⟩
 ·rcases List.mem_append.1 hi with hi | hi
  ·exact it.keep (h3 it hi) mv (fun _ _ => rfl) (SameEnv.refl w)
  ·exact it.keep (h.all it (List.mem_cons_of_mem _ hi)) mv (fun _ _ => rfl) (SameEnv.refl w)
 ·rcases getElem?_app hi with ⟨hi2, _⟩ | ⟨i', ei, hi2⟩ <;> rcases getElem?_app hj with ⟨hj2, _⟩ | ⟨j', ej, hj2⟩
  ·exact h4 i j it jt hi2 hj2 hij b hb hb'
  ·exact cross i j' it jt b hi2 hj2 hb hb'
  ·exact cross j i' jt it b hj2 hi2 hb' hb
  ·exact h.sep (i' + 1) (j' + 1) it jt (by simpa using hi2) (by simpa using hj2) (by omega) b hb hb'
/-! ### the loop's record -/
structure Rec (n : Nat) (E : Env) (ps : Array Tmp) (assign body : Code) (b : Nat) (r : LoopState → Option Code → Loop) : Prop where
 ex : ∃ fn tmps, Fits n E { tmps := tmps, defers := [] } ∧ r = fun st pe => { state := st, pending := pe, fn, tmps, params := ps, assign, body, defers := b }
def stOf (c : Nat) : LoopState := match c with
 | 0 => .ready
 | _ + 1 => .done
def jmpOf (js : List Code) (c : Nat) : Option Code := match c with
 | 0 => none
 | c + 1 => js[c]?
abbrev loopI (l : Nat) (r : LoopState → Option Code → Loop) (st : LoopState) (pe : Option Code) : Item := objI l (.loop (r st pe))
def mk (ds : List Nat) : List Deferred := ds.map fun b => { target := .collected b, args := #[] }
def dfrs (ds : List Nat) : Item where
 own := ds
 P _ w := ds.Nodup ∧ ∀ b ∈ ds, w.heap[b]? = some (.deferred (some []))
 lt h b hb := (Array.getElem?_eq_some_iff.1 (h.2 b hb)).1
 keep h _ k _ := ⟨h.1, fun b hb => (k b hb).trans (h.2 b hb)⟩
 pers := false
 hp h := by cases h
section
variable {P : Program} {n : Nat} {D : List Deferred} {E : Env} {w : World} {Γ : Ctx} {Q : Post}
theorem Sat.addDfrs (hs : Sat Γ w) : Sat (dfrs [] :: Γ) w := hs.push (Ext.refl w) (fun b hb => by cases hb) (fun _ _ => ⟨List.nodup_nil, fun b hb => by cases hb⟩)
theorem Sat.dfr {b : Nat} {ds : List Nat} (hs : Sat (objI b (.deferred (some [])) :: dfrs ds :: Γ) w) : Sat (dfrs (b :: ds) :: Γ) w := by
 have h1 : w.heap[b]? = some (.deferred (some [])) := hs.at_ (i := 0) rfl
 have h2 : ds.Nodup ∧ ∀ b ∈ ds, w.heap[b]? = some (.deferred (some [])) := hs.at_ (i := 1) rfl
 have h3 : b ∉ ds := hs.sep 0 1 _ _ rfl rfl (by omega) b (by simp [objI])
 have hM : ∀ c, Ctx.M (objI b (.deferred (some [])) :: dfrs ds :: Γ) c ↔ Ctx.M (dfrs (b :: ds) :: Γ) c := fun c => by
  simp only [Ctx.M_cons, objI, dfrs, List.mem_cons, List.not_mem_nil, or_false]
  constructor
  ·rintro (h | h | h)
   ·exact .inl (.inl h)
   ·exact .inl (.inr h)
   ·exact .inr h
  ·rintro ((h | h) | h)
   ·exact .inl h
   ·exact .inr (.inl h)
   ·exact .inr (.inr h)
 have mv : Mv (Ctx.M (objI b (.deferred (some [])) :: dfrs ds :: Γ)) w (Ctx.M (dfrs (b :: ds) :: Γ)) w := Mv.weaken w (fun c hc => (hM c).2 hc)
 have cross : ∀ (j : Nat) (jt : Item) (c : Nat), Γ[j]? = some jt → c ∈ b :: ds → c ∉ jt.own := fun j jt c hj hc => by
  rcases List.mem_cons.1 hc with rfl | hc
  ·exact hs.sep 0 (j + 2) _ jt rfl (by simpa using hj) (by omega) c (by simp [objI])
  ·exact hs.sep 1 (j + 2) _ jt rfl (by simpa using hj) (by omega) c hc
 refine ⟨fun it hi => ?_, fun i j it jt hi hj hij c hc hc' => ?_⟩
 ·rcases List.mem_cons.1 hi with rfl | hi
  ·refine ⟨List.nodup_cons.2 ⟨h3, h2.1⟩, fun c hc => ?_⟩
   rcases List.mem_cons.1 hc with rfl | hc
   ·exact h1
   ·exact h2.2 c hc
  ·exact it.keep (hs.all it (List.mem_cons_of_mem _ (List.mem_cons_of_mem _ hi))) mv (fun _ _ => rfl) (SameEnv.refl w)
 ·cases i with
  | zero =>
   simp only [List.getElem?_cons_zero, Option.some.injEq] at hi
   subst hi
   cases j with
   | zero => exact hij rfl
   | succ j => simp only [List.getElem?_cons_succ] at hj; exact cross j jt c hj hc hc'
  | succ i =>
   simp only [List.getElem?_cons_succ] at hi
   cases j with
   | zero =>
    simp only [List.getElem?_cons_zero, Option.some.injEq] at hj
    subst hj
    exact cross i it c hi hc' hc
   | succ j =>
    simp only [List.getElem?_cons_succ] at hj
    exact hs.sep (i + 2) (j + 2) it jt (by simpa using hi) (by simpa using hj) (by omega) c hc hc'
theorem Sat.putObj {i b : Nat} {o o' : Obj} (hs : Sat Γ w) (hi : Γ[i]? = some (objI b o)) : Sat (Γ.set i (objI b o')) (w.putObj b o') := by
 have hb : w.heap[b]? = some o := hs.at_ hi
 have hlt := (Array.getElem?_eq_some_iff.1 hb).1
 have hb' : (w.putObj b o').heap[b]? = some o' := World.putObj_heap_same hlt
 refine hs.upd hi ⟨rfl, rfl, rfl, by simp, fun c _ hcb => World.putObj_heap_other (by simpa [objI] using hcb)⟩ (fun c hc => ?_) (fun _ _ _ => hb')
 have : c = b := by simpa [objI] using hc
 subst this
 exact ⟨by simpa using hlt, .inl (by simp [objI])⟩
def LoopEnd (P : Program) (ρ : Option Nat) (l n : Nat) (D : List Deferred) (Q : Post) (E : Env) (_v : Value) (w : World) : Prop :=
 ∃ j w', (Instr.endLoop l).run P w = .ok j w' ∧ match j with
  | none => At Q .normal n D E w'
  | some c => WC P ρ c Q n D E w'
theorem LoopEnd.go {l b : Nat} {r : LoopState → Option Code → Loop} {ps : Array Tmp} {assign body : Code} {v : Value} {E' : Env} (hr : Rec n E' ps assign body b r) (hs : Sat (loopI l r .ready none :: Γ) w)
  (h : ∀ w', Sat Γ w' → At Q .normal n D E w') : LoopEnd P none l n D Q E v w := by
 obtain ⟨fn, tmps, _, rfl⟩ := hr.ex
 have h0 : w.heap[l]? = some _ := hs.at_ (i := 0) rfl
 refine ⟨_, _, run_endLoop h0 (by simp), ?_⟩
 refine h _ ((hs.putObj (i := 0) rfl).re 1 [] rfl)
theorem LoopEnd.jump {l b : Nat} {r : LoopState → Option Code → Loop} {ps : Array Tmp} {assign body : Code} {v : Value} {E' : Env} {c : Code} (hr : Rec n E' ps assign body b r) (hs : Sat (loopI l r .done (some c) :: Γ) w)
  (h : ∀ w', Sat Γ w' → WC P none c Q n D E w') : LoopEnd P none l n D Q E v w := by
 obtain ⟨fn, tmps, _, rfl⟩ := hr.ex
 have h0 : w.heap[l]? = some _ := hs.at_ (i := 0) rfl
 refine ⟨_, _, run_endLoop h0 (by simp), ?_⟩
 exact h _ ((hs.putObj (i := 0) rfl).re 1 [] rfl)
theorem WC_rangeFunc {g : Operand} {ps : Array Tmp} {assign body : Code} {f : FuncId} {first cap : List Value} (ds : List Nat)
  (he : Enters P f) (hg : Opd E true g (.func (.func f) first.toArray cap.toArray)) (hs : Sat (dfrs ds :: Γ) w)
  (h : ∀ (l b : Nat) (r : LoopState → Option Code → Loop) w1, Rec n E ps assign body b r → Sat (loopI l r .ready none :: dfrs (b :: ds) :: Γ) w1 →
   CallsR P f (first ++ [Value.func (.yield l) #[] #[]] ++ cap) w1 (LoopEnd P none l n (mk (b :: ds)) Q E)) :
  WC P none (.rangeFunc g ps assign body) Q n (mk ds) E w := fun a hf hd => by
 refine wpIn_rangeFunc fun fn hfn => ?_
 obtain ⟨r, hr⟩ : ∃ r : LoopState → Option Code → Loop, r = fun st pe => { state := st, pending := pe, fn, tmps := a.tmps, params := ps, assign, body, defers := w.heap.size } := ⟨_, rfl⟩
 obtain ⟨W1, hW1⟩ : ∃ W1, (w.alloc (.deferred (some []))).alloc (.loop (r .ready none)) = W1 := ⟨_, rfl⟩
 have hs1 : Sat (objI w.heap.size (.deferred (some [])) :: dfrs ds :: Γ) (w.alloc (.deferred (some []))) := hs.push (ext_alloc _ _) (fun b hb => by
  have : b = w.heap.size := by simpa [objI] using hb
  subst this; simp) (fun _ _ => World.alloc_heap_new w _)
 have hs2 : Sat (loopI (w.heap.size + 1) r .ready none :: dfrs (w.heap.size :: ds) :: Γ) W1 := by
  rw [← hW1]
  have := hs1.dfr.push (new := loopI (w.alloc (.deferred (some []))).heap.size r .ready none) (ext_alloc _ _) (fun b hb => by
   have : b = (w.alloc (.deferred (some []))).heap.size := by simpa [objI] using hb
   subst this; simp) (fun _ _ => World.alloc_heap_new (w.alloc (.deferred (some []))) (.loop (r .ready none)))
  rwa [World.size_alloc] at this
 have hrec : Rec n E ps assign body w.heap.size r := ⟨fn, a.tmps, ⟨hf.size, hf.at_⟩, hr⟩
 have hev : a.eval g = Value.func (.func f) first.toArray cap.toArray := hg n a hf rfl
 refine ⟨w.heap.size + 1, [{ target := .collected w.heap.size, args := #[] }], W1, { target := .fn (.func f) cap.toArray, args := first.toArray ++ #[Value.func (.yield (w.heap.size + 1)) #[] #[]] }, W1, f,
  (first ++ [Value.func (.yield (w.heap.size + 1)) #[] #[]] ++ cap).toArray, W1, ?_, ?_, fun _ _ => trivial, ?_, FW_depth, ?_⟩
 ·rw [← hW1, hr]; exact run_enterLoop_outer _ _ _ _ _
 ·simp only [resolve, hev, Deferred.ofValue]
  simp [Act.eval]
 ·have := he (first ++ [Value.func (.yield (w.heap.size + 1)) #[] #[]] ++ cap).toArray W1
  simp only [invoke]
  simpa using this
 ·refine callsIn_FW (Calls.mono (h (w.heap.size + 1) w.heap.size r W1 hrec hs2) fun e w' he => ?_)
  cases e with
  | returned v =>
   obtain ⟨j, w'', h1, h2⟩ := he
   refine ⟨j, w'', h1, ?_⟩
   have hf' : Fits n E { a with defers := [{ target := .collected w.heap.size, args := #[] }] ++ a.defers } := ⟨hf.size, hf.at_⟩
   cases j with
   | none => exact h2 _ hf' (by simp [hd, mk])
   | some c => exact h2 _ hf' (by simp [hd, mk])
  | panicked c => exact he.elim
  | outgrown => exact he.elim
/-! ### a round -/
def Yld (P : Program) (l : Nat) (vs : List Value) (w : World) (S : Value → World → Prop) : Prop :=
 ∃ fn tmps assign body, (Instr.yield l vs.toArray).run P w = .ok (.round l fn tmps assign body) w ∧ RoundIn (FW none) 0 P l fn tmps assign body w (RE S (fun _ _ => False))
theorem Yld.mono {l : Nat} {vs : List Value} {S S' : Value → World → Prop} (h : Yld P l vs w S) (hs : ∀ v w', S v w' → S' v w') : Yld P l vs w S' := by
 obtain ⟨fn, tmps, assign, body, h1, h2⟩ := h
 refine ⟨fn, tmps, assign, body, h1, h2.mono fun e w' he => ?_⟩
 cases e with
 | returned v => exact hs _ _ he
 | panicked c => exact he
 | outgrown => exact he
def zipE : List Tmp → List Value → Env → Env
 | p :: ps, v :: vs, E => zipE ps vs ((p, true, v) :: E)
 | _, _, E => E
theorem fits_zip : ∀ (ps : List Tmp) (vs : List Value) {E : Env} {tmps : Array Value}, ps.all (fun p => Nat.blt p n) = true → Fits n E { tmps := tmps, defers := [] } →
  Fits n (zipE ps vs E) { tmps := (ps.zip vs).foldl (fun t (p, v) => t.setIfInBounds p v) tmps, defers := [] }
 | [], _, _, _, _, h => h
 | _ :: _, [], _, _, _, h => h
 | p :: ps, v :: vs, E, tmps, hp, h => by
  simp only [List.all_cons, Bool.and_eq_true] at hp
  have := h.put (g := true) (v := v) hp.1
  exact fits_zip ps vs hp.2 this
def RoundK (P : Program) (l : Nat) (body : Code) (Q : Post) : Act → World → Prop := fun a w => ∃ w', (Instr.beginRound l).run P w = .ok () w' ∧ body.wpIn (FW (some l)) 0 P Q a w'
theorem Yld_of {l b : Nat} {r : LoopState → Option Code → Loop} {ps : List Tmp} {assign body : Code} {vs : List Value} {S : Value → World → Prop}
  (hr : Rec n E ps.toArray assign body b r) (hs : Sat (loopI l r .ready none :: Γ) w) (hl : Nat.beq vs.length ps.length = true) (hp : ps.all (fun p => Nat.blt p n) = true)
  (h : WC P (some l) assign (Exit.then (RoundK P l body (roundPost P l (RE S (fun _ _ => False)))) (fun _ _ _ => False)) n [] (zipE ps vs E) w) : Yld P l vs w S := by
 obtain ⟨fn, tmps, hf, rfl⟩ := hr.ex
 have h0 : w.heap[l]? = some _ := hs.at_ (i := 0) rfl
 have hl' : vs.length = ps.length := Nat.eq_of_beq_eq_true hl
 refine ⟨fn, _, assign, body, run_yield h0 (by simp [hl']), roundIn_of_wpIn trivial ?_⟩
 have hz := fits_zip ps vs hp hf
 have e : ((ps.toArray.zip vs.toArray).foldl (fun tmps (t, a) => tmps.setIfInBounds t a) tmps) = ((ps.zip vs).foldl (fun t (p, v) => t.setIfInBounds p v) tmps) := by
  simp
 have := h _ hz rfl
 rw [← e] at this
 exact this
theorem At_begin {l b i : Nat} {r : LoopState → Option Code → Loop} {ps : Array Tmp} {assign body : Code} {E' : Env} (hr : Rec n E' ps assign body b r) (hs : Sat Γ w) (hi : Γ[i]? = some (loopI l r .ready none))
  (h : ∀ w', Sat (Γ.set i (loopI l r .busy none)) w' → WC P (some l) body Q n D E w') : At (Exit.then (RoundK P l body Q) (fun _ _ _ => False)) .normal n D E w := fun a hf hd => by
 obtain ⟨fn, tmps, _, rfl⟩ := hr.ex
 have h0 : w.heap[l]? = some _ := hs.at_ hi
 exact ⟨_, run_beginRound h0 rfl, h _ (hs.putObj hi) a hf hd⟩
theorem At_round {l b i : Nat} {r : LoopState → Option Code → Loop} {ps : Array Tmp} {assign body : Code} {E' : Env} {S : Value → World → Prop} {Sp : List PanicEntry → World → Prop} (hr : Rec n E' ps assign body b r) (hs : Sat Γ w) (hi : Γ[i]? = some (loopI l r .busy none))
  (h : ∀ w', Sat (Γ.set i (loopI l r .ready none)) w' → S (.bool true) w') : At (roundPost P l (RE S Sp)) .normal n D E w := fun a hf hd => by
 obtain ⟨fn, tmps, _, rfl⟩ := hr.ex
 have h0 : w.heap[l]? = some _ := hs.at_ hi
 exact ⟨_, _, run_endRound none h0, h _ (hs.putObj hi)⟩
theorem At_round_ret {l b i : Nat} {r : LoopState → Option Code → Loop} {ps : Array Tmp} {assign body : Code} {E' : Env} {S : Value → World → Prop} {Sp : List PanicEntry → World → Prop} (hr : Rec n E' ps assign body b r) (hs : Sat Γ w) (hi : Γ[i]? = some (loopI l r .busy none))
  (h : ∀ w', Sat (Γ.set i (loopI l r .done (some .ret))) w' → S (.bool false) w') : At (roundPost P l (RE S Sp)) .ret n D E w := fun a hf hd => by
 obtain ⟨fn, tmps, _, rfl⟩ := hr.ex
 have h0 : w.heap[l]? = some _ := hs.at_ hi
 exact ⟨_, _, run_endRound (some .ret) h0, h _ (hs.putObj hi)⟩
end
section
variable {P : Program} {ρ : Option Nat} {Q : Post} {n : Nat} {D : List Deferred} {E : Env} {w : World} {ops : Array Oper} {rest : List Oper} {Γ : Ctx}
theorem WL_yield {l : Nat} {fo : Operand} {xs : List Operand} {vs : List Value} {tys : Array TypeId} {d : Tmp} {ty : TypeId} {pos : String} {af : Array Edge} {S : Value → World → Prop}
  (hfo : Opd E true fo (.func (.yield l) #[] #[])) (hxs : Opds E true xs vs) (hn : Nat.blt d n = true) (hy : Yld P l vs w S)
  (h : ∀ v w', S v w' → WL P ρ ops Q n D rest ((d, true, v) :: E) w') : WL P ρ ops Q n D (⟨some d, .call ⟨.value fo, xs.toArray, tys⟩, ty, pos, af, none⟩ :: rest) E w := fun a hf hD =>
 wpListIn_plain rfl fun K hK => wpIn_of rfl (by
  obtain ⟨fn, tmps, assign, body, h1, h2⟩ := hy
  have e1 : (Array.map a.eval xs.toArray) = vs.toArray := by simp [hxs.map hf rfl]
  have e2 : (execOp a.eval ⟨some d, .call ⟨.value fo, xs.toArray, tys⟩, ty, pos, af, none⟩).run P w = .ok (.round l fn tmps assign body) w := by
   simp only [execOp, resolve, hfo n a hf rfl, Deferred.ofValue, e1, Sem.run_bind, Sem.run_pure, Result.andThen_ok, invoke]
   simpa using h1
  rw [e2, Oper.uponIn_round]
  refine ⟨FW_depth, RoundIn.mono (F := FW ρ) h2 fun e w' he => ?_⟩
  cases e with
  | returned v => exact hK _ _ (h v w' he _ (hf.put hn) hD)
  | panicked c => exact he.elim
  | outgrown => exact he.elim)
theorem At_marks {fn : Func} {S : Value → World → Prop} {Sp : List PanicEntry → World → Prop} : ∀ (ds : List Nat) {w : World}, Sat (dfrs ds :: Γ) w →
  (∀ w', Sat Γ w' → At (BP P fn S Sp) .ret n [] E w') → At (BP P fn S Sp) .ret n (mk ds) E w
 | [], w, hs, h => h w (hs.re 1 [] rfl)
 | b :: ds, w, hs, h => fun a hf hd => by
  have h0 : (b :: ds).Nodup ∧ ∀ c ∈ b :: ds, w.heap[c]? = some (.deferred (some [])) := hs.at_ (i := 0) rfl
  have hb := h0.2 b (List.mem_cons_self ..)
  have hnb : b ∉ ds := (List.nodup_cons.1 h0.1).1
  have hlt := (Array.getElem?_eq_some_iff.1 hb).1
  have hs' : Sat ((dfrs (b :: ds) :: Γ).set 0 (dfrs ds)) (w.putObj b (.deferred none)) := by
   refine hs.upd (i := 0) rfl ⟨rfl, rfl, rfl, by simp, fun c _ hcb => World.putObj_heap_other (fun e => hcb (by subst e; exact List.mem_cons_self ..))⟩ (fun c hc => ⟨?_, .inl (List.mem_cons_of_mem _ hc)⟩) (fun _ _ _ => ?_)
   ·have := (Array.getElem?_eq_some_iff.1 (h0.2 c (List.mem_cons_of_mem _ hc))).1
    simpa using this
   ·exact ⟨(List.nodup_cons.1 h0.1).2, fun c hc => (World.putObj_heap_other (fun e => hnb (by subst e; exact hc))).trans (h0.2 c (List.mem_cons_of_mem _ hc))⟩
  have h1 := At_marks ds hs' h { a with defers := mk ds } ⟨hf.size, hf.at_⟩ rfl
  show LeavesInM (FW none) 0 P fn a.tmps (RE S Sp) a.defers .returning w
  rw [hd]
  exact ⟨by simp, .inl ⟨b, _, rfl, run_takeDeferred hb, h1⟩⟩
def AgainD {σ γ τ : Type} (again : σ → Option τ) (r : τ) (J : σ → γ → World → Prop) (Es : σ → γ → Env) (n : Nat) (Ds : γ → List Nat) (a : Act) (w : World) : Prop :=
 ∃ s g, again s = some r ∧ J s g w ∧ Fits n (Es s g) a ∧ a.defers = mk (Ds g)
end
end Go.Proofs.YtjdabjpjafkogaaDoor
namespace Go.Proofs.YtjdabjpjafkogaaDoor
section
variable {P : Program} {E : Env} {w : World} {g : Bool}
variable {dst : Option Tmp} {ty : TypeId} {pos : String} {af : Array Edge} {gd : Option (Nat × Bool)}
abbrev selfP (f : Bool) (b : Nat) : Value := .pointer (bif f then some ⟨b, 0, none⟩ else none)
theorem Run_eqSelf {x y : Operand} {t t' e : TypeId} {f : Bool} {b : Nat} (ht : P.underlying t = some (.pointer e)) (hx : Opd E g x (selfP f b)) (hy : Opd E g y (.pointer none)) :
  Run P E g ⟨dst, .binOp .eql t x y t', ty, pos, af, gd⟩ w (.bool (!f)) :=
 Run_bin (P := P) hx hy (by
  rw [Sem.run_bind, run_eqGuard_plain rfl, Result.andThen_ok]
  have h : ∀ d : Nat, (Op.equalIn (d + 1) t (selfP f b) (.pointer none)).run P w = .ok (!f) w := fun d => by
   cases f <;> simp [Op.equalIn, run_underlying ht, selfP]
  simp only [binOp]
  simp [Op.equal, Op.maxDepth, h 9999])
theorem Run_neSelf {x y : Operand} {t t' e : TypeId} {f : Bool} {b n bytes : Nat} {z : Value} (ht : P.underlying t = some (.pointer e)) (hti : TI P e n bytes z) (hx : Opd E g x (selfP f b)) (hy : Opd E g y (.pointer (some ⟨b, 0, none⟩))) :
  Run P E g ⟨dst, .binOp .neq t x y t', ty, pos, af, gd⟩ w (.bool (!f)) :=
 Run_bin (P := P) hx hy (by
  rw [Sem.run_bind, run_eqGuard_plain rfl, Result.andThen_ok]
  obtain ⟨j, hj, _⟩ := hti.out
  cases f
  ·have h : ∀ d : Nat, (Op.equalIn (d + 1) t (.pointer none) (.pointer (some ⟨b, 0, none⟩))).run P w = .ok false w := fun d => by
    simp [Op.equalIn, run_underlying ht]
   show (binOp .neq t (.pointer none) (.pointer (some ⟨b, 0, none⟩))).run P w = _
   simp only [binOp]
   simp [Op.equal, Op.maxDepth, h 9999]
  ·exact Lib.run_neq_ptr_same w _ ht hj)
theorem Run_eqNilM {κ ν : Type} {ke : κ → Value} {vi : ν → Value} {x y : Operand} {t t' kt et : TypeId} {o : Option Nat} {dd : Option (List (κ × ν))} (ht : P.underlying t = some (.map kt et)) (hx : Opd E g x (.map o)) (hy : Opd E g y (.map none)) (hm : OMap ke vi w (.map o) dd) :
  Run P E g ⟨dst, .binOp .eql t x y t', ty, pos, af, gd⟩ w (.bool (Option.isNone dd)) :=
 Run_bin (P := P) hx hy (by
  rw [Sem.run_bind, run_eqGuard_plain rfl, Result.andThen_ok]
  rcases hm with ⟨e, rfl⟩ | ⟨b, es, clock, l, e, rfl, _, _⟩
  ·cases e
   have h : ∀ d : Nat, (Op.equalIn (d + 1) t (.map none) (.map none)).run P w = .ok true w := fun d => by simp [Op.equalIn, run_underlying ht]
   simp only [binOp]
   simp [Op.equal, Op.maxDepth, h 9999]
  ·cases e
   have h : ∀ d : Nat, (Op.equalIn (d + 1) t (.map (some b)) (.map none)).run P w = .ok false w := fun d => by simp [Op.equalIn, run_underlying ht]
   simp only [binOp]
   simp [Op.equal, Op.maxDepth, h 9999])
theorem Run_toUnsafe {x : Operand} {s d e e' : TypeId} {b n bytes : Nat} {z : Value} {vs : List Value} (hs : P.underlying s = some (.pointer e)) (hd : P.underlying d = some .unsafePointer) (hti : TI P e n bytes z) (hn : Nat.blt 0 n = true)
  (hx : Opd E g x (.pointer (some ⟨b, 0, none⟩))) (hb : BoxAt w b e' vs) (hv : Nat.blt 0 vs.length = true) : Run P E g ⟨dst, .convert s d x, ty, pos, af, gd⟩ w (.pointer (some ⟨b, 0, none⟩)) :=
 fun n' a hf hg => by
  obtain ⟨j, hj, hjs, _⟩ := hti.out
  have hsh : w.shape? b = some (e', vs.toArray.size) := by unfold World.shape?; rw [show w.heap[b]? = _ from hb]
  have h0 : 0 < n := by simpa using hn
  have h1 : 0 < vs.length := by simpa using hv
  have := Lib.run_to_unsafe (P := P) w (cells := vs.toArray.size) (⟨b, 0, none⟩ : Addr) hs hd hj (by omega) hsh (by simpa using h1)
  simp [execOp, hx n' a hf hg, this]
theorem Run_fromUnsafe {x : Operand} {s d e e' : TypeId} {b n bytes : Nat} {z : Value} {vs : List Value} (hs : P.underlying s = some .unsafePointer) (hd : P.underlying d = some (.pointer e)) (hti : TI P e n bytes z)
  (hx : Opd E g x (.pointer (some ⟨b, 0, none⟩))) (hb : BoxAt w b e' vs) (hl : liesAt P P.depth e' (vs.length / P.cellsOf e') 0 e 1 = true) : Run P E g ⟨dst, .convert s d x, ty, pos, af, gd⟩ w (.pointer (some ⟨b, 0, none⟩)) :=
 fun n' a hf hg => by
  obtain ⟨j, hj, hjs, _⟩ := hti.out
  have hsh : w.shape? b = some (e', vs.length) := by unfold World.shape?; rw [show w.heap[b]? = _ from hb]; simp
  have := Lib.run_from_unsafe (P := P) w (⟨b, 0, none⟩ : Addr) hs hd hj hsh hl
  simp [execOp, hx n' a hf hg, this]
def Same (P : Program) (f : FuncId) : Prop := ∀ (v : Value) (w : World), (callFunc f #[v]).run P w = .ok (.value v) w
theorem Run_same {f : FuncId} {x : Operand} {v : Value} {tys : Array TypeId} (hS : Same P f) (hx : Opd E g x v) : Run P E g ⟨dst, .call ⟨.value (.func f), #[x], tys⟩, ty, pos, af, gd⟩ w v :=
 fun n' a hf hg => by
  have := hS v w
  have e : a.eval (.func f) = .func (.func f) #[] #[] := rfl
  simp only [execOp, resolve, e, Deferred.ofValue, Sem.run_bind, Sem.run_pure, Result.andThen_ok, invoke]
  simpa [hx n' a hf hg] using this
end
/-! bytes of a string appended -/
theorem strCells_S (s : Str) : Lib.strCells ⟨s.toArray⟩ = s.map fun b => Value.int .u8 (b.toNat : Int) := by simp [Lib.strCells]
theorem ARd_byteCells {M : Nat → Prop} {w : World} : ∀ s : Str, ARd (RI .u8) M w (Lib.strCells ⟨s.toArray⟩) (bytesOf s) := fun s => by
 rw [strCells_S]; exact ARd_bytes s
theorem bytesOf_length (s : Str) : (bytesOf s).length = s.length := by simp [bytesOf]
section
variable {P : Program} {w : World} {M : Nat → Prop}
theorem run_appendS_osl (t u ty' e : TypeId) (ht : P.underlying t = some (.slice e)) (hu : P.underlying u = some .string) (hti : TI P e 1 1 (.int .u8 0))
  {v : Value} {xs : List Int} {s : Str} (ho : OSl (RI .u8) e M w v xs) (hM : ∀ b ∈ blk v, M b) (hroom : roomB (xs.length + s.length) 1 = true) :
  ∃ v' w', (Builtin.append_ #[t, u] ty' #[v, S s]).run P w = .ok v' w' ∧ Chg (blk v) w w' ∧ (∀ b ∈ blk v', b < w'.heap.size ∧ (b ∈ blk v ∨ w.heap.size ≤ b)) ∧
   (∀ M', Mv M w M' w' → OSl (RI .u8) e M' w' v' (xs ++ bytesOf s)) := by
 obtain ⟨i, hi, hsz, hby, hz⟩ := hti.out
 simp only [roomB, Bool.and_eq_true, Nat.mul_one] at hroom
 have hb1 := Nat.le_of_ble_eq_true hroom.1
 have hb2 := Nat.le_of_ble_eq_true hroom.2
 have hss : (⟨s.toArray⟩ : ByteArray).size = s.length := size_S s
 obtain ⟨cells, hown, hA⟩ := ho
 have hnA : ARd (RI .u8) M w (Lib.strCells ⟨s.toArray⟩) (bytesOf s) := ARd_byteCells s
 have hA' := hA.append hnA
 have hn1 : (RI .u8).n = 1 := rfl
 have hcl : cells.length = xs.length := by have := hA.1; rw [hn1] at this; omega
 have hsl : (Lib.strCells ⟨s.toArray⟩).length = s.length := by rw [Lib.strCells_length, hss]
 have hlen : (cells ++ Lib.strCells ⟨s.toArray⟩).length = (xs ++ bytesOf s).length * 1 := by simp [hcl, hsl, bytesOf_length]
 have grown : ∀ (old : Nat), old < xs.length + s.length →
   (w.drew.alloc (.cells (cells.toArray ++ (Lib.strCells ⟨s.toArray⟩).toArray ++ Builtin.zeroCells (Value.int .u8 0).cells (grownCap w (xs.length + s.length) old e - (xs.length + s.length))) e)).ownsRow 0 e 1
    (.slice (some ⟨w.heap.size, 0, none⟩) (xs.length + s.length) (grownCap w (xs.length + s.length) old e)) (xs ++ bytesOf s).length (cells ++ Lib.strCells ⟨s.toArray⟩) := by
  intro old hold
  have hge := grownCap_ge w (xs.length + s.length) old e
  have hcm : grownCap w (xs.length + s.length) old e ≤ maxLen := grownCap_le_maxLen w (xs.length + s.length) old e (by simpa [maxLen] using hb2)
  refine ⟨hlen, .inr ⟨w.heap.size, _, _, by simp [bytesOf_length], Nat.zero_le _, heap_alloc_new w.drew _, by simpa [bytesOf_length] using hge, hcm, ?_, ?_⟩⟩
  ·have hz1 : (Value.int IntKind.u8 0).cells.size = 1 := rfl
   simp only [Array.size_append, List.size_toArray, size_zeroCells, hz1, hcl, hsl]
   omega
  ·simp only [Array.toList_append, List.append_assoc]
   rw [← List.append_assoc, ← hlen]
   exact List.take_left
 have hchg : ∀ o C, Chg C w (w.drew.alloc o) := fun o C => ⟨rfl, rfl, rfl, by simp, fun b hb _ => heap_alloc_old w.drew o hb⟩
 have hnew : ∀ (n cap : Nat) (o : Obj), ∀ b ∈ blk (.slice (some ⟨w.heap.size, 0, none⟩) n cap), b < (w.drew.alloc o).heap.size ∧ (b ∈ blk v ∨ w.heap.size ≤ b) := fun n cap o b hb => by
  have : b = w.heap.size := by simpa [blk, Value.ownBlock] using hb
  subst this
  exact ⟨by simp, .inr (Nat.le_refl _)⟩
 by_cases hm : s.length = 0
 ·have hs0 : s = [] := List.eq_nil_of_length_eq_zero hm
  subst hs0
  refine ⟨v, w, ?_, (Ext.refl w).chg _, fun b hb => ⟨(hown.lt b (by simpa [blk] using hb)).2, .inl hb⟩, fun M' m => ⟨cells, by simpa [bytesOf] using hown, by simpa [bytesOf] using hA.mv m⟩⟩
  rcases hown.2 with ⟨rfl, h0⟩ | ⟨g, cap, cur, rfl, _, hg, hcap, hcm, hcs, _⟩
  ·have hf := Lib.run_firstCells_string (P := P) w 1 ⟨#[]⟩
   have e0 : (⟨#[]⟩ : ByteArray).size = 0 := rfl
   rw [e0] at hf
   simp [S, Builtin.append_, run_underlying ht, run_underlying hu, sizeOf, typeInfo, hi, hsz, Builtin.lenOf, hf, ByteArray.size]
  ·have hf := Lib.run_firstCells_string (P := P) w 1 ⟨#[]⟩
   have e0 : (⟨#[]⟩ : ByteArray).size = 0 := rfl
   rw [e0] at hf
   simp [S, Builtin.append_, run_underlying ht, run_underlying hu, sizeOf, typeInfo, hi, hsz, Builtin.lenOf, hf, ByteArray.size, storeCells, Lib.strCells, hcap]
 ·rcases hown.2 with ⟨rfl, h0⟩ | ⟨g, cap, cur, rfl, _, hg, hcap, hcm, hcs, htake⟩
  ·have hx0 : xs = [] := List.eq_nil_of_length_eq_zero h0
   subst hx0
   have hc0 : cells = [] := List.eq_nil_of_length_eq_zero (by simpa using hcl)
   subst hc0
   have hr := run_append_nil_string (P := P) w t u ty' e i (.int .u8 0) ht hu hi hz ⟨s.toArray⟩ (by rw [hss]; omega) (by rw [hss]; simp at hb2; omega) (by rw [hss, hby]; simp at hb1; omega)
   have hgr := grown 0 (by simp; omega)
   have e1 : ((⟨s.toArray⟩ : ByteArray).data.map fun b => Value.int .u8 b.toNat) = (Lib.strCells ⟨s.toArray⟩).toArray := by
    apply Array.ext'; simp [Lib.strCells]
   rw [e1, hss] at hr
   simp only [List.length_nil, Nat.zero_add, List.nil_append, Array.empty_append] at hgr
   exact ⟨_, _, hr, hchg _ _, hnew _ _ _, fun M' m => ⟨_, by simpa [hn1] using hgr, by simpa using hnA.mv m⟩⟩
  ·by_cases hroom' : xs.length + s.length ≤ cap
   ·have hcs' : cur.size = cap := by simpa [hn1] using hcs
    have hr := Lib.run_append_room_string (P := P) w t u ty' e i ht hu hi hsz g xs.length cap cur hg ⟨s.toArray⟩ (by rw [hss]; exact hroom') (by rw [hss, hcs']; exact hroom')
    refine ⟨_, _, hr, ⟨rfl, rfl, rfl, by simp, fun b hb hbg => setRow_other w g b _ (by simpa [blk, Value.ownBlock] using hbg)⟩, fun b hb => ?_, fun M' m => ⟨cells ++ Lib.strCells ⟨s.toArray⟩, ⟨hlen, .inr ⟨g, cap, _, by simp [bytesOf_length, hss], Nat.zero_le _, setRow_heap w g cur _ e _ hg, by simpa [bytesOf_length] using hroom', hcm, ?_, ?_⟩⟩, hA'.mv m⟩⟩
    ·have : b = g := by simpa [blk, Value.ownBlock] using hb
     subst this
     exact ⟨by simpa using (Array.getElem?_eq_some_iff.1 hg).1, .inl (by simp [blk, Value.ownBlock])⟩
    ·simp only [List.size_toArray, List.length_append, List.length_take, List.length_drop, Array.length_toList, hsl, hss, hn1]
     omega
    ·have ht' : cur.toList.take xs.length = cells := by simpa [hn1] using htake
     have e : ∀ (l : List Value), l.toArray.toList = l := fun l => by simp
     rw [e, ht', hn1, ← hlen]
     exact List.take_left
   ·have holds : ∀ j x, cells[j]? = some x → w.cell? ((⟨g, 0, none⟩ : Addr).add j) = some x := hown.cells (g := g) rfl
    have hr := Lib.run_append_grow_string (P := P) w t u ty' e i (.int .u8 0) ht hu hi hz ⟨g, 0, none⟩ xs.length cap cells (by rw [hsz]; omega) holds ⟨s.toArray⟩ (by rw [hss]; omega) (by rw [hss]; omega)
     (by rw [hss, hby]; exact growslice_fits (by omega) (by omega))
    have hgr := grown cap (by omega)
    rw [hss] at hr
    exact ⟨_, _, hr, hchg _ _, hnew _ _ _, fun M' m => ⟨_, by simpa [hn1] using hgr, hA'.mv m⟩⟩
theorem run_appendS_empty (t u ty' e : TypeId) (ht : P.underlying t = some (.slice e)) (hu : P.underlying u = some .string) (hti : TI P e 1 1 (.int .u8 0))
  {a0 : Option Addr} {s : Str} (hroom : roomB s.length 1 = true) :
  ((Builtin.append_ #[t, u] ty' #[.slice a0 0 0, S s]).run P w = .ok (.slice a0 0 0) w ∧ s = []) ∨
  ∃ v' w', (Builtin.append_ #[t, u] ty' #[.slice a0 0 0, S s]).run P w = .ok v' w' ∧ Ext w w' ∧ (∀ b ∈ blk v', b < w'.heap.size ∧ w.heap.size ≤ b) ∧ (∀ M', Mv M w M' w' → OSl (RI .u8) e M' w' v' (bytesOf s)) := by
 obtain ⟨i, hi, hsz, hby, hz⟩ := hti.out
 by_cases hm : s = []
 ·subst hm
  refine .inl ⟨?_, rfl⟩
  have hf := Lib.run_firstCells_string (P := P) w 1 ⟨#[]⟩
  have e0 : (⟨#[]⟩ : ByteArray).size = 0 := rfl
  rw [e0] at hf
  cases a0 <;> simp [S, Builtin.append_, run_underlying ht, run_underlying hu, sizeOf, typeInfo, hi, hsz, Builtin.lenOf, hf, ByteArray.size, storeCells, Lib.strCells]
 ·refine .inr ?_
  cases a0 with
  | none =>
   obtain ⟨v', w', hr, hC, hR, hO⟩ := run_appendS_osl (M := M) (w := w) t u ty' e ht hu hti (OSl.nil) (s := s) (fun b hb => by simp [blk, Value.ownBlock] at hb) (by simpa using hroom)
   refine ⟨v', w', hr, ⟨hC.os, hC.tape, hC.output, hC.size, fun b hb => hC.block b hb (by simp [blk, Value.ownBlock])⟩, fun b hb => ⟨(hR b hb).1, ?_⟩, fun M' m => by simpa using hO M' m⟩
   rcases (hR b hb).2 with h | h
   ·simp [blk, Value.ownBlock] at h
   ·exact h
  | some ad =>
   have hss : (⟨s.toArray⟩ : ByteArray).size = s.length := size_S s
   simp only [roomB, Bool.and_eq_true, Nat.mul_one] at hroom
   have hb1 := Nat.le_of_ble_eq_true hroom.1
   have hb2 := Nat.le_of_ble_eq_true hroom.2
   have h0 : 0 < s.length := List.length_pos_iff.2 hm
   have hr := Lib.run_append_grow_string (P := P) w t u ty' e i (.int .u8 0) ht hu hi hz ad 0 0 [] (by simp) (by intro j v hj; simp at hj) ⟨s.toArray⟩ (by rw [hss]; omega) (by rw [hss]; omega) (by rw [hss, hby]; exact growslice_fits (by omega) (by omega))
   rw [hss] at hr
   simp only [Nat.zero_add] at hr
   have hr2 : (Builtin.append_ #[t, u] ty' #[.slice (some ad) 0 0, S s]).run P w = _ := hr
   have hge := grownCap_ge w s.length 0 e
   have hcm : grownCap w s.length 0 e ≤ maxLen := grownCap_le_maxLen w s.length 0 e (by simpa [maxLen] using hb2)
   have hsl : (Lib.strCells ⟨s.toArray⟩).length = s.length := by rw [Lib.strCells_length, hss]
   refine ⟨_, _, hr2, ⟨rfl, rfl, rfl, by simp, fun b hb => heap_alloc_old w.drew _ hb⟩, fun b hb => ?_, fun M' m => ⟨Lib.strCells ⟨s.toArray⟩, ⟨by simp [hsl, bytesOf_length, RI], .inr ⟨w.heap.size, _, _, by simp [bytesOf_length], Nat.zero_le _, heap_alloc_new w.drew _, by simpa [bytesOf_length] using hge, hcm, ?_, ?_⟩⟩, (ARd_byteCells s)⟩⟩
   ·have : b = w.heap.size := by simpa [blk, Value.ownBlock] using hb
    subst this
    exact ⟨by simp, Nat.le_refl _⟩
   ·have hz1 : (Value.int IntKind.u8 0).cells.size = 1 := rfl
    simp only [Array.size_append, List.size_toArray, size_zeroCells, hz1, hsl, List.length_nil]
    show _ = _ * 1
    omega
   ·have e1 : (bytesOf s).length * (RI .u8).n = (Lib.strCells ⟨s.toArray⟩).length := by simp [bytesOf_length, hsl, RI]
    rw [e1]
    simp
end
section
variable {P : Program} {ρ : Option Nat} {Q : Post} {n : Nat} {D : List Deferred} {E : Env} {w : World} {ops : Array Oper} {rest : List Oper} {Γ : Ctx} {i : Nat}
variable {d : Tmp} {ty : TypeId} {pos : String} {af : Array Edge}
theorem WS_appendS {v : Value} {x y : Operand} {t u e : TypeId} {R : List Nat} {xs : List Int} {s : Str} (hs : Sat Γ w) (i : Nat) (hi : Γ[i]? = some (osl (RI .u8) e v xs R))
  (ht : P.underlying t = some (.slice e)) (hu : P.underlying u = some .string) (hti : TI P e 1 1 (.int .u8 0)) (hx : Opd E true x v) (hy : Opd E true y (S s))
  (hroom : roomB (xs.length + s.length) 1 = true) (hn : Nat.blt d n = true)
  (h : ∀ (p : SLV) R' w', Sat (Γ.set i (osl (RI .u8) e (sl p) (xs ++ bytesOf s) R')) w' → WL P ρ ops Q n D rest ((d, true, sl p) :: E) w') :
  WL P ρ ops Q n D (⟨some d, .call ⟨.builtin .append, #[x, y], #[t, u]⟩, ty, pos, af, none⟩ :: rest) E w := by
 have key : ∃ v' R' w', RunW P E ⟨some d, .call ⟨.builtin .append, #[x, y], #[t, u]⟩, ty, pos, af, none⟩ w v' w' ∧ Chg R w w' ∧ (∀ b ∈ R', b < w'.heap.size ∧ (b ∈ R ∨ w.heap.size ≤ b)) ∧ ∀ M', Mv Γ.M w M' w' → Own (RI .u8) e M' w' v' (xs ++ bytesOf s) R' := by
  have hO := hs.own hi
  have hM : ∀ b ∈ R, Γ.M b := fun b hb => Ctx.mem_M hi hb
  rcases hO with ⟨rfl, ho⟩ | ⟨rfl, rfl, ⟨a0, rfl⟩, hr0⟩
  ·obtain ⟨v', w', hr, hC, hR, hO⟩ := run_appendS_osl t u ty e ht hu hti ho hM hroom
   exact ⟨v', blk v', w', (fun n' a hf => by simp [execOp, resolve, invoke, builtin, hx n' a hf rfl, hy n' a hf rfl, hr]), hC, hR, fun M' m => Own.of (hO M' m)⟩
  ·rcases run_appendS_empty (M := Γ.M) (w := w) t u ty e ht hu hti (a0 := a0) (s := s) (by simpa using hroom) with ⟨hr, rfl⟩ | ⟨v', w', hr, hE, hB, hO⟩
   ·exact ⟨.slice a0 0 0, [], w, (fun n' a hf => by simp [execOp, resolve, invoke, builtin, hx n' a hf rfl, hy n' a hf rfl, hr]), (Ext.refl w).chg _, (fun b hb => by cases hb), fun M' m => by simpa [bytesOf] using Own.empty (e := e) (hr0.mv m)⟩
   ·exact ⟨v', blk v', w', (fun n' a hf => by simp [execOp, resolve, invoke, builtin, hx n' a hf rfl, hy n' a hf rfl, hr]), hE.chg _, (fun b hb => ⟨(hB b hb).1, .inr (hB b hb).2⟩), fun M' m => Own.of (by simpa using hO M' m)⟩
 obtain ⟨v', R', w', hr, hC, hR, hO⟩ := key
 have hS := hs.upd hi (new := osl (RI .u8) e v' (xs ++ bytesOf s) R') hC hR (fun M' m _ => hO M' m)
 have hv : ∃ p, v' = sl p := by
  have hlt : i < Γ.length := (List.getElem?_eq_some_iff.1 hi).1
  have ho := hS.own (i := i) (A := RI .u8) (e := e) (v := v') (xs := xs ++ bytesOf s) (R := R') (by rw [List.getElem?_set_self hlt])
  obtain ⟨a, cap, hv⟩ := ho.len
  exact ⟨(a, _, cap), hv⟩
 obtain ⟨p, rfl⟩ := hv
 exact WL_opW hr rfl rfl rfl hn (h _ _ _ hS)
/-! the bytes taken for a string -/
def Roomy (v : Value) : Prop := ∃ g len cap, v = .slice (some ⟨g, 0, none⟩) len (cap + 1)
theorem Own.roomy {e : TypeId} {M : Nat → Prop} {v : Value} {xs : List Int} {R : List Nat} (h : Own (RI .u8) e M w v xs R) (hne : (!List.isEmpty xs) = true) : Roomy v := by
 have h0 : xs ≠ [] := by
  intro e; subst e; simp at hne
 rcases h with ⟨_, cells, h1, _⟩ | ⟨_, rfl, _⟩
 ·rcases h1.2 with ⟨_, hz⟩ | ⟨g, cap, cur, rfl, _, _, hc, _⟩
  ·exact absurd (List.eq_nil_of_length_eq_zero hz) h0
  ·obtain ⟨k, rfl⟩ : ∃ k, cap = k + 1 := ⟨cap - 1, by have := List.length_pos_iff.2 h0; omega⟩
   exact ⟨g, _, k, rfl⟩
 ·exact absurd rfl h0
theorem Run_sdata {g : Bool} {dst : Option Tmp} {gd : Option (Nat × Bool)} {x : Operand} {v : SLV} {ts : Array TypeId} (hx : Opd E g x (sl v)) (hv : g = true → Roomy (sl v)) : Run P E g ⟨dst, .call ⟨.builtin .unsafeSliceData, #[x], ts⟩, ty, pos, af, gd⟩ w (.pointer v.1) :=
 fun n a hf hg => by
  obtain ⟨b, len, cap, e⟩ := hv hg
  obtain ⟨v1, v2, v3⟩ := v
  simp only [sl, Value.slice.injEq] at e
  obtain ⟨rfl, rfl, rfl⟩ := e
  have := Lib.run_unsafeSliceData_row (P := P) w ts ty ⟨b, 0, none⟩ v2 (cap + 1) (by omega)
  simp [execOp, resolve, invoke, builtin, hx n a hf hg, sl, this]
theorem run_loadBytes' {P : Program} {w : World} : ∀ (l : List Int) (a : Addr) (acc : ByteArray), (∀ (j : Nat) (x : Int), l[j]? = some x → w.cell? (a.add j) = some (.int .u8 x)) →
  (loadBytes a acc l.length).run P w = .ok ⟨acc.data ++ (strOf l).toArray⟩ w
 | [], a, acc, _ => by simp [loadBytes, strOf]
 | x :: l, a, acc, h => by
  have h0 : w.cell? a = some (.int .u8 x) := by
   have := h 0 x rfl
   simpa [Addr.add] using this
  have ih := run_loadBytes' (P := P) l (a.add 1) (acc.push (UInt8.ofNat x.toNat)) (fun j y hy => by
   have := h (j + 1) y (by simpa using hy)
   have e : (a.add 1).add j = a.add (j + 1) := by
    unfold Addr.add
    by_cases hj : j = 0
    ·subst hj; simp
    ·simp [hj]; omega
   rw [e]; exact this)
  simp only [List.length_cons, loadBytes, Sem.run_bind, run_load, h0, Result.andThen]
  have e2 : (x.toNat).toUInt8 = UInt8.ofNat x.toNat := rfl
  rw [e2, ih]
  congr 1
  apply ByteArray.ext
  simp [ByteArray.push, strOf]
theorem WS_ustr {v : SLV} {x y : Operand} {pt it e : TypeId} {R : List Nat} {xs : List Int} (hs : Sat Γ w) (i : Nat) (hi : Γ[i]? = some (osl (RI .u8) e (sl v) xs R)) (hp : P.underlying pt = some (.pointer e)) (hc : P.cellsOf e = 1)
  (hx : Opd E true x (.pointer v.1)) (hy : Opd E true y (.int .i64 (xs.length : Int))) (hne : (!List.isEmpty xs) = true) (hn : Nat.blt d n = true)
  (h : ∀ w', Sat (Γ.set i (imm (RSl (RI .u8)) [sl v] xs)) w' → WL P ρ ops Q n D rest ((d, true, S (strOf xs)) :: E) w') :
  WL P ρ ops Q n D (⟨some d, .call ⟨.builtin .unsafeString, #[x, y], #[pt, it]⟩, ty, pos, af, none⟩ :: rest) E w := by
 have h0 : xs ≠ [] := by
  intro e; subst e; simp at hne
 have hl0 : xs.length ≠ 0 := fun e => h0 (List.eq_nil_of_length_eq_zero e)
 have hO := hs.own hi
 rcases hO with ⟨hR, cells, ⟨h1, h2⟩, hr⟩ | ⟨_, rfl, _⟩
 ·rcases h2 with ⟨_, hz⟩ | ⟨g, cap, cur, h3, hg, hh, hcap, hm, hcs, htk⟩
  ·exact absurd hz hl0
  ·obtain ⟨v1, v2, v3⟩ := v
   simp only [sl, Value.slice.injEq] at h3
   obtain ⟨rfl, rfl, rfl⟩ := h3
   have hlt := (Array.getElem?_eq_some_iff.1 hh).1
   have hn1 : (RI .u8).n = 1 := rfl
   have hcs' : cur.size = v3 := by simpa [hn1] using hcs
   have hsh : w.shape? g = some (e, cur.size) := by unfold World.shape?; rw [hh]
   have hcell : ∀ (j : Nat) (a : Int), xs[j]? = some a → w.cell? ((⟨g, 0, none⟩ : Addr).add j) = some (.int .u8 a) := fun j a hj => by
    have hjl := (List.getElem?_eq_some_iff.1 hj).1
    have hA := hr.2 j hjl
    have ha : xs[j] = a := (List.getElem?_eq_some_iff.1 hj).2
    have hcj : cells[j]? = some (.int .u8 a) := by
     have e1 : (cells.drop (j * 1)).take 1 = [.int .u8 a] := by rw [← ha]; exact hA
     have e2 := congrArg (fun l => l[0]?) e1
     simpa using e2
    have key : CellsAt w ⟨g, 0, none⟩ cells := ⟨rfl, cur, e, (0, 0), hh, fun j u hj => by
     rw [← htk, List.getElem?_take] at hj
     split at hj
     ·simpa using hj
     ·cases hj⟩
    exact key.cell hcj
   have hmx : xs.length ≤ 9223372036854775807 := by unfold maxLen at hm; omega
   have hrun : (Builtin.unsafeString_ #[pt, it] ty #[.pointer (some ⟨g, 0, none⟩), .int .i64 xs.length]).run P w = .ok (S (strOf xs)) (w.freeze ⟨g, 0, none⟩ xs.length) := by
    have hlb := run_loadBytes' (P := P) (w := w) xs ⟨g, 0, none⟩ .empty hcell
    have hlies := Lib.liesAt_bytes (P := P) hc (cur.size / P.cellsOf e) xs.length (by rw [hc, hcs']; simpa using hcap)
    have h63' : ¬ (9223372036854775807 : Int) < (xs.length : Int) := by omega
    have hmax : IntKind.i64.max = 9223372036854775807 := rfl
    have hneg : ¬ (xs.length : Int) < 0 := by omega
    refine (Sem.run_bind (P := P) (w := w) (asInt (.int .i64 xs.length)) _).trans ?_
    simp [asInt, asIntOf, hmax, h63', hneg, hl0, variablesAt, hsh, elemOf, run_underlying hp, hlies, hlb, S]
   have hw : (w.freeze ⟨g, 0, none⟩ xs.length).heap[g]? = some (.cells cur e (0, xs.length)) := by
    unfold World.freeze
    rw [if_neg hl0]
    simp [Array.getElem?_modify, hh]
   have hC : Chg [g] w (w.freeze ⟨g, 0, none⟩ xs.length) := by
    unfold World.freeze
    rw [if_neg hl0]
    refine ⟨rfl, rfl, rfl, by simp, fun c _ hcb => ?_⟩
    have : g ≠ c := fun e => hcb (by simp [e])
    simp [Array.getElem?_modify, this]
   have hRg : R = [g] := by rw [hR]; simp [blk, Value.ownBlock, sl]
   refine WL_opW (v := S (strOf xs)) (w' := w.freeze ⟨g, 0, none⟩ xs.length) ?_ rfl rfl rfl hn (h _ (hs.upd hi (by rw [show (osl (RI .u8) e (sl (some ⟨g, 0, none⟩, xs.length, v3)) xs R).own = [g] from hRg]; exact hC) (fun c hc => by cases hc) (fun M' m hb => ?_)))
   ·intro n' a hf
    simp [execOp, resolve, invoke, builtin, hx n' a hf rfl, hy n' a hf rfl, hrun]
   ·have hb' : ¬ M' g := hb g (by rw [show (osl (RI .u8) e (sl (some ⟨g, 0, none⟩, xs.length, v3)) xs R).own = [g] from hRg]; simp) (by simp [imm])
    refine SRd.rsl (.inr ⟨g, 0, v3, cur, e, _, rfl, hb', hw, hcap, by rw [Nat.zero_add]; exact Nat.le_of_eq hcs.symm, ?_⟩)
    rw [List.drop_zero, htk]
    exact hr.mv m
 ·exact absurd rfl h0
end
end Go.Proofs.YtjdabjpjafkogaaDoor
namespace Go.Proofs.YtjdabjpjafkogaaDoor
open Go.Lib
theorem O {E : Env} {g : Bool} {t : Tmp} {v : Value} (h : look E t = some (true, v)) : Opd E g (.tmp t) v := Opd.t h
section
variable {P : Program} {ρ : Option Nat} {Q : Post} {n : Nat} {D : List Deferred} {E : Env} {w : World} {ops : Array Oper} {rest : List Oper}
theorem Wo {o : Oper} {d : Tmp} {v : Value} (hr : Run P E true o w v) (hq : (plainO o, o.guard, o.dst, Nat.blt d n) = (true, none, some d, true))
  (h : WL P ρ ops Q n D rest ((d, true, v) :: E) w) : WL P ρ ops Q n D (o :: rest) E w :=
 WL_op hr (congrArg (·.1) hq) (congrArg (·.2.1) hq) (congrArg (·.2.2.1) hq) (congrArg (·.2.2.2) hq) h
theorem Wg {o : Oper} {d : Tmp} {v : Value} {j : Nat} {pol : Bool} {rj : Tmp} {gj bj : Bool} {g : Bool} (hq : (o.guard, (ops[j]?).bind (·.dst), look E rj, Nat.blt rj n) = (some (j, pol), some rj, some (gj, .bool bj), true)) (hG : (gj && (bj == pol)) = g)
  (hr : Run P E g o w v) (hq2 : (plainO o, o.dst, Nat.blt d n) = (true, some d, true))
  (h : WL P ρ ops Q n D rest ((d, g, v) :: E) w) : WL P ρ ops Q n D (o :: rest) E w :=
 WL_opG (congrArg (·.1) hq) (congrArg (·.2.1) hq) (congrArg (·.2.2.1) hq) (congrArg (·.2.2.2) hq) hG hr (congrArg (·.1) hq2) (congrArg (·.2.1) hq2) (congrArg (·.2.2) hq2) h
end
theorem Sat.m (Γ : Ctx) {Δ : Ctx} {w : World} (h : Sat Δ w) (e : Δ = Γ) : Sat Γ w := e ▸ h
end Go.Proofs.YtjdabjpjafkogaaDoor
namespace Go.Proofs.YtjdabjpjafkogaaDoor
inductive Ex where
 | mk (op n at_ : Int) (l : List Ex)
instance : Inhabited Ex := ⟨.mk 0 0 0 []⟩
def Ex.op : Ex → Int
 | .mk o _ _ _ => o
def Ex.n : Ex → Int
 | .mk _ n _ _ => n
def Ex.at_ : Ex → Int
 | .mk _ _ a _ => a
def Ex.l : Ex → List Ex
 | .mk _ _ _ l => l
inductive ExRd (M : Nat → Prop) (w : World) : List Value → Ex → Prop
 | nil (op n a : Int) (ad : Option Addr) : ExRd M w [.int .i64 op, .int .i64 n, .int .i64 a, sl (ad, 0, 0)] (.mk op n a [])
 | some (op n a : Int) (l : List Ex) (b off cap : Nat) (cs : Array Value) (e : TypeId) (fr : Nat × Nat) (hM : ¬ M b) (hb : w.heap[b]? = some (.cells cs e fr)) (hc : l.length ≤ cap) (ho : off + cap * 4 ≤ cs.size)
   (hl : ((cs.toList.drop off).take (l.length * 4)).length = l.length * 4) (h : ∀ i (hi : i < l.length), ExRd M w ((((cs.toList.drop off).take (l.length * 4)).drop (i * 4)).take 4) l[i]) :
   ExRd M w [.int .i64 op, .int .i64 n, .int .i64 a, sl (some ⟨b, off, none⟩, l.length, cap)] (.mk op n a l)
theorem ExRd.len {M : Nat → Prop} {w : World} {vs : List Value} {x : Ex} (h : ExRd M w vs x) : vs.length = 4 := by cases h <;> rfl
theorem ExRd.mv {M M' : Nat → Prop} {w w' : World} {vs : List Value} {x : Ex} (h : ExRd M w vs x) (m : Mv M w M' w') : ExRd M' w' vs x := by
 induction h with
 | nil op n a ad => exact .nil op n a ad
 | some op n a l b off cap cs e fr hM hb hc ho hl _ ih =>
  obtain ⟨h1, h2⟩ := m.2 b (Array.getElem?_eq_some_iff.1 hb).1 hM
  exact .some op n a l b off cap cs e fr h1 (by rw [h2]; exact hb) hc ho hl ih
def RExpr : Rep Ex where
 n := 4
 rd := ExRd
 len := ExRd.len
 one h := by cases h <;> simp [Value.oneCell', sl]
 mv := ExRd.mv
theorem RExpr_open {M : Nat → Prop} {w : World} {vs : List Value} {x : Ex} (h : RExpr.rd M w vs x) : ∃ v : SLV, vs = [(.int .i64 x.op), (.int .i64 x.n), (.int .i64 x.at_), (sl v)] ∧ SRd RExpr M w (sl v) x.l := by
 cases h with
 | nil op n a ad => exact ⟨_, rfl, .inl ⟨⟨_, rfl⟩, rfl⟩⟩
 | some op n a l b off cap cs e fr hM hb hc ho hl h => exact ⟨_, rfl, .inr ⟨b, off, cap, cs, e, fr, rfl, hM, hb, hc, ho, hl, h⟩⟩
theorem RExpr_close {M : Nat → Prop} {w : World} {op n a : Int} {v : Value} {l : List Ex} (h : (RSl RExpr).rd M w [v] l) : RExpr.rd M w [(.int .i64 op), (.int .i64 n), (.int .i64 a), v] (.mk op n a l) := by
 obtain ⟨p, hp, h⟩ := h
 have hv : v = sl p := by simpa using hp
 subst hv
 rcases h with ⟨⟨ad, h⟩, rfl⟩ | ⟨b, off, cap, cs, e, fr, h, hM, hb, hc, ho, hl, hr⟩
 ·rw [h]; exact .nil op n a ad
 ·rw [h]; exact .some op n a l b off cap cs e fr hM hb hc ho hl hr
theorem RExpr_closeE {M : Nat → Prop} {w : World} {x : Ex} {v : Value} (h : (RSl RExpr).rd M w [v] x.l) : RExpr.rd M w [(.int .i64 x.op), (.int .i64 x.n), (.int .i64 x.at_), v] x := by
 have := RExpr_close (op := x.op) (n := x.n) (a := x.at_) h
 cases x; exact this
end Go.Proofs.YtjdabjpjafkogaaDoor
namespace Go.Proofs.YtjdabjpjafkogaaDoor
def i64B (x : Int) : Bool := decide (-9223372036854775808 ≤ x) && decide (x ≤ 9223372036854775807)
theorem i64B_iff {x : Int} : i64B x = true ↔ -9223372036854775808 ≤ x ∧ x ≤ 9223372036854775807 := by simp [i64B]
end Go.Proofs.YtjdabjpjafkogaaDoor
namespace Go.Proofs.YtjdabjpjafkogaaDoor
def pow10L : List Int := [1, 10, 100, 1000, 10000, 100000, 1000000, 10000000, 100000000, 1000000000, 10000000000, 100000000000, 1000000000000, 10000000000000, 100000000000000, 1000000000000000, 10000000000000000, 100000000000000000, 1000000000000000000, 10000000000000000000]
def scrutinyref12_kind (c : Int) : Option Int := letv (c == 9) fun b3 => letv (c == 10) fun b5 => letv (b3 || b5) fun b7 => letv (c == 13) fun b9 => letv (b7 || b9) fun b11 => letv (c == 32) fun b13 => letv (b11 || b13) fun b15 => bif b15 then ( some 0) else ( letv (decide (97 ≤ c)) fun b18 => letv (decide (c ≤ 122)) fun b20 => letv (b18 && b20) fun b22 => letv (decide (65 ≤ c)) fun b24 => letv (decide (c ≤ 90)) fun b26 => letv (b24 && b26) fun b28 => letv (b22 || b28) fun b30 => letv (c == 95) fun b32 => letv (b30 || b32) fun b34 => bif b34 then ( some 1) else ( letv (decide (48 ≤ c)) fun b37 => letv (decide (c ≤ 57)) fun b39 => letv (b37 && b39) fun b41 => bif b41 then ( some 2) else ( some 3)))
def scrutinyref12_Signs : Option (List Str) := some ([[60, 45, 62], [45, 62], [61, 61], [33, 61], [60, 61], [62, 61], [60], [62], [61], [43], [45], [42], [40], [41], [123], [125], [59], [44], [58], [38], [124], [33]] : List Str)
def scrutinyref12_Tokens_L2 (text : Str) (out9 : (List (Int × Str × Int × Int))) (again13 : ((List (Int × Str × Int × Int)) × Int) → Option ((List (Int × Str × Int × Int)) × Int × Int)) (again24 : Int → Option ((List (Int × Str × Int × Int)) × Int × Int)) (i23 : Int) : Option ((List (Int × Str × Int × Int)) × Int × Int) := letv (decide (i23 < (List.length text : Int))) fun b25 => chkG b25 (inB i23 (List.length text)) <| letv ((byteAt text i23) != 10) fun b28 => letv (b25 && b28) fun b30 => bif b30 then ( again24 (IntKind.i64.wrap (i23 + 1))) else ( again13 (out9, i23))
def scrutinyref12_Tokens_L3 (text : Str) (out9 : (List (Int × Str × Int × Int))) (i12 : Int) (again13 : ((List (Int × Str × Int × Int)) × Int) → Option ((List (Int × Str × Int × Int)) × Int × Int)) (again36 : Int → Option ((List (Int × Str × Int × Int)) × Int × Int)) (i35 : Int) : Option ((List (Int × Str × Int × Int)) × Int × Int) := letv (decide (i35 < (List.length text : Int))) fun b37 => chkG b37 (inB i35 (List.length text)) <| callG b37 default (scrutinyref12_kind (byteAt text i35)) fun r40 => letv (r40 == 1) fun b46 => chkG (b37 && !b46) (inB i35 (List.length text)) <| callG (b37 && !b46) default (scrutinyref12_kind (byteAt text i35)) fun r49 => letv (r49 == 2) fun b55 => letv (b46 || b55) fun b57 => letv (b37 && b57) fun b59 => bif b59 then ( again36 (IntKind.i64.wrap (i35 + 1))) else ( bif (decide (32 < (IntKind.i64.wrap (i35 - i12)))) then ( some ([], 9, i12)) else ( chk (cutB i12 i35 (List.length text)) <| chk (roomB (List.length out9 + List.length ([(1, (cut text i12 i35), 0, i12)] : List (Int × Str × Int × Int))) 40) <| again13 ((out9 ++ ([(1, (cut text i12 i35), 0, i12)] : List (Int × Str × Int × Int))), i35)))
def scrutinyref12_Tokens_L4 (text : Str) (out9 : (List (Int × Str × Int × Int))) (i12 : Int) (again13 : ((List (Int × Str × Int × Int)) × Int) → Option ((List (Int × Str × Int × Int)) × Int × Int)) (again74 : (Int × Int) → Option ((List (Int × Str × Int × Int)) × Int × Int)) : Int × Int → Option ((List (Int × Str × Int × Int)) × Int × Int) := fun ⟨i72, n73⟩ => letv (decide (i72 < (List.length text : Int))) fun b75 => chkG b75 (inB i72 (List.length text)) <| callG b75 default (scrutinyref12_kind (byteAt text i72)) fun r78 => letv (r78 == 2) fun b84 => letv (b75 && b84) fun b86 => bif b86 then ( bif (decide (n73 ≤ 1073741824)) then ( chk (inB i72 (List.length text)) <| again74 ((IntKind.i64.wrap (i72 + 1)), (IntKind.i64.wrap ((IntKind.i64.wrap ((IntKind.i64.wrap (10 * n73)) + (IntKind.i64.wrap (byteAt text i72)))) - 48)))) else ( again74 ((IntKind.i64.wrap (i72 + 1)), n73))) else ( bif (decide (1073741824 < n73)) then ( some ([], 9, i12)) else ( chk (cutB i12 i72 (List.length text)) <| chk (roomB (List.length out9 + List.length ([(2, (cut text i12 i72), n73, i12)] : List (Int × Str × Int × Int))) 40) <| again13 ((out9 ++ ([(2, (cut text i12 i72), n73, i12)] : List (Int × Str × Int × Int))), i72)))
def scrutinyref12_Tokens_L5 (text : Str) (out9 : (List (Int × Str × Int × Int))) (i12 : Int) (again13 : ((List (Int × Str × Int × Int)) × Int) → Option ((List (Int × Str × Int × Int)) × Int × Int)) (r99 : (List Str)) (again107 : (Str × Int) → Option ((List (Int × Str × Int × Int)) × Int × Int)) : Str × Int → Option ((List (Int × Str × Int × Int)) × Int × Int) := fun ⟨s105, j106⟩ => letv (decide (j106 < (List.length r99 : Int))) fun b108 => letv (s105 == []) fun b110 => letv (b108 && b110) fun b112 => bif b112 then ( (idx r99 j106).bind fun e117 => letv (decide ((List.length e117 : Int) ≤ (IntKind.i64.wrap ((List.length text : Int) - i12)))) fun b119 => callG b119 [] (idx r99 j106) fun e121 => chkG b119 (cutB i12 (IntKind.i64.wrap (i12 + (List.length e121 : Int))) (List.length text)) <| callG b119 [] (idx r99 j106) fun e124 => letv ((cut text i12 (IntKind.i64.wrap (i12 + (List.length e121 : Int)))) == e124) fun b126 => letv (b119 && b126) fun b128 => bif b128 then ( (idx r99 j106).bind fun e131 => again107 (e131, (IntKind.i64.wrap (j106 + 1)))) else ( again107 (s105, (IntKind.i64.wrap (j106 + 1))))) else ( bif (s105 == []) then ( some ([], 2, i12)) else ( chk (roomB (List.length out9 + List.length ([(3, s105, 0, i12)] : List (Int × Str × Int × Int))) 40) <| again13 ((out9 ++ ([(3, s105, 0, i12)] : List (Int × Str × Int × Int))), (IntKind.i64.wrap (i12 + (List.length s105 : Int))))))
def scrutinyref12_Tokens_L1 (text : Str) (again13 : ((List (Int × Str × Int × Int)) × Int) → Option ((List (Int × Str × Int × Int)) × Int × Int)) : (List (Int × Str × Int × Int)) × Int → Option ((List (Int × Str × Int × Int)) × Int × Int) := fun ⟨out9, i12⟩ => bif (decide (i12 < (List.length text : Int))) then ( chk (inB i12 (List.length text)) <| (scrutinyref12_kind (byteAt text i12)).bind fun r16 => bif (r16 == 0) then ( again13 (out9, (IntKind.i64.wrap (i12 + 1)))) else ( chk (inB i12 (List.length text)) <| bif ((byteAt text i12) == 35) then ( fixN (scrutinyref12_Tokens_L2 text out9 again13) FUEL i12) else ( bif (r16 == 1) then ( fixN (scrutinyref12_Tokens_L3 text out9 i12 again13) FUEL i12) else ( bif (r16 == 2) then ( fixN (scrutinyref12_Tokens_L4 text out9 i12 again13) FUEL (i12, 0)) else ( (scrutinyref12_Signs).bind fun r99 => fixN (scrutinyref12_Tokens_L5 text out9 i12 again13 r99) FUEL ([], 0)))))) else ( chk (roomB (List.length out9 + List.length ([(4, [], 0, (List.length text : Int))] : List (Int × Str × Int × Int))) 40) <| some ((out9 ++ ([(4, [], 0, (List.length text : Int))] : List (Int × Str × Int × Int))), 0, 0))
def scrutinyref12_Tokens (text : Str) : Option ((List (Int × Str × Int × Int)) × Int × Int) := bif (decide (65536 < (List.length text : Int))) then ( some ([], 9, 0)) else ( fixN (scrutinyref12_Tokens_L1 text) FUEL ([], 0))
def scrutinyref14_look_is (kind : Int) (text : Str) (l : (List (Int × Str × Int × Int))) (at_ : Int) (_Names : (List Str)) (_Schema : (List (Int × Int))) (_Init : (List Int)) (_Procs : (List Str)) (_Cmd : (List (Int × Ex × (List (Int × Ex))))) (bad : Int) (_place : Int) : Option Bool := letv (bad == 0) fun b5 => callG b5 (0, [], 0, 0) (idx l at_) fun e7 => letv (e7.1 == kind) fun b9 => letv (b5 && b9) fun b11 => callG b11 (0, [], 0, 0) (idx l at_) fun e13 => letv (e13.2.1 == text) fun b15 => letv (b11 && b15) fun b17 => some b17
def scrutinyref13_Key_K1 (t4 : Bool) : Option Bool := bif t4 then ( some true) else ( some false)
def scrutinyref13_Key (name : Str) : Option Bool := bif (name == [116, 114, 117, 101]) then ( scrutinyref13_Key_K1 (name == [116, 114, 117, 101])) else ( bif (name == [102, 97, 108, 115, 101]) then ( scrutinyref13_Key_K1 (name == [102, 97, 108, 115, 101])) else ( bif (name == [88]) then ( scrutinyref13_Key_K1 (name == [88])) else ( bif (name == [70]) then ( scrutinyref13_Key_K1 (name == [70])) else ( bif (name == [71]) then ( scrutinyref13_Key_K1 (name == [71])) else ( bif (name == [85]) then ( scrutinyref13_Key_K1 (name == [85])) else ( bif (name == [82]) then ( scrutinyref13_Key_K1 (name == [82])) else ( bif (name == [118, 97, 114]) then ( scrutinyref13_Key_K1 (name == [118, 97, 114])) else ( scrutinyref13_Key_K1 (name == [112, 114, 111, 99])))))))))
def scrutinyref14_look_fail (bad : Int) (place : Int) (_l : (List (Int × Str × Int × Int))) (_at_ : Int) (_Names : (List Str)) (_Schema : (List (Int × Int))) (_Init : (List Int)) (_Procs : (List Str)) (_Cmd : (List (Int × Ex × (List (Int × Ex))))) (bad19 : Int) (place20 : Int) : Option (Int × Int) := bif (bad19 == 0) then ( some (bad, place)) else ( some (bad19, place20))
def scrutinyref14_index_s2_L1 (l : (List Str)) (name : Str) (again5 : Int → Option Int) (i4 : Int) : Option Int := bif (decide (i4 < (List.length l : Int))) then ( (idx l i4).bind fun e7 => bif (e7 == name) then ( some i4) else ( again5 (IntKind.i64.wrap (i4 + 1)))) else ( some (-1))
def scrutinyref14_index_s2 (l : (List Str)) (name : Str) : Option Int := fixN (scrutinyref14_index_s2_L1 l name) FUEL 0
def scrutinyref14_look_name (full : Bool) (l : (List (Int × Str × Int × Int))) (at_ : Int) (Names : (List Str)) (Schema : (List (Int × Int))) (Init : (List Int)) (Procs : (List Str)) (Cmd : (List (Int × Ex × (List (Int × Ex))))) (bad : Int) (place : Int) : Option (Str × Int × Int × Int) := (idx l at_).bind fun e8 => (scrutinyref13_Key e8.2.1).bind fun r13 => bif (e8.1 != 1) then ( (scrutinyref14_look_fail 2 e8.2.2.2 l at_ Names Schema Init Procs Cmd bad place).bind fun r17 => some (e8.2.1, at_, r17.1, r17.2)) else ( callG (!r13) default (scrutinyref14_index_s2 Names e8.2.1) fun r22 => letv (decide (0 ≤ r22)) fun b28 => letv (r13 || b28) fun b30 => callG (!b30) default (scrutinyref14_index_s2 Procs e8.2.1) fun r32 => letv (decide (0 ≤ r32)) fun b38 => letv (b30 || b38) fun b40 => bif b40 then ( (scrutinyref14_look_fail 3 e8.2.2.2 l at_ Names Schema Init Procs Cmd bad place).bind fun r43 => some (e8.2.1, at_, r43.1, r43.2)) else ( bif full then ( (scrutinyref14_look_fail 9 e8.2.2.2 l at_ Names Schema Init Procs Cmd bad place).bind fun r47 => some (e8.2.1, at_, r47.1, r47.2)) else ( bif (bad == 0) then ( some (e8.2.1, (IntKind.i64.wrap (at_ + 1)), bad, place)) else ( some (e8.2.1, at_, bad, place)))))
def scrutinyref14_look_here (l : (List (Int × Str × Int × Int))) (at_ : Int) (_Names : (List Str)) (_Schema : (List (Int × Int))) (_Init : (List Int)) (_Procs : (List Str)) (_Cmd : (List (Int × Ex × (List (Int × Ex))))) (_bad : Int) (_place : Int) : Option Int := (idx l at_).bind fun e5 => some e5.2.2.2
def scrutinyref14_look_sign (text : Str) (l : (List (Int × Str × Int × Int))) (at_ : Int) (Names : (List Str)) (Schema : (List (Int × Int))) (Init : (List Int)) (Procs : (List Str)) (Cmd : (List (Int × Ex × (List (Int × Ex))))) (bad : Int) (place : Int) : Option (Int × Int × Int) := (scrutinyref14_look_is 3 text l at_ Names Schema Init Procs Cmd bad place).bind fun r5 => bif (!r5) then ( (scrutinyref14_look_here l at_ Names Schema Init Procs Cmd bad place).bind fun r9 => (scrutinyref14_look_fail 2 r9 l at_ Names Schema Init Procs Cmd bad place).bind fun r12 => some (at_, r12.1, r12.2)) else ( some ((IntKind.i64.wrap (at_ + 1)), bad, place))
def scrutinyref13_counts (strength : Int) : Option Bool := letv (strength == 1) fun b3 => letv (strength == 2) fun b5 => letv (b3 || b5) fun b7 => letv (strength == 5) fun b9 => letv (b7 || b9) fun b11 => letv (strength == 6) fun b13 => letv (b11 || b13) fun b15 => letv (strength == 10) fun b17 => letv (b15 || b17) fun b19 => some b19
def scrutinyref13_look_fail_s3 (bad : Int) (l : (List (Int × Str × Int × Int))) (at_ : Int) (_names : (List Str)) (bad7 : Int) (place : Int) : Option (Ex × Int × Int) := bif (bad7 == 0) then ( (idx l at_).bind fun e13 => some ((Ex.mk 0 0 0 []), bad, e13.2.2.2)) else ( some ((Ex.mk 0 0 0 []), bad7, place))
def scrutinyref13_look_one_s3_L1 (l : (List (Int × Str × Int × Int))) (at_ : Int) (names : (List Str)) (bad : Int) (place : Int) (e12 : (Int × Str × Int × Int)) (again50 : Int → Option (Ex × Int × Int × Int)) (i49 : Int) : Option (Ex × Int × Int × Int) := bif (decide (i49 < (List.length names : Int))) then ( (idx names i49).bind fun e54 => bif (e54 == e12.2.1) then ( some ((Ex.mk 2 i49 e12.2.2.2 []), (IntKind.i64.wrap (at_ + 1)), bad, place)) else ( again50 (IntKind.i64.wrap (i49 + 1)))) else ( (scrutinyref13_look_fail_s3 3 l at_ names bad place).bind fun r59 => some (r59.1, at_, r59.2.1, r59.2.2))
def scrutinyref13_look_one_s3 (k_scrutinyref13_look_line_s3 : (Int × Int × (List (Int × Str × Int × Int)) × Int × (List Str) × Int × Int) → Option (Ex × Int × Int × Int)) (deep : Int) (l : (List (Int × Str × Int × Int))) (at_ : Int) (names : (List Str)) (bad : Int) (place : Int) : Option (Ex × Int × Int × Int) := (idx l at_).bind fun e12 => bif (e12.1 == 2) then ( some ((Ex.mk 1 e12.2.2.1 e12.2.2.2 []), (IntKind.i64.wrap (at_ + 1)), bad, place)) else ( letv (e12.1 == 1) fun b20 => letv (e12.2.1 == [116, 114, 117, 101]) fun b22 => letv (b20 && b22) fun b24 => bif b24 then ( some ((Ex.mk 13 0 e12.2.2.2 []), (IntKind.i64.wrap (at_ + 1)), bad, place)) else ( letv (e12.1 == 1) fun b29 => letv (e12.2.1 == [102, 97, 108, 115, 101]) fun b31 => letv (b29 && b31) fun b33 => bif b33 then ( some ((Ex.mk 14 0 e12.2.2.2 []), (IntKind.i64.wrap (at_ + 1)), bad, place)) else ( (scrutinyref13_Key e12.2.1).bind fun r38 => letv (e12.1 == 1) fun b41 => letv (!r38) fun b43 => letv (b41 && b43) fun b45 => bif b45 then ( fixN (scrutinyref13_look_one_s3_L1 l at_ names bad place e12) FUEL 0) else ( letv (e12.1 != 3) fun b65 => letv (e12.2.1 != [40]) fun b67 => letv (b65 || b67) fun b69 => bif b69 then ( (scrutinyref13_look_fail_s3 2 l at_ names bad place).bind fun r72 => some (r72.1, at_, r72.2.1, r72.2.2)) else ( (k_scrutinyref13_look_line_s3 (1, deep, l, (IntKind.i64.wrap (at_ + 1)), names, bad, place)).bind fun r79 => bif (r79.2.2.1 != 0) then ( some ((Ex.mk 0 0 0 []), r79.2.1, r79.2.2.1, r79.2.2.2)) else ( (idx l r79.2.1).bind fun e91 => letv (e91.1 != 3) fun b93 => callG (!b93) (0, [], 0, 0) (idx l r79.2.1) fun e95 => letv (e95.2.1 != [41]) fun b97 => letv (b93 || b97) fun b99 => bif b99 then ( (scrutinyref13_look_fail_s3 2 l r79.2.1 names r79.2.2.1 r79.2.2.2).bind fun r102 => some (r102.1, r79.2.1, r102.2.1, r102.2.2)) else ( some (r79.1, (IntKind.i64.wrap (r79.2.1 + 1)), r79.2.2.1, r79.2.2.2))))))))
def scrutinyref13_op_L1 (t : (Int × Str × Int × Int)) (again28 : Int → Option Int) (i27 : Int) : Option Int := bif (decide (i27 < 6)) then ( (idx ([[61, 61], [33, 61], [60], [60, 61], [62], [62, 61]] : List Str) i27).bind fun e30 => bif (t.2.1 == e30) then ( some (IntKind.i64.wrap (7 + i27))) else ( again28 (IntKind.i64.wrap (i27 + 1)))) else ( some 0)
def scrutinyref13_op (t : (Int × Str × Int × Int)) (strength : Int) : Option Int := letv (t.1 != 2) fun b5 => letv (t.1 != 4) fun b7 => letv (b5 && b7) fun b9 => bif b9 then ( bif (strength == 1) then ( bif (t.2.1 == [60, 45, 62]) then ( some 19) else ( some 0)) else ( bif (strength == 2) then ( bif (t.2.1 == [45, 62]) then ( some 18) else ( some 0)) else ( bif (strength == 3) then ( bif (t.2.1 == [124]) then ( some 17) else ( some 0)) else ( bif (strength == 4) then ( bif (t.2.1 == [38]) then ( some 16) else ( some 0)) else ( bif (strength == 5) then ( bif (t.2.1 == [85]) then ( some 23) else ( bif (t.2.1 == [82]) then ( some 24) else ( some 0))) else ( bif (strength == 7) then ( fixN (scrutinyref13_op_L1 t) FUEL 0) else ( bif (strength == 8) then ( bif (t.2.1 == [43]) then ( some 3) else ( bif (t.2.1 == [45]) then ( some 4) else ( some 0))) else ( bif (strength == 9) then ( bif (t.2.1 == [42]) then ( some 5) else ( some 0)) else ( some 0))))))))) else ( some 0)
def scrutinyref13_look_line_s3_K5 (k_scrutinyref13_look_line_s3 : (Int × Int × (List (Int × Str × Int × Int)) × Int × (List Str) × Int × Int) → Option (Ex × Int × Int × Int)) (l : (List (Int × Str × Int × Int))) (at_ : Int) (names : (List Str)) (bad : Int) (place : Int) (deep16 : Int) (e30 : (Int × Str × Int × Int)) (k43 : Int) : Option (Ex × Int × Int × Int) := bif (k43 == 0) then ( (k_scrutinyref13_look_line_s3 (7, deep16, l, at_, names, bad, place)).bind fun r45 => some (r45.1, r45.2.1, r45.2.2.1, r45.2.2.2)) else ( (k_scrutinyref13_look_line_s3 (6, deep16, l, (IntKind.i64.wrap (at_ + 1)), names, bad, place)).bind fun r52 => some ((Ex.mk k43 0 e30.2.2.2 ([r52.1] : List Ex)), r52.2.1, r52.2.2.1, r52.2.2.2))
def scrutinyref13_look_line_s3_K4 (k_scrutinyref13_look_line_s3 : (Int × Int × (List (Int × Str × Int × Int)) × Int × (List Str) × Int × Int) → Option (Ex × Int × Int × Int)) (l : (List (Int × Str × Int × Int))) (at_ : Int) (names : (List Str)) (bad : Int) (place : Int) (deep16 : Int) (e30 : (Int × Str × Int × Int)) (k41 : Int) : Option (Ex × Int × Int × Int) := letv (e30.1 == 1) fun b63 => letv (e30.2.1 == [71]) fun b65 => letv (b63 && b65) fun b67 => bif b67 then ( scrutinyref13_look_line_s3_K5 k_scrutinyref13_look_line_s3 l at_ names bad place deep16 e30 22) else ( scrutinyref13_look_line_s3_K5 k_scrutinyref13_look_line_s3 l at_ names bad place deep16 e30 k41)
def scrutinyref13_look_line_s3_K3 (k_scrutinyref13_look_line_s3 : (Int × Int × (List (Int × Str × Int × Int)) × Int × (List Str) × Int × Int) → Option (Ex × Int × Int × Int)) (l : (List (Int × Str × Int × Int))) (at_ : Int) (names : (List Str)) (bad : Int) (place : Int) (deep16 : Int) (e30 : (Int × Str × Int × Int)) (k39 : Int) : Option (Ex × Int × Int × Int) := letv (e30.1 == 1) fun b70 => letv (e30.2.1 == [70]) fun b72 => letv (b70 && b72) fun b74 => bif b74 then ( scrutinyref13_look_line_s3_K4 k_scrutinyref13_look_line_s3 l at_ names bad place deep16 e30 21) else ( scrutinyref13_look_line_s3_K4 k_scrutinyref13_look_line_s3 l at_ names bad place deep16 e30 k39)
def scrutinyref13_look_line_s3_K2 (k_scrutinyref13_look_line_s3 : (Int × Int × (List (Int × Str × Int × Int)) × Int × (List Str) × Int × Int) → Option (Ex × Int × Int × Int)) (l : (List (Int × Str × Int × Int))) (at_ : Int) (names : (List Str)) (bad : Int) (place : Int) (deep16 : Int) (e30 : (Int × Str × Int × Int)) (k37 : Int) : Option (Ex × Int × Int × Int) := letv (e30.1 == 1) fun b77 => letv (e30.2.1 == [88]) fun b79 => letv (b77 && b79) fun b81 => bif b81 then ( scrutinyref13_look_line_s3_K3 k_scrutinyref13_look_line_s3 l at_ names bad place deep16 e30 20) else ( scrutinyref13_look_line_s3_K3 k_scrutinyref13_look_line_s3 l at_ names bad place deep16 e30 k37)
def scrutinyref13_look_line_s3_L6 (k_scrutinyref13_look_line_s3 : (Int × Int × (List (Int × Str × Int × Int)) × Int × (List Str) × Int × Int) → Option (Ex × Int × Int × Int)) (strength : Int) (l : (List (Int × Str × Int × Int))) (names : (List Str)) (deep16 : Int) (again135 : (Int × Int × Int × Int × Int × Int × (List Ex)) → Option (Ex × Int × Int × Int)) : Int × Int × Int × Int × Int × Int × (List Ex) → Option (Ex × Int × Int × Int) := fun ⟨c126, c127, c128, c129, c130, c131, c132⟩ => bif (c127 == 0) then ( (idx l c126).bind fun e139 => (scrutinyref13_op e139 strength).bind fun r144 => bif (r144 == 0) then ( some ((Ex.mk c129 c130 c131 c132), c126, c127, c128)) else ( letv (strength == 1) fun b150 => letv (strength == 2) fun b152 => letv (b150 || b152) fun b154 => letv (strength == 5) fun b156 => letv (b154 || b156) fun b158 => bif b158 then ( (k_scrutinyref13_look_line_s3 (strength, deep16, l, (IntKind.i64.wrap (c126 + 1)), names, c127, c128)).bind fun r161 => some ((Ex.mk r144 0 e139.2.2.2 ([(Ex.mk c129 c130 c131 c132), r161.1] : List Ex)), r161.2.1, r161.2.2.1, r161.2.2.2)) else ( (k_scrutinyref13_look_line_s3 ((IntKind.i64.wrap (strength + 1)), deep16, l, (IntKind.i64.wrap (c126 + 1)), names, c127, c128)).bind fun r172 => bif (strength == 7) then ( some ((Ex.mk r144 0 e139.2.2.2 ([(Ex.mk c129 c130 c131 c132), r172.1] : List Ex)), r172.2.1, r172.2.2.1, r172.2.2.2)) else ( again135 (r172.2.1, r172.2.2.1, r172.2.2.2, r144, 0, e139.2.2.2, ([(Ex.mk c129 c130 c131 c132), r172.1] : List Ex)))))) else ( some ((Ex.mk c129 c130 c131 c132), c126, c127, c128))
def scrutinyref13_look_line_s3_K1 (k_scrutinyref13_look_line_s3 : (Int × Int × (List (Int × Str × Int × Int)) × Int × (List Str) × Int × Int) → Option (Ex × Int × Int × Int)) (strength : Int) (l : (List (Int × Str × Int × Int))) (at_ : Int) (names : (List Str)) (bad : Int) (place : Int) (r12 : Bool) (deep16 : Int) : Option (Ex × Int × Int × Int) := letv (decide (320 < deep16)) fun b17 => letv (r12 && b17) fun b19 => bif b19 then ( (scrutinyref13_look_fail_s3 9 l at_ names bad place).bind fun r22 => some (r22.1, at_, r22.2.1, r22.2.2)) else ( (idx l at_).bind fun e30 => bif (strength == 6) then ( letv (e30.1 == 3) fun b84 => letv (e30.2.1 == [33]) fun b86 => letv (b84 && b86) fun b88 => bif b88 then ( scrutinyref13_look_line_s3_K2 k_scrutinyref13_look_line_s3 l at_ names bad place deep16 e30 15) else ( scrutinyref13_look_line_s3_K2 k_scrutinyref13_look_line_s3 l at_ names bad place deep16 e30 0)) else ( bif (strength == 10) then ( letv (e30.1 != 3) fun b92 => letv (e30.2.1 != [45]) fun b94 => letv (b92 || b94) fun b96 => bif b96 then ( (scrutinyref13_look_one_s3 k_scrutinyref13_look_line_s3 deep16 l at_ names bad place).bind fun r99 => some (r99.1, r99.2.1, r99.2.2.1, r99.2.2.2)) else ( (k_scrutinyref13_look_line_s3 (10, deep16, l, (IntKind.i64.wrap (at_ + 1)), names, bad, place)).bind fun r106 => some ((Ex.mk 6 0 e30.2.2.2 ([r106.1] : List Ex)), r106.2.1, r106.2.2.1, r106.2.2.2))) else ( (k_scrutinyref13_look_line_s3 ((IntKind.i64.wrap (strength + 1)), deep16, l, at_, names, bad, place)).bind fun r117 => fixN (scrutinyref13_look_line_s3_L6 k_scrutinyref13_look_line_s3 strength l names deep16) FUEL (r117.2.1, r117.2.2.1, r117.2.2.2, r117.1.op, r117.1.n, r117.1.at_, r117.1.l))))
def scrutinyref13_look_line_s3_F (k_scrutinyref13_look_line_s3 : (Int × Int × (List (Int × Str × Int × Int)) × Int × (List Str) × Int × Int) → Option (Ex × Int × Int × Int)) (strength : Int) (deep : Int) (l : (List (Int × Str × Int × Int))) (at_ : Int) (names : (List Str)) (bad : Int) (place : Int) : Option (Ex × Int × Int × Int) := bif (bad != 0) then ( some ((Ex.mk 0 0 0 []), at_, bad, place)) else ( (scrutinyref13_counts strength).bind fun r12 => bif r12 then ( scrutinyref13_look_line_s3_K1 k_scrutinyref13_look_line_s3 strength l at_ names bad place r12 (IntKind.i64.wrap (deep + 1))) else ( scrutinyref13_look_line_s3_K1 k_scrutinyref13_look_line_s3 strength l at_ names bad place r12 deep))
def scrutinyref13_look_line_s3 (strength : Int) (deep : Int) (l : (List (Int × Str × Int × Int))) (at_ : Int) (names : (List Str)) (bad : Int) (place : Int) : Option (Ex × Int × Int × Int) :=
 fixN (fun k (s : (Int × Int × (List (Int × Str × Int × Int)) × Int × (List Str) × Int × Int)) => scrutinyref13_look_line_s3_F k s.1 s.2.1 s.2.2.1 s.2.2.2.1 s.2.2.2.2.1 s.2.2.2.2.2.1 s.2.2.2.2.2.2) FUEL (strength, deep, l, at_, names, bad, place)
def scrutinyref13_Parse_s3 (l : (List (Int × Str × Int × Int))) (at_ : Int) (names : (List Str)) : Option (Ex × Int × Int × Int) := (scrutinyref13_look_line_s3 1 0 l at_ names 0 0).bind fun r14 => bif (r14.2.2.1 != 0) then ( some ((Ex.mk 0 0 0 []), 0, r14.2.2.1, r14.2.2.2)) else ( some (r14.1, r14.2.1, 0, 0))
def scrutinyref13_Type_K3 (times10 : Int) (i11 : Int) (again12 : (Int × Int × Int × Int) → Option (Int × Int × Int)) (r20 : (Int × Int × Int)) (ints25 : Int) (bools27 : Int) : Option (Int × Int × Int) := bif (r20.1 == 3) then ( again12 (ints25, bools27, (IntKind.i64.wrap (times10 + 1)), (IntKind.i64.wrap (i11 + 1)))) else ( again12 (ints25, bools27, times10, (IntKind.i64.wrap (i11 + 1))))
def scrutinyref13_Type_K2 (bools9 : Int) (times10 : Int) (i11 : Int) (again12 : (Int × Int × Int × Int) → Option (Int × Int × Int)) (r20 : (Int × Int × Int)) (ints25 : Int) : Option (Int × Int × Int) := bif (r20.1 == 2) then ( scrutinyref13_Type_K3 times10 i11 again12 r20 ints25 (IntKind.i64.wrap (bools9 + 1))) else ( scrutinyref13_Type_K3 times10 i11 again12 r20 ints25 bools9)
def scrutinyref13_Type_L1 (k_scrutinyref13_Type : Ex → Option (Int × Int × Int)) (e : Ex) (again12 : (Int × Int × Int × Int) → Option (Int × Int × Int)) : Int × Int × Int × Int → Option (Int × Int × Int) := fun ⟨ints8, bools9, times10, i11⟩ => bif (decide (i11 < (List.length e.l : Int))) then ( (idx e.l i11).bind fun e14 => (k_scrutinyref13_Type e14).bind fun r20 => bif (r20.2.1 != 0) then ( some (0, r20.2.1, r20.2.2)) else ( bif (r20.1 == 1) then ( scrutinyref13_Type_K2 bools9 times10 i11 again12 r20 (IntKind.i64.wrap (ints8 + 1))) else ( scrutinyref13_Type_K2 bools9 times10 i11 again12 r20 ints8))) else ( letv (decide (e.op ≤ 6)) fun b31 => letv (ints8 == (List.length e.l : Int)) fun b33 => letv (b31 && b33) fun b35 => bif b35 then ( some (1, 0, 0)) else ( letv (decide (7 ≤ e.op)) fun b38 => letv (decide (e.op ≤ 12)) fun b40 => letv (b38 && b40) fun b42 => letv (ints8 == (List.length e.l : Int)) fun b44 => letv (b42 && b44) fun b46 => letv (e.op == 13) fun b48 => letv (b46 || b48) fun b50 => letv (e.op == 14) fun b52 => letv (b50 || b52) fun b54 => bif b54 then ( some (2, 0, 0)) else ( letv (decide (15 ≤ e.op)) fun b57 => letv (decide (e.op ≤ 19)) fun b59 => letv (b57 && b59) fun b61 => letv (bools9 == (List.length e.l : Int)) fun b63 => letv (b61 && b63) fun b65 => bif b65 then ( some (2, 0, 0)) else ( letv (decide (15 ≤ e.op)) fun b68 => letv ((IntKind.i64.wrap (bools9 + times10)) == (List.length e.l : Int)) fun b70 => letv (b68 && b70) fun b72 => bif b72 then ( some (3, 0, 0)) else ( some (0, 4, e.at_))))))
def scrutinyref13_Type_F (k_scrutinyref13_Type : Ex → Option (Int × Int × Int)) (e : Ex) : Option (Int × Int × Int) := fixN (scrutinyref13_Type_L1 k_scrutinyref13_Type e) FUEL (0, 0, 0, 0)
def scrutinyref13_Type (e : Ex) : Option (Int × Int × Int) :=
 fixN (fun k (s : Ex) => scrutinyref13_Type_F k s) FUEL e
def scrutinyref13_Type_s2_K3 (times10 : Int) (i11 : Int) (again12 : (Int × Int × Int × Int) → Option (Int × Int × Int)) (r20 : (Int × Int × Int)) (ints25 : Int) (bools27 : Int) : Option (Int × Int × Int) := bif (r20.1 == 3) then ( again12 (ints25, bools27, (IntKind.i64.wrap (times10 + 1)), (IntKind.i64.wrap (i11 + 1)))) else ( again12 (ints25, bools27, times10, (IntKind.i64.wrap (i11 + 1))))
def scrutinyref13_Type_s2_K2 (bools9 : Int) (times10 : Int) (i11 : Int) (again12 : (Int × Int × Int × Int) → Option (Int × Int × Int)) (r20 : (Int × Int × Int)) (ints25 : Int) : Option (Int × Int × Int) := bif (r20.1 == 2) then ( scrutinyref13_Type_s2_K3 times10 i11 again12 r20 ints25 (IntKind.i64.wrap (bools9 + 1))) else ( scrutinyref13_Type_s2_K3 times10 i11 again12 r20 ints25 bools9)
def scrutinyref13_Type_s2_L1 (e : Ex) (again12 : (Int × Int × Int × Int) → Option (Int × Int × Int)) : Int × Int × Int × Int → Option (Int × Int × Int) := fun ⟨ints8, bools9, times10, i11⟩ => bif (decide (i11 < (List.length e.l : Int))) then ( (idx e.l i11).bind fun e14 => (scrutinyref13_Type e14).bind fun r20 => bif (r20.2.1 != 0) then ( some (0, r20.2.1, r20.2.2)) else ( bif (r20.1 == 1) then ( scrutinyref13_Type_s2_K2 bools9 times10 i11 again12 r20 (IntKind.i64.wrap (ints8 + 1))) else ( scrutinyref13_Type_s2_K2 bools9 times10 i11 again12 r20 ints8))) else ( letv (decide (e.op ≤ 6)) fun b31 => letv (ints8 == (List.length e.l : Int)) fun b33 => letv (b31 && b33) fun b35 => bif b35 then ( some (1, 0, 0)) else ( letv (decide (7 ≤ e.op)) fun b38 => letv (decide (e.op ≤ 12)) fun b40 => letv (b38 && b40) fun b42 => letv (ints8 == (List.length e.l : Int)) fun b44 => letv (b42 && b44) fun b46 => letv (e.op == 13) fun b48 => letv (b46 || b48) fun b50 => letv (e.op == 14) fun b52 => letv (b50 || b52) fun b54 => bif b54 then ( some (2, 0, 0)) else ( letv (decide (15 ≤ e.op)) fun b57 => letv (decide (e.op ≤ 19)) fun b59 => letv (b57 && b59) fun b61 => letv (bools9 == (List.length e.l : Int)) fun b63 => letv (b61 && b63) fun b65 => bif b65 then ( some (2, 0, 0)) else ( letv (decide (15 ≤ e.op)) fun b68 => letv ((IntKind.i64.wrap (bools9 + times10)) == (List.length e.l : Int)) fun b70 => letv (b68 && b70) fun b72 => bif b72 then ( some (3, 0, 0)) else ( some (0, 4, e.at_))))))
def scrutinyref13_Type_s2 (e : Ex) : Option (Int × Int × Int) := fixN (scrutinyref13_Type_s2_L1 e) FUEL (0, 0, 0, 0)
def scrutinyref14_look_expression_K1 (r14 : (Ex × Int × Int × Int)) (c32 : Int) (c33 : Int) : Option (Ex × Int × Int × Int) := some (r14.1, r14.2.1, c32, c33)
def scrutinyref14_look_expression (want : Int) (l : (List (Int × Str × Int × Int))) (at_ : Int) (Names : (List Str)) (Schema : (List (Int × Int))) (Init : (List Int)) (Procs : (List Str)) (Cmd : (List (Int × Ex × (List (Int × Ex))))) (bad : Int) (place : Int) : Option (Ex × Int × Int × Int) := bif (bad != 0) then ( some ((Ex.mk 0 0 0 []), at_, bad, place)) else ( (scrutinyref13_Parse_s3 l at_ Names).bind fun r14 => bif (r14.2.2.1 != 0) then ( (scrutinyref14_look_fail r14.2.2.1 r14.2.2.2 l at_ Names Schema Init Procs Cmd bad place).bind fun r24 => some ((Ex.mk 0 0 0 []), at_, r24.1, r24.2)) else ( (scrutinyref13_Type_s2 r14.1).bind fun r28 => bif (r28.2.1 != 0) then ( (scrutinyref14_look_fail r28.2.1 r28.2.2 l at_ Names Schema Init Procs Cmd bad place).bind fun r37 => scrutinyref14_look_expression_K1 r14 r37.1 r37.2) else ( bif (r28.1 != want) then ( (scrutinyref14_look_fail 4 r14.1.at_ l at_ Names Schema Init Procs Cmd bad place).bind fun r41 => scrutinyref14_look_expression_K1 r14 r41.1 r41.2) else ( scrutinyref14_look_expression_K1 r14 bad place))))
def scrutinyref14_look_command_K5 (l : (List (Int × Str × Int × Int))) (Names : (List Str)) (Schema : (List (Int × Int))) (Init : (List Int)) (Procs : (List Str)) (Cmd : (List (Int × Ex × (List (Int × Ex))))) (l28 : (List (Int × Ex))) (again32 : (Int × Int × Int × (List (Int × Ex)) × Bool) → Option (Int × (List (Int × Ex × (List (Int × Ex)))) × Int × Int)) (r47 : Int) (c66 : Int) (c67 : Int) (c69 : Int) : Option (Int × (List (Int × Ex × (List (Int × Ex)))) × Int × Int) := (scrutinyref14_look_sign [61] l c69 Names Schema Init Procs Cmd c66 c67).bind fun r70 => (scrutinyref14_look_expression 1 l r70.1 Names Schema Init Procs Cmd r70.2.1 r70.2.2).bind fun r73 => chk (roomB (List.length l28 + List.length ([(r47, r73.1)] : List (Int × Ex))) 56) <| (scrutinyref14_look_is 3 [44] l r73.2.1 Names Schema Init Procs Cmd r73.2.2.1 r73.2.2.2).bind fun r88 => bif r88 then ( again32 ((IntKind.i64.wrap (r73.2.1 + 1)), r73.2.2.1, r73.2.2.2, (l28 ++ ([(r47, r73.1)] : List (Int × Ex))), r88)) else ( again32 (r73.2.1, r73.2.2.1, r73.2.2.2, (l28 ++ ([(r47, r73.1)] : List (Int × Ex))), r88))
def scrutinyref14_look_command_K4 (l : (List (Int × Str × Int × Int))) (Names : (List Str)) (Schema : (List (Int × Int))) (Init : (List Int)) (Procs : (List Str)) (Cmd : (List (Int × Ex × (List (Int × Ex))))) (c25 : Int) (l28 : (List (Int × Ex))) (again32 : (Int × Int × Int × (List (Int × Ex)) × Bool) → Option (Int × (List (Int × Ex × (List (Int × Ex)))) × Int × Int)) (r47 : Int) (c66 : Int) (c67 : Int) : Option (Int × (List (Int × Ex × (List (Int × Ex)))) × Int × Int) := bif (c66 == 0) then ( scrutinyref14_look_command_K5 l Names Schema Init Procs Cmd l28 again32 r47 c66 c67 (IntKind.i64.wrap (c25 + 1))) else ( scrutinyref14_look_command_K5 l Names Schema Init Procs Cmd l28 again32 r47 c66 c67 c25)
def scrutinyref14_look_command_L3 (l : (List (Int × Str × Int × Int))) (Names : (List Str)) (Schema : (List (Int × Int))) (Init : (List Int)) (Procs : (List Str)) (Cmd : (List (Int × Ex × (List (Int × Ex))))) (c25 : Int) (c26 : Int) (c27 : Int) (l28 : (List (Int × Ex))) (again32 : (Int × Int × Int × (List (Int × Ex)) × Bool) → Option (Int × (List (Int × Ex × (List (Int × Ex)))) × Int × Int)) (e40 : (Int × Str × Int × Int)) (r47 : Int) (again53 : (Bool × Int) → Option (Int × (List (Int × Ex × (List (Int × Ex)))) × Int × Int)) : Bool × Int → Option (Int × (List (Int × Ex × (List (Int × Ex)))) × Int × Int) := fun ⟨twice51, k52⟩ => bif (decide (k52 < (List.length l28 : Int))) then ( callG (!twice51) (0, (Ex.mk 0 0 0 [])) (idx l28 k52) fun e55 => letv (e55.1 == r47) fun b61 => letv (twice51 || b61) fun b63 => again53 (b63, (IntKind.i64.wrap (k52 + 1)))) else ( bif (e40.1 != 1) then ( (scrutinyref14_look_fail 2 e40.2.2.2 l c25 Names Schema Init Procs Cmd c26 c27).bind fun r96 => scrutinyref14_look_command_K4 l Names Schema Init Procs Cmd c25 l28 again32 r47 r96.1 r96.2) else ( letv (decide (r47 < 0)) fun b99 => letv (b99 || twice51) fun b101 => bif b101 then ( (scrutinyref14_look_fail 3 e40.2.2.2 l c25 Names Schema Init Procs Cmd c26 c27).bind fun r104 => scrutinyref14_look_command_K4 l Names Schema Init Procs Cmd c25 l28 again32 r47 r104.1 r104.2) else ( scrutinyref14_look_command_K4 l Names Schema Init Procs Cmd c25 l28 again32 r47 c26 c27)))
def scrutinyref14_look_command_L2 (l : (List (Int × Str × Int × Int))) (Names : (List Str)) (Schema : (List (Int × Int))) (Init : (List Int)) (Procs : (List Str)) (Cmd : (List (Int × Ex × (List (Int × Ex))))) (r15 : (Ex × Int × Int × Int)) (again32 : (Int × Int × Int × (List (Int × Ex)) × Bool) → Option (Int × (List (Int × Ex × (List (Int × Ex)))) × Int × Int)) : Int × Int × Int × (List (Int × Ex)) × Bool → Option (Int × (List (Int × Ex × (List (Int × Ex)))) × Int × Int) := fun ⟨c25, c26, c27, l28, more31⟩ => letv (c26 == 0) fun b33 => letv (more31 && b33) fun b35 => bif b35 then ( (idx l c25).bind fun e40 => (scrutinyref14_index_s2 Names e40.2.1).bind fun r47 => fixN (scrutinyref14_look_command_L3 l Names Schema Init Procs Cmd c25 c26 c27 l28 again32 e40 r47) FUEL (false, 0)) else ( (scrutinyref14_look_sign [59] l c25 Names Schema Init Procs Cmd c26 c27).bind fun r107 => chk (roomB (List.length Cmd + List.length ([((IntKind.i64.wrap ((List.length Procs : Int) - 1)), r15.1, l28)] : List (Int × Ex × (List (Int × Ex))))) 80) <| some (r107.1, (Cmd ++ ([((IntKind.i64.wrap ((List.length Procs : Int) - 1)), r15.1, l28)] : List (Int × Ex × (List (Int × Ex))))), r107.2.1, r107.2.2))
def scrutinyref14_look_command_K1 (l : (List (Int × Str × Int × Int))) (at_ : Int) (Names : (List Str)) (Schema : (List (Int × Int))) (Init : (List Int)) (Procs : (List Str)) (Cmd : (List (Int × Ex × (List (Int × Ex))))) (c10 : Int) (c11 : Int) : Option (Int × (List (Int × Ex × (List (Int × Ex)))) × Int × Int) := (scrutinyref14_look_expression 2 l at_ Names Schema Init Procs Cmd c10 c11).bind fun r15 => (scrutinyref14_look_sign [58] l r15.2.1 Names Schema Init Procs Cmd r15.2.2.1 r15.2.2.2).bind fun r21 => fixN (scrutinyref14_look_command_L2 l Names Schema Init Procs Cmd r15) FUEL (r21.1, r21.2.1, r21.2.2, [], true)
def scrutinyref14_look_command (l : (List (Int × Str × Int × Int))) (at_ : Int) (Names : (List Str)) (Schema : (List (Int × Int))) (Init : (List Int)) (Procs : (List Str)) (Cmd : (List (Int × Ex × (List (Int × Ex))))) (bad : Int) (place : Int) : Option (Int × (List (Int × Ex × (List (Int × Ex)))) × Int × Int) := bif (decide (256 ≤ (List.length Cmd : Int))) then ( (scrutinyref14_look_here l at_ Names Schema Init Procs Cmd bad place).bind fun r120 => (scrutinyref14_look_fail 9 r120 l at_ Names Schema Init Procs Cmd bad place).bind fun r123 => scrutinyref14_look_command_K1 l at_ Names Schema Init Procs Cmd r123.1 r123.2) else ( scrutinyref14_look_command_K1 l at_ Names Schema Init Procs Cmd bad place)
def scrutinyref14_look_number_K2 (r6 : Bool) (c10 : Int) (e13 : (Int × Str × Int × Int)) (c19 : Int) (c20 : Int) : Option (Int × Int × Int × Int) := bif (c19 != 0) then ( some (0, c10, c19, c20)) else ( bif r6 then ( some ((IntKind.i64.wrap (0 - e13.2.2.1)), (IntKind.i64.wrap (c10 + 1)), c19, c20)) else ( some (e13.2.2.1, (IntKind.i64.wrap (c10 + 1)), c19, c20)))
def scrutinyref14_look_number_K1 (l : (List (Int × Str × Int × Int))) (Names : (List Str)) (Schema : (List (Int × Int))) (Init : (List Int)) (Procs : (List Str)) (Cmd : (List (Int × Ex × (List (Int × Ex))))) (bad : Int) (place : Int) (r6 : Bool) (c10 : Int) : Option (Int × Int × Int × Int) := (idx l c10).bind fun e13 => bif (e13.1 != 2) then ( (scrutinyref14_look_fail 2 e13.2.2.2 l c10 Names Schema Init Procs Cmd bad place).bind fun r25 => scrutinyref14_look_number_K2 r6 c10 e13 r25.1 r25.2) else ( scrutinyref14_look_number_K2 r6 c10 e13 bad place)
def scrutinyref14_look_number (l : (List (Int × Str × Int × Int))) (at_ : Int) (Names : (List Str)) (Schema : (List (Int × Int))) (Init : (List Int)) (Procs : (List Str)) (Cmd : (List (Int × Ex × (List (Int × Ex))))) (bad : Int) (place : Int) : Option (Int × Int × Int × Int) := (scrutinyref14_look_is 3 [45] l at_ Names Schema Init Procs Cmd bad place).bind fun r6 => bif r6 then ( scrutinyref14_look_number_K1 l Names Schema Init Procs Cmd bad place r6 (IntKind.i64.wrap (at_ + 1))) else ( scrutinyref14_look_number_K1 l Names Schema Init Procs Cmd bad place r6 at_)
def scrutinyref02_Right_L1 (s : (List (Int × Int))) (again12 : Int → Option Bool) (i11 : Int) : Option Bool := bif (decide (i11 < (List.length s : Int))) then ( (idx s i11).bind fun e16 => (idx s i11).bind fun e18 => letv (decide (e18.2 < e16.1)) fun b20 => callG (!b20) (0, 0) (idx s i11) fun e22 => letv (decide (e22.1 < (-1073741824))) fun b24 => letv (b20 || b24) fun b26 => callG (!b26) (0, 0) (idx s i11) fun e28 => letv (decide (1073741824 < e28.2)) fun b30 => letv (b26 || b30) fun b32 => callG (!b32) (0, 0) (idx s i11) fun e34 => callG (!b32) (0, 0) (idx s i11) fun e36 => letv (decide (65535 < (IntKind.i64.wrap (e34.2 - e36.1)))) fun b38 => letv (b32 || b38) fun b40 => bif b40 then ( some false) else ( again12 (IntKind.i64.wrap (i11 + 1)))) else ( some true)
def scrutinyref02_Right (s : (List (Int × Int))) : Option Bool := letv (decide ((List.length s : Int) < 1)) fun b3 => letv (decide (17 < (List.length s : Int))) fun b5 => letv (b3 || b5) fun b7 => bif b7 then ( some false) else ( fixN (scrutinyref02_Right_L1 s) FUEL 0)
def scrutinyref14_look_variable_K1 (Names : (List Str)) (Schema : (List (Int × Int))) (Init : (List Int)) (r15 : (Str × Int × Int × Int)) (r21 : (Int × Int × Int × Int)) (r24 : (Int × Int × Int × Int)) (r27 : (Int × Int × Int × Int)) (r30 : (Int × Int × Int)) (c42 : Int) (c43 : Int) : Option (Int × (List Str) × (List (Int × Int)) × (List Int) × Int × Int) := chk (roomB (List.length Names + List.length ([r15.1] : List Str)) 16) <| chk (roomB (List.length Schema + List.length ([(r21.1, r24.1)] : List (Int × Int))) 16) <| chk (roomB (List.length Init + List.length ([r27.1] : List Int)) 8) <| some (r30.1, (Names ++ ([r15.1] : List Str)), (Schema ++ ([(r21.1, r24.1)] : List (Int × Int))), (Init ++ ([r27.1] : List Int)), c42, c43)
def scrutinyref14_look_variable (l : (List (Int × Str × Int × Int))) (at_ : Int) (Names : (List Str)) (Schema : (List (Int × Int))) (Init : (List Int)) (Procs : (List Str)) (Cmd : (List (Int × Ex × (List (Int × Ex))))) (bad : Int) (place : Int) : Option (Int × (List Str) × (List (Int × Int)) × (List Int) × Int × Int) := (scrutinyref14_look_name (decide (16 ≤ (List.length Names : Int))) l at_ Names Schema Init Procs Cmd bad place).bind fun r15 => (scrutinyref14_look_here l r15.2.1 Names Schema Init Procs Cmd r15.2.2.1 r15.2.2.2).bind fun r18 => (scrutinyref14_look_number l r15.2.1 Names Schema Init Procs Cmd r15.2.2.1 r15.2.2.2).bind fun r21 => (scrutinyref14_look_number l r21.2.1 Names Schema Init Procs Cmd r21.2.2.1 r21.2.2.2).bind fun r24 => (scrutinyref14_look_number l r24.2.1 Names Schema Init Procs Cmd r24.2.2.1 r24.2.2.2).bind fun r27 => (scrutinyref14_look_sign [59] l r27.2.1 Names Schema Init Procs Cmd r27.2.2.1 r27.2.2.2).bind fun r30 => (scrutinyref02_Right ([(r21.1, r24.1)] : List (Int × Int))).bind fun r38 => letv (!r38) fun b67 => letv (decide (r27.1 < r21.1)) fun b69 => letv (b67 || b69) fun b71 => letv (decide (r24.1 < r27.1)) fun b73 => letv (b71 || b73) fun b75 => bif b75 then ( (scrutinyref14_look_fail 5 r18 l r30.1 Names Schema Init Procs Cmd r30.2.1 r30.2.2).bind fun r78 => scrutinyref14_look_variable_K1 Names Schema Init r15 r21 r24 r27 r30 r78.1 r78.2) else ( scrutinyref14_look_variable_K1 Names Schema Init r15 r21 r24 r27 r30 r30.2.1 r30.2.2)
def scrutinyref14_Parse_L5 (r17 : ((List (Int × Str × Int × Int)) × Int × Int)) (l38 : (List Str)) (again46 : (Int × (List Str) × (List (Int × Int)) × (List Int) × (List Str) × (List (Int × Ex × (List (Int × Ex)))) × Int × Int) → Option (((List Str) × (List (Int × Int)) × (List Int) × (List Str) × (List (Int × Ex × (List (Int × Ex))))) × Int × Int)) (c69 : (List Str)) (c72 : (List (Int × Int))) (c75 : (List Int)) (r81 : (Str × Int × Int × Int)) (again105 : (Int × (List (Int × Ex × (List (Int × Ex)))) × Int × Int × Bool) → Option (((List Str) × (List (Int × Int)) × (List Int) × (List Str) × (List (Int × Ex × (List (Int × Ex))))) × Int × Int)) : Int × (List (Int × Ex × (List (Int × Ex)))) × Int × Int × Bool → Option (((List Str) × (List (Int × Int)) × (List Int) × (List Str) × (List (Int × Ex × (List (Int × Ex))))) × Int × Int) := fun ⟨c98, c99, c102, c103, end104⟩ => letv (c102 == 0) fun b106 => letv (!end104) fun b108 => letv (b106 && b108) fun b110 => bif b110 then ( (scrutinyref14_look_command r17.1 c98 c69 c72 c75 (l38 ++ ([r81.1] : List Str)) c99 c102 c103).bind fun r113 => (scrutinyref14_look_is 3 [125] r17.1 r113.1 c69 c72 c75 (l38 ++ ([r81.1] : List Str)) r113.2.1 r113.2.2.1 r113.2.2.2).bind fun r118 => again105 (r113.1, r113.2.1, r113.2.2.1, r113.2.2.2, r118)) else ( (scrutinyref14_look_sign [125] r17.1 c98 c69 c72 c75 (l38 ++ ([r81.1] : List Str)) c99 c102 c103).bind fun r121 => again46 (r121.1, c69, c72, c75, (l38 ++ ([r81.1] : List Str)), c99, r121.2.1, r121.2.2))
def scrutinyref14_Parse_K4 (r17 : ((List (Int × Str × Int × Int)) × Int × Int)) (l38 : (List Str)) (l41 : (List (Int × Ex × (List (Int × Ex))))) (again46 : (Int × (List Str) × (List (Int × Int)) × (List Int) × (List Str) × (List (Int × Ex × (List (Int × Ex)))) × Int × Int) → Option (((List Str) × (List (Int × Int)) × (List Int) × (List Str) × (List (Int × Ex × (List (Int × Ex))))) × Int × Int)) (r59 : Bool) (c68 : Int) (c69 : (List Str)) (c72 : (List (Int × Int))) (c75 : (List Int)) (c78 : Int) (c79 : Int) : Option (((List Str) × (List (Int × Int)) × (List Int) × (List Str) × (List (Int × Ex × (List (Int × Ex))))) × Int × Int) := bif r59 then ( (scrutinyref14_look_name false r17.1 c68 c69 c72 c75 l38 l41 c78 c79).bind fun r81 => chk (roomB (List.length l38 + List.length ([r81.1] : List Str)) 16) <| (scrutinyref14_look_sign [123] r17.1 r81.2.1 c69 c72 c75 (l38 ++ ([r81.1] : List Str)) l41 r81.2.2.1 r81.2.2.2).bind fun r91 => (scrutinyref14_look_is 3 [125] r17.1 r91.1 c69 c72 c75 (l38 ++ ([r81.1] : List Str)) l41 r91.2.1 r91.2.2).bind fun r94 => fixN (scrutinyref14_Parse_L5 r17 l38 again46 c69 c72 c75 r81) FUEL (r91.1, l41, r91.2.1, r91.2.2, r94)) else ( again46 (c68, c69, c72, c75, l38, l41, c78, c79))
def scrutinyref14_Parse_K3 (r17 : ((List (Int × Str × Int × Int)) × Int × Int)) (l29 : (List Str)) (l32 : (List (Int × Int))) (l35 : (List Int)) (l38 : (List Str)) (l41 : (List (Int × Ex × (List (Int × Ex))))) (again46 : (Int × (List Str) × (List (Int × Int)) × (List Int) × (List Str) × (List (Int × Ex × (List (Int × Ex)))) × Int × Int) → Option (((List Str) × (List (Int × Int)) × (List Int) × (List Str) × (List (Int × Ex × (List (Int × Ex))))) × Int × Int)) (r56 : Bool) (r59 : Bool) (c63 : Int) (c64 : Int) (c66 : Int) : Option (((List Str) × (List (Int × Int)) × (List Int) × (List Str) × (List (Int × Ex × (List (Int × Ex))))) × Int × Int) := bif r56 then ( (scrutinyref14_look_variable r17.1 c66 l29 l32 l35 l38 l41 c63 c64).bind fun r125 => scrutinyref14_Parse_K4 r17 l38 l41 again46 r59 r125.1 r125.2.1 r125.2.2.1 r125.2.2.2.1 r125.2.2.2.2.1 r125.2.2.2.2.2) else ( scrutinyref14_Parse_K4 r17 l38 l41 again46 r59 c66 l29 l32 l35 c63 c64)
def scrutinyref14_Parse_K2 (r17 : ((List (Int × Str × Int × Int)) × Int × Int)) (c28 : Int) (l29 : (List Str)) (l32 : (List (Int × Int))) (l35 : (List Int)) (l38 : (List Str)) (l41 : (List (Int × Ex × (List (Int × Ex))))) (again46 : (Int × (List Str) × (List (Int × Int)) × (List Int) × (List Str) × (List (Int × Ex × (List (Int × Ex)))) × Int × Int) → Option (((List Str) × (List (Int × Int)) × (List Int) × (List Str) × (List (Int × Ex × (List (Int × Ex))))) × Int × Int)) (r56 : Bool) (r59 : Bool) (c63 : Int) (c64 : Int) : Option (((List Str) × (List (Int × Int)) × (List Int) × (List Str) × (List (Int × Ex × (List (Int × Ex))))) × Int × Int) := bif (c63 == 0) then ( scrutinyref14_Parse_K3 r17 l29 l32 l35 l38 l41 again46 r56 r59 c63 c64 (IntKind.i64.wrap (c28 + 1))) else ( scrutinyref14_Parse_K3 r17 l29 l32 l35 l38 l41 again46 r56 r59 c63 c64 c28)
def scrutinyref14_Parse_K6 (l29 : (List Str)) (l32 : (List (Int × Int))) (l35 : (List Int)) (l38 : (List Str)) (l41 : (List (Int × Ex × (List (Int × Ex))))) (c150 : Int) (c151 : Int) : Option (((List Str) × (List (Int × Int)) × (List Int) × (List Str) × (List (Int × Ex × (List (Int × Ex))))) × Int × Int) := bif (c150 != 0) then ( some (([], [], [], [], []), c150, c151)) else ( some ((l29, l32, l35, l38, l41), 0, 0))
def scrutinyref14_Parse_L1 (r17 : ((List (Int × Str × Int × Int)) × Int × Int)) (again46 : (Int × (List Str) × (List (Int × Int)) × (List Int) × (List Str) × (List (Int × Ex × (List (Int × Ex)))) × Int × Int) → Option (((List Str) × (List (Int × Int)) × (List Int) × (List Str) × (List (Int × Ex × (List (Int × Ex))))) × Int × Int)) : Int × (List Str) × (List (Int × Int)) × (List Int) × (List Str) × (List (Int × Ex × (List (Int × Ex)))) × Int × Int → Option (((List Str) × (List (Int × Int)) × (List Int) × (List Str) × (List (Int × Ex × (List (Int × Ex))))) × Int × Int) := fun ⟨c28, l29, l32, l35, l38, l41, c44, c45⟩ => letv (c44 == 0) fun b47 => callG b47 (0, [], 0, 0) (idx r17.1 c28) fun e49 => letv (e49.1 != 4) fun b51 => letv (b47 && b51) fun b53 => bif b53 then ( (scrutinyref14_look_is 1 [118, 97, 114] r17.1 c28 l29 l32 l35 l38 l41 c44 c45).bind fun r56 => (scrutinyref14_look_is 1 [112, 114, 111, 99] r17.1 c28 l29 l32 l35 l38 l41 c44 c45).bind fun r59 => letv (!r56) fun b136 => letv (!r59) fun b138 => letv (b136 && b138) fun b140 => bif b140 then ( (scrutinyref14_look_here r17.1 c28 l29 l32 l35 l38 l41 c44 c45).bind fun r143 => (scrutinyref14_look_fail 2 r143 r17.1 c28 l29 l32 l35 l38 l41 c44 c45).bind fun r146 => scrutinyref14_Parse_K2 r17 c28 l29 l32 l35 l38 l41 again46 r56 r59 r146.1 r146.2) else ( scrutinyref14_Parse_K2 r17 c28 l29 l32 l35 l38 l41 again46 r56 r59 c44 c45)) else ( bif ((List.length l29 : Int) == 0) then ( (scrutinyref14_look_here r17.1 c28 l29 l32 l35 l38 l41 c44 c45).bind fun r158 => (scrutinyref14_look_fail 2 r158 r17.1 c28 l29 l32 l35 l38 l41 c44 c45).bind fun r161 => scrutinyref14_Parse_K6 l29 l32 l35 l38 l41 r161.1 r161.2) else ( scrutinyref14_Parse_K6 l29 l32 l35 l38 l41 c44 c45))
def scrutinyref14_Parse (text : Str) : Option (((List Str) × (List (Int × Int)) × (List Int) × (List Str) × (List (Int × Ex × (List (Int × Ex))))) × Int × Int) := (scrutinyref12_Tokens text).bind fun r17 => bif (r17.2.1 != 0) then ( some (([], [], [], [], []), r17.2.1, r17.2.2)) else ( fixN (scrutinyref14_Parse_L1 r17) FUEL (0, [], [], [], [], [], 0, 0))
def scrutinyref15_Of (text : Str) : Option (((List Str) × (List (Int × Int)) × (List Int) × (List Str) × (List (Int × Ex × (List (Int × Ex))))) × Bool) := bif (decide (600 < (List.length text : Int))) then ( some (([], [], [], [], []), false)) else ( (scrutinyref14_Parse text).bind fun r18 => some (r18.1, (r18.2.1 == 0)))
def slices_Clone_int_int (s : (List Int)) : Option (List Int) := chk (roomB (List.length ([] : List Int) + List.length s) 8) <| some (([] : List Int) ++ s)
def strings_Builder_copyCheck (addr : Bool) (_buf : (List Int)) : Option Bool := bif (!addr) then ( some true) else ( bif (!addr) then ( none) else ( some addr))
def strings_Builder_WriteString (s : Str) (addr : Bool) (buf : (List Int)) : Option (Int × Bool × (List Int)) := (strings_Builder_copyCheck addr buf).bind fun r1 => chk (roomB (List.length buf + List.length s) 1) <| some ((List.length s : Int), r1, (buf ++ bytesOf s))
def strings_Builder_WriteByte (c : Int) (addr : Bool) (buf : (List Int)) : Option (Bool × (List Int)) := (strings_Builder_copyCheck addr buf).bind fun r1 => chk (roomB (List.length buf + List.length ([c] : List Int)) 1) <| some (r1, (buf ++ ([c] : List Int)))
def strings_Builder_String (_addr : Bool) (buf : (List Int)) : Option Str := chk (!(List.isEmpty buf)) <| some (strOf buf)
def step_text_L1 (v1 : (List Int)) (again11 : (Bool × (List Int) × Int) → Option Str) : Bool × (List Int) × Int → Option Str := fun ⟨c6, l7, t10⟩ => bif (decide (t10 < (List.length v1 : Int))) then ( (idx v1 t10).bind fun e13 => chk (i64B e13) <| (strings_Builder_WriteString (Lib.itoa e13) c6 l7).bind fun r17 => (strings_Builder_WriteByte 32 r17.2.1 r17.2.2).bind fun r22 => again11 (r22.1, r22.2, (IntKind.i64.wrap (t10 + 1)))) else ( (strings_Builder_String c6 l7).bind fun r27 => some r27)
def step_text (v1 : (List Int)) : Option Str := fixN (step_text_L1 v1) FUEL (false, [], 0)
def step_seen_add_K1 (v2 : (List Int)) (l : (List (List Int))) (c10 : (Option (List (Str × Bool)))) : Option ((List (List Int)) × (Option (List (Str × Bool)))) := (step_text v2).bind fun r12 => bif (!(mgetD c10 r12 false)) then ( (c10).bind fun m16 => chk (roomB (List.length l + List.length ([v2] : List (List Int))) 24) <| some ((l ++ ([v2] : List (List Int))), (some (mset m16 r12 true)))) else ( some (l, c10))
def step_seen_add (v2 : (List Int)) (l : (List (List Int))) (at_ : (Option (List (Str × Bool)))) : Option ((List (List Int)) × (Option (List (Str × Bool)))) := bif ((Option.isNone at_)) then ( step_seen_add_K1 v2 l (some [] : (Option (List (Str × Bool))))) else ( step_seen_add_K1 v2 l at_)
def step_fired (_m : ((List Str) × (List (Int × Int)) × (List Int) × (List Str) × (List (Int × Ex × (List (Int × Ex)))))) (_v11 : (List Int)) : Option Unit := some ()
def expr_truth (is_ : Bool) : Option Int := bif is_ then ( some 1) else ( some 0)
def expr_Eval_K2 (a36 : Int) (b37 : Int) (turn38 : Bool) : Option Int := (expr_truth ((decide (a36 ≤ b37)) != turn38)).bind fun r39 => some r39
def expr_Eval_K3 (a43 : Int) (b44 : Int) (turn45 : Bool) : Option Int := (expr_truth ((decide (a43 < b44)) != turn45)).bind fun r46 => some r46
def expr_Eval_K4 (a50 : Int) (b51 : Int) (turn52 : Bool) : Option Int := (expr_truth ((a50 == b51) != turn52)).bind fun r53 => some r53
def expr_Eval_K5 (e : Ex) (c12 : Int) (c13 : Int) : Option Int := bif (e.op == 12) then ( expr_Eval_K3 c12 c13 true) else ( bif (e.op == 9) then ( expr_Eval_K3 c12 c13 false) else ( bif (e.op == 11) then ( expr_Eval_K2 c12 c13 true) else ( bif (e.op == 10) then ( expr_Eval_K2 c12 c13 false) else ( bif (e.op == 13) then ( some 1) else ( bif (e.op == 15) then ( some (IntKind.i64.wrap (1 - c12))) else ( bif (e.op == 16) then ( some (IntKind.i64.wrap (c12 * c13))) else ( bif (e.op == 17) then ( some (max c12 c13)) else ( bif (e.op == 18) then ( some (max (IntKind.i64.wrap (1 - c12)) c13)) else ( some 0)))))))))
def expr_Eval_K6 (e : Ex) (c12 : Int) (c13 : Int) (t83 : Bool) : Option Int := bif t83 then ( expr_Eval_K4 c12 c13 false) else ( expr_Eval_K5 e c12 c13)
def expr_Eval_L1 (k_expr_Eval : (Ex × (List Int)) → Option Int) (e : Ex) (v3 : (List Int)) (again15 : (Int × Int × Int) → Option Int) : Int × Int × Int → Option Int := fun ⟨c12, c13, t14⟩ => bif (decide (t14 < (List.length (cutL e.l 0 (min (List.length e.l : Int) 2)) : Int))) then ( (idx (cutL e.l 0 (min (List.length e.l : Int) 2)) t14).bind fun e17 => (k_expr_Eval (e17, v3)).bind fun r26 => bif (t14 == 0) then ( again15 (r26, c13, (IntKind.i64.wrap (t14 + 1)))) else ( bif (t14 == 1) then ( again15 (c12, r26, (IntKind.i64.wrap (t14 + 1)))) else ( none))) else ( bif (e.op == 1) then ( some e.n) else ( bif (e.op == 2) then ( letv (decide (e.n < 0)) fun b58 => letv (decide ((List.length v3 : Int) ≤ e.n)) fun b60 => letv (b58 || b60) fun b62 => bif b62 then ( some 0) else ( (idx v3 e.n).bind fun e65 => some e65)) else ( bif (e.op == 3) then ( some (IntKind.i64.wrap (c12 + c13))) else ( bif (e.op == 5) then ( some (IntKind.i64.wrap (c12 * c13))) else ( bif (e.op == 6) then ( some (IntKind.i64.wrap (0 - c12))) else ( bif (e.op == 4) then ( some (IntKind.i64.wrap (c12 - c13))) else ( bif (e.op == 8) then ( expr_Eval_K4 c12 c13 true) else ( bif (e.op == 7) then ( expr_Eval_K6 e c12 c13 (e.op == 7)) else ( expr_Eval_K6 e c12 c13 (e.op == 19))))))))))
def expr_Eval_F (k_expr_Eval : (Ex × (List Int)) → Option Int) (e : Ex) (v3 : (List Int)) : Option Int := chk (cutB 0 (min (List.length e.l : Int) 2) (List.length e.l)) <| fixN (expr_Eval_L1 k_expr_Eval e v3) FUEL (0, 0, 0)
def expr_Eval (e : Ex) (v3 : (List Int)) : Option Int :=
 fixN (fun k (s : (Ex × (List Int))) => expr_Eval_F k s.1 s.2) FUEL (e, v3)
def step_Enabled_L1 (m : ((List Str) × (List (Int × Int)) × (List Int) × (List Str) × (List (Int × Ex × (List (Int × Ex)))))) (v11 : (List Int)) (again13 : ((List Int) × Int) → Option (List Int)) : (List Int) × Int → Option (List Int) := fun ⟨out9, t12⟩ => bif (decide (t12 < (List.length m.2.2.2.2 : Int))) then ( (idx m.2.2.2.2 t12).bind fun e15 => (expr_Eval e15.2.1 v11).bind fun r26 => bif (r26 == 1) then ( chk (roomB (List.length out9 + List.length ([t12] : List Int)) 8) <| again13 ((out9 ++ ([t12] : List Int)), (IntKind.i64.wrap (t12 + 1)))) else ( again13 (out9, (IntKind.i64.wrap (t12 + 1))))) else ( some out9)
def step_Enabled (m : ((List Str) × (List (Int × Int)) × (List Int) × (List Str) × (List (Int × Ex × (List (Int × Ex)))))) (v11 : (List Int)) : Option (List Int) := fixN (step_Enabled_L1 m v11) FUEL ([], 0)
def schema_span_has (f : (Int × Int)) (n : Int) : Option Bool := letv (decide (f.1 ≤ n)) fun b5 => letv (decide (n ≤ f.2)) fun b7 => letv (b5 && b7) fun b9 => some b9
def schema_In_s2_L1 (s : (List (Int × Int))) (v3 : (List Int)) (again6 : Int → Option Int) (t5 : Int) : Option Int := bif (decide (t5 < (List.length v3 : Int))) then ( (idx v3 t5).bind fun e8 => (idx s t5).bind fun e10 => (schema_span_has e10 e8).bind fun r12 => bif (!r12) then ( some 5) else ( again6 (IntKind.i64.wrap (t5 + 1)))) else ( some 0)
def schema_In_s2 (s : (List (Int × Int))) (v3 : (List Int)) : Option Int := bif ((List.length v3 : Int) != (List.length s : Int)) then ( some 1) else ( fixN (schema_In_s2_L1 s v3) FUEL 0)
def step_Fire_L1 (m : ((List Str) × (List (Int × Int)) × (List Int) × (List Str) × (List (Int × Ex × (List (Int × Ex)))))) (v11 : (List Int)) (e21 : (Int × Ex × (List (Int × Ex)))) (again32 : ((List Int) × Int) → Option ((List Int) × Int)) : (List Int) × Int → Option ((List Int) × Int) := fun ⟨l30, t31⟩ => bif (decide (t31 < (List.length e21.2.2 : Int))) then ( (idx e21.2.2 t31).bind fun e34 => (expr_Eval e34.2 v11).bind fun r45 => (idx l30 e34.1).bind fun _e48 => again32 ((List.set l30 (Int.toNat e34.1) r45), (IntKind.i64.wrap (t31 + 1)))) else ( (schema_In_s2 m.2.1 l30).bind fun r51 => bif (r51 != 0) then ( some ([], 6)) else ( some (l30, 0)))
def step_Fire (m : ((List Str) × (List (Int × Int)) × (List Int) × (List Str) × (List (Int × Ex × (List (Int × Ex)))))) (v11 : (List Int)) (k : Int) : Option ((List Int) × Int) := letv (decide (k < 0)) fun b9 => letv (decide ((List.length m.2.2.2.2 : Int) ≤ k)) fun b11 => letv (b9 || b11) fun b13 => bif b13 then ( some ([], 10)) else ( (slices_Clone_int_int v11).bind fun r16 => (idx m.2.2.2.2 k).bind fun e21 => fixN (step_Fire_L1 m v11 e21) FUEL (r16, 0))
def step_fired_c1_L1 {τ : Type} (k_yield : Nat × τ → (List Int) → Int → Option (Nat × τ)) (Names : (List Str)) (Schema : (List (Int × Int))) (Init : (List Int)) (Procs : (List Str)) (Cmd : (List (Int × Ex × (List (Int × Ex))))) (x : (List Int)) (r4 : (List Int)) (again13 : ((Nat × τ) × Int) → Option (Nat × τ)) : (Nat × τ) × Int → Option (Nat × τ) := fun ⟨y10, t12⟩ => bif (decide (t12 < (List.length r4 : Int))) then ( (idx r4 t12).bind fun e15 => (step_Fire (Names, Schema, Init, Procs, Cmd) x e15).bind fun r17 => (k_yield y10 r17.1 r17.2).bind fun r22 => bif (!(Nat.beq r22.1 0)) then ( some r22) else ( again13 (r22, (IntKind.i64.wrap (t12 + 1))))) else ( some y10)
def step_fired_c1 {τ : Type} (k_yield : Nat × τ → (List Int) → Int → Option (Nat × τ)) (y : (Nat × τ)) (Names : (List Str)) (Schema : (List (Int × Int))) (Init : (List Int)) (Procs : (List Str)) (Cmd : (List (Int × Ex × (List (Int × Ex))))) (x : (List Int)) : Option (Nat × τ) := (step_Enabled (Names, Schema, Init, Procs, Cmd) x).bind fun r4 => fixN (step_fired_c1_L1 k_yield Names Schema Init Procs Cmd x r4) FUEL (y, 0)
def step_Next_Y1 (y31 : Nat × (Int × (List (List Int)) × (Option (List (Str × Bool))))) (a35 : (List Int)) (a37 : Int) : Option (Nat × (Int × (List (List Int)) × (Option (List (Str × Bool))))) := chk (Nat.beq y31.1 0) <| bif (a37 != 0) then ( some (1, (a37, y31.2.2.1, y31.2.2.2))) else ( (step_seen_add a35 y31.2.2.1 y31.2.2.2).bind fun r44 => some (0, (y31.2.1, r44.1, r44.2)))
def step_Next (m : ((List Str) × (List (Int × Int)) × (List Int) × (List Str) × (List (Int × Ex × (List (Int × Ex)))))) (v11 : (List Int)) : Option ((List (List Int)) × Int) := (step_fired m v11).bind fun _r15 => (step_fired_c1 step_Next_Y1 (0, (0, [], none)) m.1 m.2.1 m.2.2.1 m.2.2.2.1 m.2.2.2.2 v11).bind fun r54 => bif Nat.beq r54.1 0 then ( bif ((List.length r54.2.2.1 : Int) == 0) then ( (slices_Clone_int_int v11).bind fun r64 => (step_seen_add r64 r54.2.2.1 r54.2.2.2).bind fun r69 => some (r69.1, 0)) else ( some (r54.2.2.1, 0))) else ( bif Nat.beq r54.1 1 then ( some ([], r54.2.1)) else ( none))
def step_Reach_L2 (i30 : Int) (again31 : ((List (List Int)) × (Option (List (Str × Bool))) × Int) → Option ((List (List Int)) × Int × (List Int))) (r47 : ((List (List Int)) × Int)) (again68 : ((List (List Int)) × (Option (List (Str × Bool))) × Int) → Option ((List (List Int)) × Int × (List Int))) : (List (List Int)) × (Option (List (Str × Bool))) × Int → Option ((List (List Int)) × Int × (List Int)) := fun ⟨c62, c65, t67⟩ => bif (decide (t67 < (List.length r47.1 : Int))) then ( (idx r47.1 t67).bind fun e70 => (step_seen_add e70 c62 c65).bind fun r76 => again68 (r76.1, r76.2, (IntKind.i64.wrap (t67 + 1)))) else ( again31 (c62, c65, (IntKind.i64.wrap (i30 + 1))))
def step_Reach_L1 (m : ((List Str) × (List (Int × Int)) × (List Int) × (List Str) × (List (Int × Ex × (List (Int × Ex)))))) (most : Int) (again31 : ((List (List Int)) × (Option (List (Str × Bool))) × Int) → Option ((List (List Int)) × Int × (List Int))) : (List (List Int)) × (Option (List (Str × Bool))) × Int → Option ((List (List Int)) × Int × (List Int)) := fun ⟨c25, c28, i30⟩ => letv (decide (i30 < (List.length c25 : Int))) fun b32 => letv (decide ((List.length c25 : Int) ≤ most)) fun b34 => letv (b32 && b34) fun b36 => bif b36 then ( (idx c25 i30).bind fun e41 => (step_Next m e41).bind fun r47 => bif (r47.2 != 0) then ( (idx c25 i30).bind fun e55 => some ([], r47.2, e55)) else ( fixN (step_Reach_L2 i30 again31 r47) FUEL (c25, c28, 0))) else ( bif (decide (most < (List.length c25 : Int))) then ( some ([], 7, [])) else ( some (c25, 0, [])))
def step_Reach (m : ((List Str) × (List (Int × Int)) × (List Int) × (List Str) × (List (Int × Ex × (List (Int × Ex)))))) (most : Int) : Option ((List (List Int)) × Int × (List Int)) := (slices_Clone_int_int m.2.2.1).bind fun r13 => (step_seen_add r13 [] none).bind fun r18 => fixN (step_Reach_L1 m most) FUEL (r18.1, r18.2, 0)
def scrutinyref02_Vec_L1 (a : (List Int)) (b : (List Int)) (again6 : Int → Option Bool) (i5 : Int) : Option Bool := bif (decide (i5 < (List.length a : Int))) then ( (idx a i5).bind fun e10 => (idx b i5).bind fun e12 => bif (e10 != e12) then ( some false) else ( again6 (IntKind.i64.wrap (i5 + 1)))) else ( some true)
def scrutinyref02_Vec (a : (List Int)) (b : (List Int)) : Option Bool := bif ((List.length a : Int) != (List.length b : Int)) then ( some false) else ( fixN (scrutinyref02_Vec_L1 a b) FUEL 0)
def scrutinyref02_Vecs_L1 (a : (List (List Int))) (b : (List (List Int))) (again6 : Int → Option Bool) (i5 : Int) : Option Bool := bif (decide (i5 < (List.length a : Int))) then ( (idx a i5).bind fun e10 => (idx b i5).bind fun e16 => (scrutinyref02_Vec e10 e16).bind fun r22 => bif (!r22) then ( some false) else ( again6 (IntKind.i64.wrap (i5 + 1)))) else ( some true)
def scrutinyref02_Vecs (a : (List (List Int))) (b : (List (List Int))) : Option Bool := bif ((List.length a : Int) != (List.length b : Int)) then ( some false) else ( fixN (scrutinyref02_Vecs_L1 a b) FUEL 0)
def scrutinylaw15_shown : Option Bool := (scrutinyref15_Of [118, 97, 114, 32, 120, 32, 48, 32, 50, 32, 48, 59, 32, 112, 114, 111, 99, 32, 80, 32, 123, 32, 120, 32, 60, 32, 50, 32, 58, 32, 120, 32, 61, 32, 120, 32, 43, 32, 49, 59, 32, 125]).bind fun r3 => (step_Reach r3.1 9).bind fun r19 => (step_Next r3.1 ([2] : List Int)).bind fun r27 => (step_Fire r3.1 ([2] : List Int) 0).bind fun r34 => (step_Fire r3.1 ([2] : List Int) 1).bind fun r41 => (step_Reach r3.1 2).bind fun r46 => (scrutinyref15_Of [118, 97, 114, 32, 120, 32, 48, 32, 50, 32, 48, 59, 32, 112, 114, 111, 99, 32, 80, 32, 123, 32, 116, 114, 117, 101, 32, 58, 32, 120, 32, 61, 32, 120, 32, 43, 32, 49, 59, 32, 125]).bind fun r52 => (step_Reach r52.1 9).bind fun r68 => letv (r3.2 && r52.2) fun b74 => letv (r19.2.1 == 0) fun b76 => letv (b74 && b76) fun b78 => callG b78 default (scrutinyref02_Vecs r19.1 ([([0] : List Int), ([1] : List Int), ([2] : List Int)] : List (List Int))) fun r88 => letv (b78 && r88) fun b94 => letv (r27.2 == 0) fun b96 => letv (b94 && b96) fun b98 => callG b98 default (scrutinyref02_Vecs r27.1 ([([2] : List Int)] : List (List Int))) fun r104 => letv (b98 && r104) fun b110 => letv (r34.2 == 6) fun b112 => letv (b110 && b112) fun b114 => letv (r41.2 == 10) fun b116 => letv (b114 && b116) fun b118 => letv (r46.2.1 == 7) fun b120 => letv (b118 && b120) fun b122 => letv (r68.2.1 == 6) fun b124 => letv (b122 && b124) fun b126 => callG b126 default (scrutinyref02_Vec r68.2.2 ([2] : List Int)) fun r130 => letv (b126 && r130) fun b136 => callG b136 default (step_Enabled r3.1 ([1] : List Int)) fun r140 => callG b136 default (scrutinyref02_Vec r140 ([0] : List Int)) fun r151 => letv (b136 && r151) fun b157 => callG b157 default (step_Enabled r3.1 ([2] : List Int)) fun r161 => letv ((List.length r161 : Int) == 0) fun b170 => letv (b157 && b170) fun b172 => some b172
def scrutinyref02_In_L1 (s : (List (Int × Int))) (v3 : (List Int)) (again6 : Int → Option Int) (i5 : Int) : Option Int := bif (decide (i5 < (List.length v3 : Int))) then ( (idx v3 i5).bind fun e10 => (idx s i5).bind fun e12 => letv (decide (e10 < e12.1)) fun b14 => callG (!b14) 0 (idx v3 i5) fun e16 => callG (!b14) (0, 0) (idx s i5) fun e18 => letv (decide (e18.2 < e16)) fun b20 => letv (b14 || b20) fun b22 => bif b22 then ( some 5) else ( again6 (IntKind.i64.wrap (i5 + 1)))) else ( some 0)
def scrutinyref02_In (s : (List (Int × Int))) (v3 : (List Int)) : Option Int := bif ((List.length v3 : Int) != (List.length s : Int)) then ( some 1) else ( fixN (scrutinyref02_In_L1 s v3) FUEL 0)
def scrutinyref15_In (m : ((List Str) × (List (Int × Int)) × (List Int) × (List Str) × (List (Int × Ex × (List (Int × Ex)))))) (v11 : (List Int)) : Option Bool := (scrutinyref02_In m.2.1 v11).bind fun r5 => some (r5 == 0)
def scrutinyref13_truth (is_ : Bool) : Option Int := bif is_ then ( some 1) else ( some 0)
def scrutinyref13_Eval_K2 (e : Ex) (v3 : (List Int)) (a6 : Int) (b8 : Int) : Option Int := bif (e.op == 1) then ( some e.n) else ( bif (e.op == 2) then ( letv (decide (0 ≤ e.n)) fun b11 => letv (decide (e.n < (List.length v3 : Int))) fun b13 => letv (b11 && b13) fun b15 => bif b15 then ( (idx v3 e.n).bind fun e18 => some e18) else ( some 0)) else ( bif (e.op == 3) then ( some (IntKind.i64.wrap (a6 + b8))) else ( bif (e.op == 4) then ( some (IntKind.i64.wrap (a6 - b8))) else ( bif (e.op == 5) then ( some (IntKind.i64.wrap (a6 * b8))) else ( bif (e.op == 6) then ( some (IntKind.i64.wrap (0 - a6))) else ( bif (e.op == 7) then ( (scrutinyref13_truth (a6 == b8)).bind fun r25 => some r25) else ( bif (e.op == 8) then ( (scrutinyref13_truth (a6 != b8)).bind fun r29 => some r29) else ( bif (e.op == 9) then ( (scrutinyref13_truth (decide (a6 < b8))).bind fun r33 => some r33) else ( bif (e.op == 10) then ( (scrutinyref13_truth (decide (a6 ≤ b8))).bind fun r37 => some r37) else ( bif (e.op == 11) then ( (scrutinyref13_truth (decide (b8 < a6))).bind fun r41 => some r41) else ( bif (e.op == 12) then ( (scrutinyref13_truth (decide (b8 ≤ a6))).bind fun r45 => some r45) else ( bif (e.op == 13) then ( some 1) else ( bif (e.op == 15) then ( (scrutinyref13_truth (a6 == 0)).bind fun r50 => some r50) else ( bif (e.op == 16) then ( letv (a6 == 1) fun b54 => letv (b8 == 1) fun b56 => letv (b54 && b56) fun b58 => (scrutinyref13_truth b58).bind fun r60 => some r60) else ( bif (e.op == 17) then ( letv (a6 == 1) fun b64 => letv (b8 == 1) fun b66 => letv (b64 || b66) fun b68 => (scrutinyref13_truth b68).bind fun r70 => some r70) else ( bif (e.op == 18) then ( letv (a6 == 0) fun b74 => letv (b8 == 1) fun b76 => letv (b74 || b76) fun b78 => (scrutinyref13_truth b78).bind fun r80 => some r80) else ( bif (e.op == 19) then ( (scrutinyref13_truth (a6 == b8)).bind fun r84 => some r84) else ( some 0))))))))))))))))))
def scrutinyref13_Eval_K1 (k_scrutinyref13_Eval : (Ex × (List Int)) → Option Int) (e : Ex) (v3 : (List Int)) (a6 : Int) : Option Int := bif (decide (1 < (List.length e.l : Int))) then ( (idx e.l 1).bind fun e88 => (k_scrutinyref13_Eval (e88, v3)).bind fun r94 => scrutinyref13_Eval_K2 e v3 a6 r94) else ( scrutinyref13_Eval_K2 e v3 a6 0)
def scrutinyref13_Eval_F (k_scrutinyref13_Eval : (Ex × (List Int)) → Option Int) (e : Ex) (v3 : (List Int)) : Option Int := bif (decide (0 < (List.length e.l : Int))) then ( (idx e.l 0).bind fun e98 => (k_scrutinyref13_Eval (e98, v3)).bind fun r104 => scrutinyref13_Eval_K1 k_scrutinyref13_Eval e v3 r104) else ( scrutinyref13_Eval_K1 k_scrutinyref13_Eval e v3 0)
def scrutinyref13_Eval (e : Ex) (v3 : (List Int)) : Option Int :=
 fixN (fun k (s : (Ex × (List Int))) => scrutinyref13_Eval_F k s.1 s.2) FUEL (e, v3)
def scrutinyref15_Fire_L2 (m : ((List Str) × (List (Int × Int)) × (List Int) × (List Str) × (List (Int × Ex × (List (Int × Ex)))))) (l23 : (List Int)) (again62 : Int → Option ((List Int) × Int)) (i61 : Int) : Option ((List Int) × Int) := bif (decide (i61 < (List.length l23 : Int))) then ( (idx l23 i61).bind fun e66 => (idx m.2.1 i61).bind fun e68 => letv (decide (e66 < e68.1)) fun b70 => callG (!b70) 0 (idx l23 i61) fun e72 => callG (!b70) (0, 0) (idx m.2.1 i61) fun e74 => letv (decide (e74.2 < e72)) fun b76 => letv (b70 || b76) fun b78 => bif b78 then ( some ([], 6)) else ( again62 (IntKind.i64.wrap (i61 + 1)))) else ( some (l23, 0))
def scrutinyref15_Fire_L1 (m : ((List Str) × (List (Int × Int)) × (List Int) × (List Str) × (List (Int × Ex × (List (Int × Ex)))))) (v11 : (List Int)) (k : Int) (again25 : ((List Int) × Int) → Option ((List Int) × Int)) : (List Int) × Int → Option ((List Int) × Int) := fun ⟨l23, i24⟩ => (idx m.2.2.2.2 k).bind fun e26 => bif (decide (i24 < (List.length e26.2.2 : Int))) then ( (idx m.2.2.2.2 k).bind fun e35 => (idx e35.2.2 i24).bind fun e43 => (scrutinyref13_Eval e43.2 v11).bind fun r54 => (idx l23 e43.1).bind fun _e57 => again25 ((List.set l23 (Int.toNat e43.1) r54), (IntKind.i64.wrap (i24 + 1)))) else ( fixN (scrutinyref15_Fire_L2 m l23) FUEL 0)
def scrutinyref15_Fire (m : ((List Str) × (List (Int × Int)) × (List Int) × (List Str) × (List (Int × Ex × (List (Int × Ex)))))) (v11 : (List Int)) (k : Int) : Option ((List Int) × Int) := letv (decide (k < 0)) fun b9 => letv (decide ((List.length m.2.2.2.2 : Int) ≤ k)) fun b11 => letv (b9 || b11) fun b13 => bif b13 then ( some ([], 10)) else ( chk (roomB (List.length ([] : List Int) + List.length v11) 8) <| fixN (scrutinyref15_Fire_L1 m v11 k) FUEL ((([] : List Int) ++ v11), 0))
def scrutinyref15_Enabled_L1 (m : ((List Str) × (List (Int × Int)) × (List Int) × (List Str) × (List (Int × Ex × (List (Int × Ex)))))) (v11 : (List Int)) (again13 : ((List Int) × Int) → Option (List Int)) : (List Int) × Int → Option (List Int) := fun ⟨out9, i12⟩ => bif (decide (i12 < (List.length m.2.2.2.2 : Int))) then ( (idx m.2.2.2.2 i12).bind fun e15 => (scrutinyref13_Eval e15.2.1 v11).bind fun r23 => bif (r23 == 1) then ( chk (roomB (List.length out9 + List.length ([i12] : List Int)) 8) <| again13 ((out9 ++ ([i12] : List Int)), (IntKind.i64.wrap (i12 + 1)))) else ( again13 (out9, (IntKind.i64.wrap (i12 + 1))))) else ( some out9)
def scrutinyref15_Enabled (m : ((List Str) × (List (Int × Int)) × (List Int) × (List Str) × (List (Int × Ex × (List (Int × Ex)))))) (v11 : (List Int)) : Option (List Int) := fixN (scrutinyref15_Enabled_L1 m v11) FUEL ([], 0)
def scrutinyref15_Place_s2_L1 (l : (List (List Int))) (v3 : (List Int)) (again5 : Int → Option Int) (i4 : Int) : Option Int := bif (decide (i4 < (List.length l : Int))) then ( (idx l i4).bind fun e7 => (scrutinyref02_Vec e7 v3).bind fun r13 => bif r13 then ( some i4) else ( again5 (IntKind.i64.wrap (i4 + 1)))) else ( some (-1))
def scrutinyref15_Place_s2 (l : (List (List Int))) (v3 : (List Int)) : Option Int := fixN (scrutinyref15_Place_s2_L1 l v3) FUEL 0
def scrutinyref15_Next_L1 (m : ((List Str) × (List (Int × Int)) × (List Int) × (List Str) × (List (Int × Ex × (List (Int × Ex)))))) (v11 : (List Int)) (r9 : (List Int)) (again30 : ((List (List Int)) × Int) → Option ((List (List Int)) × Int)) : (List (List Int)) × Int → Option ((List (List Int)) × Int) := fun ⟨out26, i29⟩ => bif (decide (i29 < (List.length r9 : Int))) then ( (idx r9 i29).bind fun e34 => (scrutinyref15_Fire m v11 e34).bind fun r36 => bif (r36.2 != 0) then ( some ([], r36.2)) else ( (scrutinyref15_Place_s2 out26 r36.1).bind fun r42 => bif (decide (r42 < 0)) then ( chk (roomB (List.length out26 + List.length ([r36.1] : List (List Int))) 24) <| again30 ((out26 ++ ([r36.1] : List (List Int))), (IntKind.i64.wrap (i29 + 1)))) else ( again30 (out26, (IntKind.i64.wrap (i29 + 1)))))) else ( some (out26, 0))
def scrutinyref15_Next (m : ((List Str) × (List (Int × Int)) × (List Int) × (List Str) × (List (Int × Ex × (List (Int × Ex)))))) (v11 : (List Int)) : Option ((List (List Int)) × Int) := (scrutinyref15_Enabled m v11).bind fun r9 => bif ((List.length r9 : Int) == 0) then ( chk (roomB (List.length ([] : List Int) + List.length v11) 8) <| some (([(([] : List Int) ++ v11)] : List (List Int)), 0)) else ( fixN (scrutinyref15_Next_L1 m v11 r9) FUEL ([], 0))
def scrutinylaw15_StepTells (text : Str) (v1 : (List Int)) (k : Int) : Option Bool := (scrutinylaw15_shown).bind fun r3 => (scrutinyref15_Of text).bind fun r6 => letv (!r6.2) fun b22 => callG (!b22) default (scrutinyref15_In r6.1 v1) fun r24 => letv (!r24) fun b30 => letv (b22 || b30) fun b32 => bif b32 then ( some r3) else ( (step_Fire r6.1 v1 k).bind fun r35 => (scrutinyref15_Fire r6.1 v1 k).bind fun r40 => (step_Next r6.1 v1).bind fun r45 => (scrutinyref15_Next r6.1 v1).bind fun r50 => callG r3 default (step_Enabled r6.1 v1) fun r57 => callG r3 default (scrutinyref15_Enabled r6.1 v1) fun r66 => callG r3 default (scrutinyref02_Vec r57 r66) fun r75 => letv (r3 && r75) fun b81 => callG b81 default (scrutinyref02_Vec r35.1 r40.1) fun r83 => letv (b81 && r83) fun b89 => letv (r35.2 == r40.2) fun b91 => letv (b89 && b91) fun b93 => callG b93 default (scrutinyref02_Vecs r45.1 r50.1) fun r95 => letv (b93 && r95) fun b101 => letv (r45.2 == r50.2) fun b103 => letv (b101 && b103) fun b105 => some b105)
end Go.Proofs.YtjdabjpjafkogaaDoor
namespace Go.Proofs
open Go.Shelf
def Tryd.laysItoa_ren : Go.Shelf.Ren := ⟨fun | 171 => 55 | 243 => 61 | 246 => 64 | 283 => 69 | 284 => 70 | 285 => 71 | 286 => 72 | 129 => 74 | 317 => 73 | 318 => 75 | 319 => 76 | 320 => 77 | 337 => 78 | 338 => 79 | n => n, fun | 3 => 3 | 9 => 9 | 2 => 2 | 4 => 4 | 171 => 130 | 0 => 0 | 53 => 131 | 37 => 107 | 5 => 5 | 173 => 134 | 212 => 137 | 51 => 138 | 20 => 20 | 213 => 139 | 46 => 140 | 232 => 143 | 233 => 144 | n => n, fun | 17 => 0 | 18 => 1 | 19 => 2 | n => n⟩
theorem Tryd.laysItoa : Go.Proofs.LaysM.n171 Tryd.prog Tryd.laysItoa_ren := {
 mixed := by kernel_rfl
 f129 := Tryd.func74.trans (congrArg some (by kernel_rfl))
 f171 := Tryd.func55.trans (congrArg some (by kernel_rfl))
 f243 := Tryd.func61.trans (congrArg some (by kernel_rfl))
 f246 := Tryd.func64.trans (congrArg some (by kernel_rfl))
 f283 := Tryd.func69.trans (congrArg some (by kernel_rfl))
 f284 := Tryd.func70.trans (congrArg some (by kernel_rfl))
 f285 := Tryd.func71.trans (congrArg some (by kernel_rfl))
 f286 := Tryd.func72.trans (congrArg some (by kernel_rfl))
 f317 := Tryd.func73.trans (congrArg some (by kernel_rfl))
 f318 := Tryd.func75.trans (congrArg some (by kernel_rfl))
 f319 := Tryd.func76.trans (congrArg some (by kernel_rfl))
 f320 := Tryd.func77.trans (congrArg some (by kernel_rfl))
 f337 := Tryd.func78.trans (congrArg some (by kernel_rfl))
 f338 := Tryd.func79.trans (congrArg some (by kernel_rfl))
 t0 := Tryd.underlying0
 a0 := Tryd.isAgg0
 z0 := Tryd.sizeOf0
 v0 := Tryd.zeroValue0
 t2 := Tryd.underlying2
 a2 := Tryd.isAgg2
 z2 := Tryd.sizeOf2
 v2 := Tryd.zeroValue2
 t3 := Tryd.underlying3
 a3 := Tryd.isAgg3
 z3 := Tryd.sizeOf3
 v3 := Tryd.zeroValue3
 t4 := Tryd.underlying4
 a4 := Tryd.isAgg4
 z4 := Tryd.sizeOf4
 v4 := Tryd.zeroValue4
 t5 := Tryd.underlying5
 a5 := Tryd.isAgg5
 z5 := Tryd.sizeOf5
 v5 := Tryd.zeroValue5
 t9 := Tryd.underlying9
 a9 := Tryd.isAgg9
 z9 := Tryd.sizeOf9
 v9 := Tryd.zeroValue9
 t20 := Tryd.underlying20
 a20 := Tryd.isAgg20
 z20 := Tryd.sizeOf20
 v20 := Tryd.zeroValue20
 t37 := Tryd.underlying107
 a37 := Tryd.isAgg107
 z37 := Tryd.sizeOf107
 v37 := Tryd.zeroValue107
 t46 := Tryd.underlying140
 a46 := Tryd.isAgg140
 z46 := Tryd.sizeOf140
 v46 := Tryd.zeroValue140
 t51 := Tryd.underlying138
 a51 := Tryd.isAgg138
 z51 := Tryd.sizeOf138
 v51 := Tryd.zeroValue138
 t53 := Tryd.underlying131
 a53 := Tryd.isAgg131
 z53 := Tryd.sizeOf131
 v53 := Tryd.zeroValue131
 t171 := Tryd.underlying130
 a171 := Tryd.isAgg130
 z171 := Tryd.sizeOf130
 v171 := Tryd.zeroValue130
 t173 := Tryd.underlying134
 a173 := Tryd.isAgg134
 z173 := Tryd.sizeOf134
 v173 := Tryd.zeroValue134
 t212 := Tryd.underlying137
 a212 := Tryd.isAgg137
 z212 := Tryd.sizeOf137
 v212 := Tryd.zeroValue137
 t213 := Tryd.underlying139
 a213 := Tryd.isAgg139
 z213 := Tryd.sizeOf139
 t232 := Tryd.underlying143
 a232 := Tryd.isAgg143
 z232 := Tryd.sizeOf143
 v232 := Tryd.zeroValue143
 t233 := Tryd.underlying144
 a233 := Tryd.isAgg144
 z233 := Tryd.sizeOf144
 v233 := Tryd.zeroValue144
 g17 := by kernel_rfl
 g18 := by kernel_rfl
 g19 := by kernel_rfl
 i0 := by kernel_rfl
 i2 := by kernel_rfl
 i3 := by kernel_rfl
 i4 := by kernel_rfl
 i5 := by kernel_rfl
 i9 := by kernel_rfl
 i20 := by kernel_rfl
 i37 := by kernel_rfl
 i46 := by kernel_rfl
 i51 := by kernel_rfl
 i53 := by kernel_rfl
 i171 := by kernel_rfl
 i173 := by kernel_rfl
 i212 := by kernel_rfl
 i232 := by kernel_rfl
 i233 := by kernel_rfl
 m17 := by kernel_rfl
 m18 := by kernel_rfl
 m19 := by kernel_rfl }
end Go.Proofs
namespace Go.Proofs.YtjdabjpjafkogaaDoor
open Go.Proofs Go.Shelf
theorem itoa_ok {Γ : Ctx} {w : World} {i : Nat} {n : Int} (hs : Sat Γ w) (hi : Γ[i]? = some (gl 0 (pow10L.map (Value.int .u64)))) (hn : i64B n = true) :
  CallsR Tryd.prog 55 [.int .i64 n] w (fun v w' => v = S (Lib.itoa n) ∧ Sat Γ w') := by
 obtain ⟨h0, h1⟩ := i64B_iff.1 hn
 obtain ⟨_, t, fr, hb⟩ := hs.gl0 hi
 have htab : Lib.TabIs Tryd.prog w "internal/strconv.uint64pow10" .u64 Lib.pow10Tab := by
  have hg : Tryd.prog.globalNamed "internal/strconv.uint64pow10" = some 0 := by kernel_rfl
  have e : Lib.pow10Tab = pow10L := by decide +kernel
  unfold Lib.TabIs World.var?
  rw [hg, e]
  simp [hb]
 refine Calls.mono (Any.strconv_Itoa Tryd.laysItoa n h0 h1 w htab) ?_
 rintro e w' ⟨rfl, k, os, rfl⟩
 refine ⟨rfl, hs.ext ⟨rfl, rfl, rfl, ?_, fun b hb => ?_⟩⟩
 ·simp [Sort.grow, World.drewN]
 ·simp [Sort.grow, World.drewN, Array.getElem?_append, hb]
end Go.Proofs.YtjdabjpjafkogaaDoor
namespace Go.Proofs.YtjdabjpjafkogaaDoor
open Go.Proofs
theorem ti3 : TI Tryd.prog 3 1 8 (.int .i64 0) := by unfold TI; kernel_rfl
theorem ti4 : TI Tryd.prog 4 1 1 (.bool false) := by unfold TI; kernel_rfl
theorem ti5 : TI Tryd.prog 5 1 1 (.int .u8 0) := by unfold TI; kernel_rfl
theorem ti9 : TI Tryd.prog 9 1 16 (S []) := by unfold TI; kernel_rfl
theorem ti22 : TI Tryd.prog 22 1 24 (.slice none 0 0) := by unfold TI; kernel_rfl
theorem ti24 : TI Tryd.prog 24 1 24 (.slice none 0 0) := by unfold TI; kernel_rfl
theorem ti25 : TI Tryd.prog 25 1 24 (.slice none 0 0) := by unfold TI; kernel_rfl
theorem ti26 : TI Tryd.prog 26 1 24 (.slice none 0 0) := by unfold TI; kernel_rfl
theorem ti28 : TI Tryd.prog 28 5 120 (.agg #[(.slice none 0 0), (.slice none 0 0), (.slice none 0 0), (.slice none 0 0), (.slice none 0 0)]) := by unfold TI; kernel_rfl
theorem ti32 : TI Tryd.prog 32 1 8 (.int .i64 0) := by unfold TI; kernel_rfl
theorem ti37 : TI Tryd.prog 37 1 24 (.slice none 0 0) := by unfold TI; kernel_rfl
theorem ti57 : TI Tryd.prog 57 4 48 (.agg #[(.int .i64 0), (.int .i64 0), (.int .i64 0), (.slice none 0 0)]) := by unfold TI; kernel_rfl
theorem ti58 : TI Tryd.prog 58 1 24 (.slice none 0 0) := by unfold TI; kernel_rfl
theorem ti60 : TI Tryd.prog 60 6 80 (.agg #[(.int .i64 0), (.int .i64 0), (.int .i64 0), (.int .i64 0), (.slice none 0 0), (.slice none 0 0)]) := by unfold TI; kernel_rfl
theorem ti62 : TI Tryd.prog 62 5 56 (.agg #[(.int .i64 0), (.int .i64 0), (.int .i64 0), (.int .i64 0), (.slice none 0 0)]) := by unfold TI; kernel_rfl
theorem ti72 : TI Tryd.prog 72 2 16 (.agg #[(.int .i64 0), (.int .i64 0)]) := by unfold TI; kernel_rfl
theorem ti73 : TI Tryd.prog 73 1 8 (.map none) := by unfold TI; kernel_rfl
theorem ti75 : TI Tryd.prog 75 2 32 (.agg #[(.slice none 0 0), (.map none)]) := by unfold TI; kernel_rfl
theorem ti86 : TI Tryd.prog 86 9 168 (.agg #[(.slice none 0 0), (.int .i64 0), (.slice none 0 0), (.slice none 0 0), (.slice none 0 0), (.slice none 0 0), (.slice none 0 0), (.int .i64 0), (.int .i64 0)]) := by unfold TI; kernel_rfl
theorem ti88 : TI Tryd.prog 88 4 40 (.agg #[(.int .i64 0), (S []), (.int .i64 0), (.int .i64 0)]) := by unfold TI; kernel_rfl
theorem ti94 : TI Tryd.prog 94 2 16 (.agg #[(.int .i64 0), (.int .i64 0)]) := by unfold TI; kernel_rfl
theorem ti106 : TI Tryd.prog 106 1 8 (.pointer none) := by unfold TI; kernel_rfl
theorem ti107 : TI Tryd.prog 107 1 24 (.slice none 0 0) := by unfold TI; kernel_rfl
theorem ti109 : TI Tryd.prog 109 2 32 (.agg #[(.pointer none), (.slice none 0 0)]) := by unfold TI; kernel_rfl
theorem ti123 : TI Tryd.prog 123 5 72 (.agg #[(.slice none 0 0), (.int .i64 0), (.slice none 0 0), (.int .i64 0), (.int .i64 0)]) := by unfold TI; kernel_rfl
abbrev mk73 : Str → Value := S
abbrev mv73 : Bool → Value := Value.bool
theorem mK73 : MapK Tryd.prog 9 mk73 := MapK.str Tryd.underlying9
theorem same63 : Same Tryd.prog 63 := fun v w => by
 rw [run_callFunc_extern Tryd.func63 (by kernel_rfl) (by kernel_rfl) (by kernel_rfl) (e := Extern.AbiNoEscape.same) (by kernel_rfl)]
 rfl
theorem fo28_0 : FieldOf Tryd.prog 28 0 0 := FieldOf.mk' (f := 24) (n := 1) Tryd.underlying28 rfl rfl rfl (by kernel_rfl) (by decide)
theorem fo28_1 : FieldOf Tryd.prog 28 1 1 := FieldOf.mk' (f := 25) (n := 1) Tryd.underlying28 rfl rfl rfl (by kernel_rfl) (by decide)
theorem fo28_2 : FieldOf Tryd.prog 28 2 2 := FieldOf.mk' (f := 22) (n := 1) Tryd.underlying28 rfl rfl rfl (by kernel_rfl) (by decide)
theorem fo28_3 : FieldOf Tryd.prog 28 3 3 := FieldOf.mk' (f := 24) (n := 1) Tryd.underlying28 rfl rfl rfl (by kernel_rfl) (by decide)
theorem fo28_4 : FieldOf Tryd.prog 28 4 4 := FieldOf.mk' (f := 26) (n := 1) Tryd.underlying28 rfl rfl rfl (by kernel_rfl) (by decide)
theorem fo57_0 : FieldOf Tryd.prog 57 0 0 := FieldOf.mk' (f := 3) (n := 1) Tryd.underlying57 rfl rfl rfl (by kernel_rfl) (by decide)
theorem fo57_1 : FieldOf Tryd.prog 57 1 1 := FieldOf.mk' (f := 3) (n := 1) Tryd.underlying57 rfl rfl rfl (by kernel_rfl) (by decide)
theorem fo57_2 : FieldOf Tryd.prog 57 2 2 := FieldOf.mk' (f := 3) (n := 1) Tryd.underlying57 rfl rfl rfl (by kernel_rfl) (by decide)
theorem fo57_3 : FieldOf Tryd.prog 57 3 3 := FieldOf.mk' (f := 55) (n := 1) Tryd.underlying57 rfl rfl rfl (by kernel_rfl) (by decide)
theorem fo60_1 : FieldOf Tryd.prog 60 1 1 := FieldOf.mk' (f := 57) (n := 4) Tryd.underlying60 rfl rfl rfl (by kernel_rfl) (by decide)
theorem fo60_2 : FieldOf Tryd.prog 60 2 5 := FieldOf.mk' (f := 58) (n := 1) Tryd.underlying60 rfl rfl rfl (by kernel_rfl) (by decide)
theorem fo62_0 : FieldOf Tryd.prog 62 0 0 := FieldOf.mk' (f := 3) (n := 1) Tryd.underlying62 rfl rfl rfl (by kernel_rfl) (by decide)
theorem fo62_1 : FieldOf Tryd.prog 62 1 1 := FieldOf.mk' (f := 57) (n := 4) Tryd.underlying62 rfl rfl rfl (by kernel_rfl) (by decide)
theorem fo72_0 : FieldOf Tryd.prog 72 0 0 := FieldOf.mk' (f := 3) (n := 1) Tryd.underlying72 rfl rfl rfl (by kernel_rfl) (by decide)
theorem fo72_1 : FieldOf Tryd.prog 72 1 1 := FieldOf.mk' (f := 3) (n := 1) Tryd.underlying72 rfl rfl rfl (by kernel_rfl) (by decide)
theorem fo75_0 : FieldOf Tryd.prog 75 0 0 := FieldOf.mk' (f := 37) (n := 1) Tryd.underlying75 rfl rfl rfl (by kernel_rfl) (by decide)
theorem fo75_1 : FieldOf Tryd.prog 75 1 1 := FieldOf.mk' (f := 73) (n := 1) Tryd.underlying75 rfl rfl rfl (by kernel_rfl) (by decide)
theorem fo86_0 : FieldOf Tryd.prog 86 0 0 := FieldOf.mk' (f := 82) (n := 1) Tryd.underlying86 rfl rfl rfl (by kernel_rfl) (by decide)
theorem fo86_1 : FieldOf Tryd.prog 86 1 1 := FieldOf.mk' (f := 3) (n := 1) Tryd.underlying86 rfl rfl rfl (by kernel_rfl) (by decide)
theorem fo86_2 : FieldOf Tryd.prog 86 2 2 := FieldOf.mk' (f := 28) (n := 5) Tryd.underlying86 rfl rfl rfl (by kernel_rfl) (by decide)
theorem fo86_3 : FieldOf Tryd.prog 86 3 7 := FieldOf.mk' (f := 3) (n := 1) Tryd.underlying86 rfl rfl rfl (by kernel_rfl) (by decide)
theorem fo86_4 : FieldOf Tryd.prog 86 4 8 := FieldOf.mk' (f := 3) (n := 1) Tryd.underlying86 rfl rfl rfl (by kernel_rfl) (by decide)
theorem fo88_0 : FieldOf Tryd.prog 88 0 0 := FieldOf.mk' (f := 3) (n := 1) Tryd.underlying88 rfl rfl rfl (by kernel_rfl) (by decide)
theorem fo88_1 : FieldOf Tryd.prog 88 1 1 := FieldOf.mk' (f := 9) (n := 1) Tryd.underlying88 rfl rfl rfl (by kernel_rfl) (by decide)
theorem fo88_2 : FieldOf Tryd.prog 88 2 2 := FieldOf.mk' (f := 3) (n := 1) Tryd.underlying88 rfl rfl rfl (by kernel_rfl) (by decide)
theorem fo88_3 : FieldOf Tryd.prog 88 3 3 := FieldOf.mk' (f := 3) (n := 1) Tryd.underlying88 rfl rfl rfl (by kernel_rfl) (by decide)
theorem fo95_0 : FieldOf Tryd.prog 95 0 0 := FieldOf.mk' (f := 3) (n := 1) Tryd.underlying95 rfl rfl rfl (by kernel_rfl) (by decide)
theorem fo95_1 : FieldOf Tryd.prog 95 1 1 := FieldOf.mk' (f := 3) (n := 1) Tryd.underlying95 rfl rfl rfl (by kernel_rfl) (by decide)
theorem fo109_0 : FieldOf Tryd.prog 109 0 0 := FieldOf.mk' (f := 106) (n := 1) Tryd.underlying109 rfl rfl rfl (by kernel_rfl) (by decide)
theorem fo109_1 : FieldOf Tryd.prog 109 1 1 := FieldOf.mk' (f := 107) (n := 1) Tryd.underlying109 rfl rfl rfl (by kernel_rfl) (by decide)
theorem fo123_0 : FieldOf Tryd.prog 123 0 0 := FieldOf.mk' (f := 82) (n := 1) Tryd.underlying123 rfl rfl rfl (by kernel_rfl) (by decide)
theorem fo123_1 : FieldOf Tryd.prog 123 1 1 := FieldOf.mk' (f := 3) (n := 1) Tryd.underlying123 rfl rfl rfl (by kernel_rfl) (by decide)
theorem fo123_2 : FieldOf Tryd.prog 123 2 2 := FieldOf.mk' (f := 24) (n := 1) Tryd.underlying123 rfl rfl rfl (by kernel_rfl) (by decide)
theorem fo123_3 : FieldOf Tryd.prog 123 3 3 := FieldOf.mk' (f := 3) (n := 1) Tryd.underlying123 rfl rfl rfl (by kernel_rfl) (by decide)
theorem fo123_4 : FieldOf Tryd.prog 123 4 4 := FieldOf.mk' (f := 3) (n := 1) Tryd.underlying123 rfl rfl rfl (by kernel_rfl) (by decide)
theorem openT9 {M : Nat → Prop} {w : World} {vs : List Value} {x : Str} (h : (RS).rd M w vs x) : vs = [(S x)] := h
theorem openT88 {M : Nat → Prop} {w : World} {vs : List Value} {x : (Int × Str × Int × Int)} (h : ((RP (RI .i64) (RP RS (RP (RI .i64) (RI .i64))))).rd M w vs x) : vs = [(.int .i64 x.1), (S x.2.1), (.int .i64 x.2.2.1), (.int .i64 x.2.2.2)] := by
 obtain ⟨_, _, rfl, rfl, ⟨_, _, rfl, rfl, ⟨_, _, rfl, rfl, rfl⟩⟩⟩ := h
 rfl
theorem openT57 {M : Nat → Prop} {w : World} {vs : List Value} {x : Ex} (h : (RExpr).rd M w vs x) : ∃ v1 : SLV, vs = [(.int .i64 x.op), (.int .i64 x.n), (.int .i64 x.at_), (sl v1)] ∧ SRd RExpr M w (sl v1) x.l := RExpr_open h
theorem cellsM57 {M : Nat → Prop} {w : World} {g : Bool} {v : Value} {xs : List Ex} {i : Int} {x : Ex} (h : g = true → SRd RExpr M w v xs) (hx : g = true → idx xs i = some x) :
  ∃ (v1 : SLV), (g = true → CellsAt w (elA v i 4) [(.int .i64 x.op), (.int .i64 x.n), (.int .i64 x.at_), (sl v1)]) ∧ (g = true → ¬ M (elA v i 4).block) ∧ (g = true → SRd RExpr M w (sl v1) x.l) := by
 cases hg : g
 ·exact ⟨(none, 0, 0), (fun h => by cases h), (fun h => by cases h), (fun h => by cases h)⟩
 ·obtain ⟨_, vs, hc, hr, hm⟩ := (h hg).atA (hx hg)
  obtain ⟨v1, rfl, h1⟩ := openT57 hr
  exact ⟨v1, fun _ => hc, fun _ => hm, fun _ => h1⟩
theorem cellsMO57 {M : Nat → Prop} {w : World} {g : Bool} {v : Value} {xs : List Ex} {R : List Nat} {i : Int} {x : Ex} (h : g = true → Own RExpr 57 M w v xs R) (hx : g = true → idx xs i = some x) :
  ∃ (v1 : SLV), (g = true → CellsAt w (elA v i 4) [(.int .i64 x.op), (.int .i64 x.n), (.int .i64 x.at_), (sl v1)]) ∧ (g = true → True) ∧ (g = true → SRd RExpr M w (sl v1) x.l) := by
 cases hg : g
 ·exact ⟨(none, 0, 0), (fun h => by cases h), (fun h => by cases h), (fun h => by cases h)⟩
 ·obtain ⟨_, vs, hc, hr⟩ := (h hg).atA (hx hg)
  obtain ⟨v1, rfl, h1⟩ := openT57 hr
  exact ⟨v1, fun _ => hc, fun _ => trivial, fun _ => h1⟩
theorem openT62 {M : Nat → Prop} {w : World} {vs : List Value} {x : (Int × Ex)} (h : ((RP (RI .i64) RExpr)).rd M w vs x) : ∃ v1 : SLV, vs = [(.int .i64 x.1), (.int .i64 x.2.op), (.int .i64 x.2.n), (.int .i64 x.2.at_), (sl v1)] ∧ SRd RExpr M w (sl v1) x.2.l := by
 obtain ⟨_, _, rfl, rfl, hz1⟩ := h
 obtain ⟨v1, rfl, h1⟩ := RExpr_open hz1
 exact ⟨v1, rfl, h1⟩
theorem cellsM62 {M : Nat → Prop} {w : World} {g : Bool} {v : Value} {xs : List (Int × Ex)} {i : Int} {x : (Int × Ex)} (h : g = true → SRd (RP (RI .i64) RExpr) M w v xs) (hx : g = true → idx xs i = some x) :
  ∃ (v1 : SLV), (g = true → CellsAt w (elA v i 5) [(.int .i64 x.1), (.int .i64 x.2.op), (.int .i64 x.2.n), (.int .i64 x.2.at_), (sl v1)]) ∧ (g = true → ¬ M (elA v i 5).block) ∧ (g = true → SRd RExpr M w (sl v1) x.2.l) := by
 cases hg : g
 ·exact ⟨(none, 0, 0), (fun h => by cases h), (fun h => by cases h), (fun h => by cases h)⟩
 ·obtain ⟨_, vs, hc, hr, hm⟩ := (h hg).atA (hx hg)
  obtain ⟨v1, rfl, h1⟩ := openT62 hr
  exact ⟨v1, fun _ => hc, fun _ => hm, fun _ => h1⟩
theorem cellsMO62 {M : Nat → Prop} {w : World} {g : Bool} {v : Value} {xs : List (Int × Ex)} {R : List Nat} {i : Int} {x : (Int × Ex)} (h : g = true → Own (RP (RI .i64) RExpr) 62 M w v xs R) (hx : g = true → idx xs i = some x) :
  ∃ (v1 : SLV), (g = true → CellsAt w (elA v i 5) [(.int .i64 x.1), (.int .i64 x.2.op), (.int .i64 x.2.n), (.int .i64 x.2.at_), (sl v1)]) ∧ (g = true → True) ∧ (g = true → SRd RExpr M w (sl v1) x.2.l) := by
 cases hg : g
 ·exact ⟨(none, 0, 0), (fun h => by cases h), (fun h => by cases h), (fun h => by cases h)⟩
 ·obtain ⟨_, vs, hc, hr⟩ := (h hg).atA (hx hg)
  obtain ⟨v1, rfl, h1⟩ := openT62 hr
  exact ⟨v1, fun _ => hc, fun _ => trivial, fun _ => h1⟩
theorem openT72 {M : Nat → Prop} {w : World} {vs : List Value} {x : (Int × Int)} (h : ((RP (RI .i64) (RI .i64))).rd M w vs x) : vs = [(.int .i64 x.1), (.int .i64 x.2)] := by
 obtain ⟨_, _, rfl, rfl, rfl⟩ := h
 rfl
theorem openT3 {M : Nat → Prop} {w : World} {vs : List Value} {x : Int} (h : ((RI .i64)).rd M w vs x) : vs = [(.int .i64 x)] := h
theorem openT22 {M : Nat → Prop} {w : World} {vs : List Value} {x : (List Int)} (h : ((RSl (RI .i64))).rd M w vs x) : ∃ v1 : SLV, vs = [(sl v1)] ∧ SRd (RI .i64) M w (sl v1) x := by
 obtain ⟨v1, rfl, h1⟩ := h
 exact ⟨v1, rfl, h1⟩
theorem cellsM22 {M : Nat → Prop} {w : World} {g : Bool} {v : Value} {xs : List (List Int)} {i : Int} {x : (List Int)} (h : g = true → SRd (RSl (RI .i64)) M w v xs) (hx : g = true → idx xs i = some x) :
  ∃ (v1 : SLV), (g = true → CellsAt w (elA v i 1) [(sl v1)]) ∧ (g = true → ¬ M (elA v i 1).block) ∧ (g = true → SRd (RI .i64) M w (sl v1) x) := by
 cases hg : g
 ·exact ⟨(none, 0, 0), (fun h => by cases h), (fun h => by cases h), (fun h => by cases h)⟩
 ·obtain ⟨_, vs, hc, hr, hm⟩ := (h hg).atA (hx hg)
  obtain ⟨v1, rfl, h1⟩ := openT22 hr
  exact ⟨v1, fun _ => hc, fun _ => hm, fun _ => h1⟩
theorem cellsMO22 {M : Nat → Prop} {w : World} {g : Bool} {v : Value} {xs : List (List Int)} {R : List Nat} {i : Int} {x : (List Int)} (h : g = true → Own (RSl (RI .i64)) 22 M w v xs R) (hx : g = true → idx xs i = some x) :
  ∃ (v1 : SLV), (g = true → CellsAt w (elA v i 1) [(sl v1)]) ∧ (g = true → True) ∧ (g = true → SRd (RI .i64) M w (sl v1) x) := by
 cases hg : g
 ·exact ⟨(none, 0, 0), (fun h => by cases h), (fun h => by cases h), (fun h => by cases h)⟩
 ·obtain ⟨_, vs, hc, hr⟩ := (h hg).atA (hx hg)
  obtain ⟨v1, rfl, h1⟩ := openT22 hr
  exact ⟨v1, fun _ => hc, fun _ => trivial, fun _ => h1⟩
theorem openT60 {M : Nat → Prop} {w : World} {vs : List Value} {x : (Int × Ex × (List (Int × Ex)))} (h : ((RP (RI .i64) (RP RExpr (RSl (RP (RI .i64) RExpr))))).rd M w vs x) : ∃ v1 : SLV, ∃ v2 : SLV, vs = [(.int .i64 x.1), (.int .i64 x.2.1.op), (.int .i64 x.2.1.n), (.int .i64 x.2.1.at_), (sl v1), (sl v2)] ∧ SRd RExpr M w (sl v1) x.2.1.l ∧ SRd (RP (RI .i64) RExpr) M w (sl v2) x.2.2 := by
 obtain ⟨_, _, rfl, rfl, ⟨_, _, rfl, hz1, ⟨v2, rfl, h2⟩⟩⟩ := h
 obtain ⟨v1, rfl, h1⟩ := RExpr_open hz1
 exact ⟨v1, v2, rfl, h1, h2⟩
theorem cellsM60 {M : Nat → Prop} {w : World} {g : Bool} {v : Value} {xs : List (Int × Ex × (List (Int × Ex)))} {i : Int} {x : (Int × Ex × (List (Int × Ex)))} (h : g = true → SRd (RP (RI .i64) (RP RExpr (RSl (RP (RI .i64) RExpr)))) M w v xs) (hx : g = true → idx xs i = some x) :
  ∃ (v1 v2 : SLV), (g = true → CellsAt w (elA v i 6) [(.int .i64 x.1), (.int .i64 x.2.1.op), (.int .i64 x.2.1.n), (.int .i64 x.2.1.at_), (sl v1), (sl v2)]) ∧ (g = true → ¬ M (elA v i 6).block) ∧ (g = true → SRd RExpr M w (sl v1) x.2.1.l) ∧ (g = true → SRd (RP (RI .i64) RExpr) M w (sl v2) x.2.2) := by
 cases hg : g
 ·exact ⟨(none, 0, 0), (none, 0, 0), (fun h => by cases h), (fun h => by cases h), (fun h => by cases h), (fun h => by cases h)⟩
 ·obtain ⟨_, vs, hc, hr, hm⟩ := (h hg).atA (hx hg)
  obtain ⟨v1, v2, rfl, h1, h2⟩ := openT60 hr
  exact ⟨v1, v2, fun _ => hc, fun _ => hm, fun _ => h1, fun _ => h2⟩
end Go.Proofs.YtjdabjpjafkogaaDoor
namespace Go.Proofs.YtjdabjpjafkogaaDoor
open Go.Proofs
set_option maxRecDepth 100000 in
set_option maxHeartbeats 4000000 in
theorem scrutinyref12_kind_ok {Φ : Ctx} {w : World} {c : Int} {r : Int} (hs : Sat (Φ) w) (hm : scrutinyref12_kind c = some r) :
  CallsR Tryd.prog 47 [(.int .u8 c)] w (fun v w' => v = (.int .i64 r) ∧ Sat (Φ) w') := by
 refine CallsX_enter Tryd.func47 rfl Tryd.ntmps47 rfl ?_
 unfold scrutinyref12_kind at hm
 refine WC_seq <| WC_region ?_
 refine Wo (Run_assign Opd.c) rfl <| ?_
 refine WL_nil <| At_then <| WC_seq <| WC_seq <| WC_region ?_
 refine Wo (Run_move (O rfl)) rfl <| ?_
 obtain ⟨b3, e4, hm⟩ := letv_some hm
 refine Wo (Run.eqB (Run_eqI (O rfl) Opd.c) e4) rfl <| Wo (Run_move (O rfl)) rfl <| Wg rfl guard_neg (Run_move (O rfl)) rfl <| ?_
 obtain ⟨b5, e6, hm⟩ := letv_some hm
 refine Wg rfl guard_neg (Run.eqB (Run_eqI (Opd.g rfl id) Opd.c) e6) rfl <| ?_
 obtain ⟨b7, e8, hm⟩ := letv_some hm
 refine Wo (Run.eqB (Run_or (O rfl) (Opd.g rfl id)) e8) rfl <| Wo (Run_move (O rfl)) rfl <| Wg rfl guard_neg (Run_move (O rfl)) rfl <| ?_
 obtain ⟨b9, e10, hm⟩ := letv_some hm
 refine Wg rfl guard_neg (Run.eqB (Run_eqI (Opd.g rfl id) Opd.c) e10) rfl <| ?_
 obtain ⟨b11, e12, hm⟩ := letv_some hm
 refine Wo (Run.eqB (Run_or (O rfl) (Opd.g rfl id)) e12) rfl <| Wo (Run_move (O rfl)) rfl <| Wg rfl guard_neg (Run_move (O rfl)) rfl <| ?_
 obtain ⟨b13, e14, hm⟩ := letv_some hm
 refine Wg rfl guard_neg (Run.eqB (Run_eqI (Opd.g rfl id) Opd.c) e14) rfl <| ?_
 obtain ⟨b15, e16, hm⟩ := letv_some hm
 refine Wo (Run.eqB (Run_or (O rfl) (Opd.g rfl id)) e16) rfl <| ?_
 refine WL_nil <| At_then ?_
 refine WC_cond (O rfl) (fun hc17 => ?_) (fun hc17 => ?_)
 ·
  replace hm := bif_t hc17 hm
  refine WC_seq <| WC_region ?_
  refine Wo (Run_assign Opd.c) rfl <| ?_
  refine WL_nil <| At_then ?_
  refine WC_ret ?_
  refine At_then_ret <| ?_
  refine At_r1 rfl (ResIs.t rfl) ?_
  cases hm
  exact ⟨rfl, (hs.re 0 [] rfl)⟩
 ·
  replace hm := bif_f hc17 hm
  refine WC_skip ?_
  refine At_then <| WC_seq <| WC_seq <| WC_region ?_
  refine Wo (Run_move (O rfl)) rfl <| ?_
  obtain ⟨b18, e19, hm⟩ := letv_some hm
  refine Wo (Run.eqB (Run_geI (O rfl) Opd.c) e19) rfl <| Wo (Run_move (O rfl)) rfl <| WL_opG rfl rfl rfl rfl guard_pos (Run_move (O rfl)) rfl rfl rfl <| ?_
  obtain ⟨b20, e21, hm⟩ := letv_some hm
  refine WL_opG rfl rfl rfl rfl guard_pos (Run.eqB (Run_leI (Opd.g rfl id) Opd.c) e21) rfl rfl rfl <| ?_
  obtain ⟨b22, e23, hm⟩ := letv_some hm
  refine Wo (Run.eqB (Run_and (O rfl) (Opd.g rfl id)) e23) rfl <| Wo (Run_move (O rfl)) rfl <| Wg rfl guard_neg (Run_move (O rfl)) rfl <| ?_
  obtain ⟨b24, e25, hm⟩ := letv_some hm
  refine Wg rfl guard_neg (Run.eqB (Run_geI (Opd.g rfl id) Opd.c) e25) rfl <| Wg rfl guard_neg (Run_move (Opd.g rfl id)) rfl <| WL_opG rfl rfl rfl rfl guard_pos' (Run_move (O rfl)) rfl rfl rfl <| ?_
  obtain ⟨b26, e27, hm⟩ := letv_some hm
  refine WL_opG rfl rfl rfl rfl guard_pos' (Run.eqB (Run_leI (Opd.g rfl id) Opd.c) e27) rfl rfl rfl <| ?_
  obtain ⟨b28, e29, hm⟩ := letv_some hm
  refine Wg rfl guard_neg (Run.eqB (Run_and (Opd.g rfl id) (Opd.g rfl id)) e29) rfl <| ?_
  obtain ⟨b30, e31, hm⟩ := letv_some hm
  refine Wo (Run.eqB (Run_or (O rfl) (Opd.g rfl id)) e31) rfl <| Wo (Run_move (O rfl)) rfl <| Wg rfl guard_neg (Run_move (O rfl)) rfl <| ?_
  obtain ⟨b32, e33, hm⟩ := letv_some hm
  refine Wg rfl guard_neg (Run.eqB (Run_eqI (Opd.g rfl id) Opd.c) e33) rfl <| ?_
  obtain ⟨b34, e35, hm⟩ := letv_some hm
  refine Wo (Run.eqB (Run_or (O rfl) (Opd.g rfl id)) e35) rfl <| ?_
  refine WL_nil <| At_then ?_
  refine WC_cond (O rfl) (fun hc36 => ?_) (fun hc36 => ?_)
  ·
   replace hm := bif_t hc36 hm
   refine WC_seq <| WC_region ?_
   refine Wo (Run_assign Opd.c) rfl <| ?_
   refine WL_nil <| At_then ?_
   refine WC_ret ?_
   refine At_then_ret <| ?_
   refine At_r1 rfl (ResIs.t rfl) ?_
   cases hm
   exact ⟨rfl, (hs.re 0 [] rfl)⟩
  ·
   replace hm := bif_f hc36 hm
   refine WC_skip ?_
   refine At_then <| WC_seq <| WC_seq <| WC_region ?_
   refine Wo (Run_move (O rfl)) rfl <| ?_
   obtain ⟨b37, e38, hm⟩ := letv_some hm
   refine Wo (Run.eqB (Run_geI (O rfl) Opd.c) e38) rfl <| Wo (Run_move (O rfl)) rfl <| WL_opG rfl rfl rfl rfl guard_pos (Run_move (O rfl)) rfl rfl rfl <| ?_
   obtain ⟨b39, e40, hm⟩ := letv_some hm
   refine WL_opG rfl rfl rfl rfl guard_pos (Run.eqB (Run_leI (Opd.g rfl id) Opd.c) e40) rfl rfl rfl <| ?_
   obtain ⟨b41, e42, hm⟩ := letv_some hm
   refine Wo (Run.eqB (Run_and (O rfl) (Opd.g rfl id)) e42) rfl <| ?_
   refine WL_nil <| At_then ?_
   refine WC_cond (O rfl) (fun hc43 => ?_) (fun hc43 => ?_)
   ·
    replace hm := bif_t hc43 hm
    refine WC_seq <| WC_region ?_
    refine Wo (Run_assign Opd.c) rfl <| ?_
    refine WL_nil <| At_then ?_
    refine WC_ret ?_
    refine At_then_ret <| ?_
    refine At_r1 rfl (ResIs.t rfl) ?_
    cases hm
    exact ⟨rfl, (hs.re 0 [] rfl)⟩
   ·
    replace hm := bif_f hc43 hm
    refine WC_skip ?_
    refine At_then <| WC_seq <| WC_region ?_
    refine Wo (Run_assign Opd.c) rfl <| ?_
    refine WL_nil <| At_then ?_
    refine WC_ret ?_
    refine At_r1 rfl (ResIs.t rfl) ?_
    cases hm
    exact ⟨rfl, (hs.re 0 [] rfl)⟩
set_option maxRecDepth 100000 in
set_option maxHeartbeats 4000000 in
theorem scrutinyref12_Signs_ok {Φ : Ctx} {w : World} {r : (List Str)} (hs : Sat (Φ) w) (hm : scrutinyref12_Signs = some r) :
  CallsR Tryd.prog 48 [] w (fun v w' => ∃ v3 : SLV, ∃ R4 : List Nat, v = (sl v3) ∧ Sat (osl RS 9 (sl v3) r R4 :: Φ) w') := by
 refine CallsX_enter Tryd.func48 rfl Tryd.ntmps48 rfl ?_
 unfold scrutinyref12_Signs at hm
 refine WC_seq <| WC_region ?_
 refine Wo (Run_assign Opd.c) rfl <| ?_
 refine WL_nil <| At_then <| WC_seq <| WC_region ?_
 refine WS_lit (A := RS) (xs := [[60, 45, 62], [45, 62], [61, 61], [33, 61], [60, 61], [62, 61], [60], [62], [61], [43], [45], [42], [40], [41], [123], [125], [59], [44], [58], [38], [124], [33]]) (zs := [(S [])]) (cells := [(S [60, 45, 62]), (S [45, 62]), (S [61, 61]), (S [33, 61]), (S [60, 61]), (S [62, 61]), (S [60]), (S [62]), (S [61]), (S [43]), (S [45]), (S [42]), (S [40]), (S [41]), (S [123]), (S [125]), (S [59]), (S [44]), (S [58]), (S [38]), (S [124]), (S [33])]) (parts := [(0, (.const (.string ⟨#[60, 45, 62]⟩))), (1, (.const (.string ⟨#[45, 62]⟩))), (2, (.const (.string ⟨#[61, 61]⟩))), (3, (.const (.string ⟨#[33, 61]⟩))), (4, (.const (.string ⟨#[60, 61]⟩))), (5, (.const (.string ⟨#[62, 61]⟩))), (6, (.const (.string ⟨#[60]⟩))), (7, (.const (.string ⟨#[62]⟩))), (8, (.const (.string ⟨#[61]⟩))), (9, (.const (.string ⟨#[43]⟩))), (10, (.const (.string ⟨#[45]⟩))), (11, (.const (.string ⟨#[42]⟩))), (12, (.const (.string ⟨#[40]⟩))), (13, (.const (.string ⟨#[41]⟩))), (14, (.const (.string ⟨#[123]⟩))), (15, (.const (.string ⟨#[125]⟩))), (16, (.const (.string ⟨#[59]⟩))), (17, (.const (.string ⟨#[44]⟩))), (18, (.const (.string ⟨#[58]⟩))), (19, (.const (.string ⟨#[38]⟩))), (20, (.const (.string ⟨#[124]⟩))), (21, (.const (.string ⟨#[33]⟩)))]) hs Tryd.underlying24 ti9 rfl rfl rfl (.cons Opd.c (.cons Opd.c (.cons Opd.c (.cons Opd.c (.cons Opd.c (.cons Opd.c (.cons Opd.c (.cons Opd.c (.cons Opd.c (.cons Opd.c (.cons Opd.c (.cons Opd.c (.cons Opd.c (.cons Opd.c (.cons Opd.c (.cons Opd.c (.cons Opd.c (.cons Opd.c (.cons Opd.c (.cons Opd.c (.cons Opd.c (.cons Opd.c .nil)))))))))))))))))))))) (by kernel_rfl) rfl (ARd.cons (A := RS) (c := [(S [60, 45, 62])]) (x := [60, 45, 62]) rfl (ARd.cons (A := RS) (c := [(S [45, 62])]) (x := [45, 62]) rfl (ARd.cons (A := RS) (c := [(S [61, 61])]) (x := [61, 61]) rfl (ARd.cons (A := RS) (c := [(S [33, 61])]) (x := [33, 61]) rfl (ARd.cons (A := RS) (c := [(S [60, 61])]) (x := [60, 61]) rfl (ARd.cons (A := RS) (c := [(S [62, 61])]) (x := [62, 61]) rfl (ARd.cons (A := RS) (c := [(S [60])]) (x := [60]) rfl (ARd.cons (A := RS) (c := [(S [62])]) (x := [62]) rfl (ARd.cons (A := RS) (c := [(S [61])]) (x := [61]) rfl (ARd.cons (A := RS) (c := [(S [43])]) (x := [43]) rfl (ARd.cons (A := RS) (c := [(S [45])]) (x := [45]) rfl (ARd.cons (A := RS) (c := [(S [42])]) (x := [42]) rfl (ARd.cons (A := RS) (c := [(S [40])]) (x := [40]) rfl (ARd.cons (A := RS) (c := [(S [41])]) (x := [41]) rfl (ARd.cons (A := RS) (c := [(S [123])]) (x := [123]) rfl (ARd.cons (A := RS) (c := [(S [125])]) (x := [125]) rfl (ARd.cons (A := RS) (c := [(S [59])]) (x := [59]) rfl (ARd.cons (A := RS) (c := [(S [44])]) (x := [44]) rfl (ARd.cons (A := RS) (c := [(S [58])]) (x := [58]) rfl (ARd.cons (A := RS) (c := [(S [38])]) (x := [38]) rfl (ARd.cons (A := RS) (c := [(S [124])]) (x := [124]) rfl (ARd.cons (A := RS) (c := [(S [33])]) (x := [33]) rfl ARd.nil)))))))))))))))))))))) rfl ?_
 intro b5 w6 hs
 replace hs := Sat.n1 (Γ := Φ) hs rfl
 refine Wo (Run_assign (O rfl)) rfl <| ?_
 refine WL_nil <| At_then ?_
 refine WC_ret ?_
 refine At_r1 rfl (ResIs.t rfl) ?_
 cases hm
 exact ⟨(some ⟨b5, 0, none⟩, 22, 22), [b5], rfl, (hs.re 1 [0] rfl)⟩
set_option maxRecDepth 100000 in
set_option maxHeartbeats 4000000 in
theorem scrutinyref12_Tokens_ok {Φ : Ctx} {w : World} {text : Str} {r : ((List (Int × Str × Int × Int)) × Int × Int)} (hs : Sat (Φ) w) (hm : scrutinyref12_Tokens text = some r) :
  CallsR Tryd.prog 35 [(S text)] w (fun v w' => ∃ v3 : SLV, ∃ R4 : List Nat, v = (.tuple #[(sl v3), (.int .i64 r.2.1), (.int .i64 r.2.2)]) ∧ Sat (osl (RP (RI .i64) (RP RS (RP (RI .i64) (RI .i64)))) 88 (sl v3) r.1 R4 :: Φ) w') := by
 refine CallsX_enter Tryd.func35 rfl Tryd.ntmps35 rfl ?_
 unfold scrutinyref12_Tokens at hm
 refine WC_seq <| WC_region ?_
 refine Wo (Run_assign Opd.c) rfl <| Wo (Run_assign Opd.c) rfl <| Wo (Run_assign Opd.c) rfl <| ?_
 refine WL_nil <| At_then <| WC_seq <| WC_seq <| WC_region ?_
 refine Wo (Run_move (O rfl)) rfl <| Wo (Run_lenS Tryd.underlying9 (O rfl)) rfl <| Wo (Run_gtI (O rfl) Opd.c) rfl <| ?_
 refine WL_nil <| At_then ?_
 refine WC_cond (O rfl) (fun hc7 => ?_) (fun hc7 => ?_)
 ·
  replace hm := bif_t hc7 hm
  refine WC_seq <| WC_region ?_
  refine Wo (Run_assign Opd.c) rfl <| Wo (Run_assign Opd.c) rfl <| Wo (Run_assign Opd.c) rfl <| ?_
  refine WL_nil <| At_then ?_
  refine WC_ret ?_
  refine At_then_ret <| ?_
  refine At_r3 rfl (ResIs.t rfl) (ResIs.t rfl) (ResIs.t rfl) ?_
  replace hs := hs.addNil (RP (RI .i64) (RP RS (RP (RI .i64) (RI .i64)))) 88
  cases hm
  exact ⟨(none, 0, 0), [], rfl, (hs.re 1 [0] rfl)⟩
 ·
  replace hm := bif_f hc7 hm
  refine WC_skip ?_
  refine At_then <| WC_seq <| WC_region ?_
  refine Wo (Run_assign Opd.c) rfl <| ?_
  refine WL_nil <| At_then <| WC_seq <| WC_region ?_
  refine Wo (Run_assign Opd.c) rfl <| ?_
  refine WL_nil <| At_then <| WC_seq ?_
  refine WC_block ?_
  replace hs := hs.addNil (RP (RI .i64) (RP RS (RP (RI .i64) (RI .i64)))) 88
  refine WC_loop (σ := (List (Int × Str × Int × Int)) × Int) (γ := SLV × List Nat) (F := (scrutinyref12_Tokens_L1 text)) (N := FUEL) (s0 := ([], 0)) (r := r) (fun ⟨out9, i12⟩ ⟨v10, R11⟩ w8 => Sat (osl (RP (RI .i64) (RP RS (RP (RI .i64) (RI .i64)))) 88 (sl v10) out9 R11 :: Φ) w8) (fun ⟨out9, i12⟩ ⟨v10, R11⟩ => [(0, true, (S text)), (5, true, (sl v10)), (6, true, (.int .i64 i12))]) hm ((none, 0, 0), []) (hs.re 1 [0] rfl) rfl ?_
  rintro again13 ⟨out9, i12⟩ ⟨v10, R11⟩ w8 hm hs
  unfold scrutinyref12_Tokens_L1 at hm
  dsimp only at hm
  refine WC_seq <| WC_seq <| WC_region ?_
  refine Wo (Run_move (O rfl)) rfl <| Wo (Run_move (O rfl)) rfl <| Wo (Run_lenS Tryd.underlying9 (O rfl)) rfl <| Wo (Run_ltI (O rfl) (O rfl)) rfl <| ?_
  refine WL_nil <| At_then ?_
  refine WC_cond (O rfl) (fun hc14 => ?_) (fun hc14 => ?_)
  ·
   replace hm := bif_t hc14 hm
   refine WC_skip ?_
   refine At_then ?_
   refine WC_block ?_
   refine WC_seq <| WC_region ?_
   refine Wo (Run_move (O rfl)) rfl <| Wo (Run_move (O rfl)) rfl <| ?_
   obtain ⟨k15, hm⟩ := chk_some hm
   refine Wo (Run_idxS Tryd.underlying9 (O rfl) (O rfl) (fun _ => k15)) rfl <| ?_
   obtain ⟨r16, hr17, hm⟩ := bind_some' hm
   refine WL_call (f := 47) (first := []) (cap := []) (xs := [(.tmp 22)]) (vs := [(.int .u8 (byteAt text i12))]) (args := [(.int .u8 (byteAt text i12))]) Tryd.call47 Opd.f (.cons (O rfl) .nil) rfl rfl (scrutinyref12_kind_ok (hs.re 1 [0] rfl) hr17) ?_
   rintro _ w18 ⟨rfl, hs⟩
   replace hs := Sat.n1 (Γ := Φ) hs rfl
   refine Wo (Run_assign (O rfl)) rfl <| ?_
   refine WL_nil <| At_then <| WC_seq <| WC_seq <| WC_region ?_
   refine Wo (Run_move (O rfl)) rfl <| Wo (Run_eqI (O rfl) Opd.c) rfl <| ?_
   refine WL_nil <| At_then ?_
   refine WC_cond (O rfl) (fun hc19 => ?_) (fun hc19 => ?_)
   ·
    replace hm := bif_t hc19 hm
    refine WC_seq <| WC_region ?_
    refine Wo (Run_move (O rfl)) rfl <| Wo (Run_add (O rfl) Opd.c) rfl <| Wo (Run_assign (O rfl)) rfl <| ?_
    refine WL_nil <| At_then ?_
    refine WC_exit ?_
    refine At_then_exit <| At_blk_here <| ?_
    exact At_again (out9, (IntKind.i64.wrap (i12 + 1))) (v10, R11) hm (hs.re 1 [0] rfl) rfl
   ·
    replace hm := bif_f hc19 hm
    refine WC_skip ?_
    refine At_then <| WC_seq <| WC_seq <| WC_region ?_
    refine Wo (Run_move (O rfl)) rfl <| Wo (Run_move (O rfl)) rfl <| ?_
    obtain ⟨k20, hm⟩ := chk_some hm
    refine Wo (Run_idxS Tryd.underlying9 (O rfl) (O rfl) (fun _ => k20)) rfl <| Wo (Run_eqI (O rfl) Opd.c) rfl <| ?_
    refine WL_nil <| At_then ?_
    refine WC_cond (O rfl) (fun hc21 => ?_) (fun hc21 => ?_)
    ·
     replace hm := bif_t hc21 hm
     refine WC_seq ?_
     refine WC_block ?_
     refine WC_loop (σ := Int) (γ := Unit) (F := (scrutinyref12_Tokens_L2 text out9 again13)) (N := FUEL) (s0 := i12) (r := r) (fun i23 (_ : Unit) w22 => Sat (osl (RP (RI .i64) (RP RS (RP (RI .i64) (RI .i64)))) 88 (sl v10) out9 R11 :: Φ) w22) (fun i23 (_ : Unit) => [(0, true, (S text)), (5, true, (sl v10)), (6, true, (.int .i64 i23))]) hm () (hs.re 1 [0] rfl) rfl ?_
     rintro again24 i23 _ w22 hm hs
     unfold scrutinyref12_Tokens_L2 at hm
     refine WC_seq <| WC_seq <| WC_region ?_
     refine Wo (Run_move (O rfl)) rfl <| Wo (Run_move (O rfl)) rfl <| Wo (Run_lenS Tryd.underlying9 (O rfl)) rfl <| ?_
     obtain ⟨b25, e26, hm⟩ := letv_some hm
     refine Wo (Run.eqB (Run_ltI (O rfl) (O rfl)) e26) rfl <| Wo (Run_move (O rfl)) rfl <| WL_opG rfl rfl rfl rfl guard_pos (Run_move (O rfl)) rfl rfl rfl <| WL_opG rfl rfl rfl rfl guard_pos (Run_move (O rfl)) rfl rfl rfl <| ?_
     obtain ⟨k27, hm⟩ := chkG_some hm
     refine WL_opG rfl rfl rfl rfl guard_pos (Run_idxS Tryd.underlying9 (Opd.g rfl id) (Opd.g rfl id) k27) rfl rfl rfl <| ?_
     obtain ⟨b28, e29, hm⟩ := letv_some hm
     refine WL_opG rfl rfl rfl rfl guard_pos (Run.eqB (Run_neI (Opd.g rfl id) Opd.c) e29) rfl rfl rfl <| ?_
     obtain ⟨b30, e31, hm⟩ := letv_some hm
     refine Wo (Run.eqB (Run_and (O rfl) (Opd.g rfl id)) e31) rfl <| ?_
     refine WL_nil <| At_then ?_
     refine WC_cond (O rfl) (fun hc32 => ?_) (fun hc32 => ?_)
     ·
      replace hm := bif_t hc32 hm
      refine WC_skip ?_
      refine At_then ?_
      refine WC_block ?_
      refine WC_region ?_
      refine Wo (Run_move (O rfl)) rfl <| Wo (Run_add (O rfl) Opd.c) rfl <| Wo (Run_assign (O rfl)) rfl <| ?_
      refine WL_nil ?_
      refine At_blk_normal ?_
      exact At_again (IntKind.i64.wrap (i23 + 1)) () hm (hs.re 1 [0] rfl) rfl
     ·
      replace hm := bif_f hc32 hm
      refine WC_exit ?_
      refine At_then_exit <| At_then_exit <| At_blk_here <| ?_
      refine At_then ?_
      refine WC_exit ?_
      refine At_then_exit <| At_blk_here <| ?_
      exact At_again (out9, i23) (v10, R11) hm (hs.re 1 [0] rfl) rfl
    ·
     replace hm := bif_f hc21 hm
     refine WC_skip ?_
     refine At_then <| WC_seq <| WC_region ?_
     refine Wo (Run_move (O rfl)) rfl <| Wo (Run_assign (O rfl)) rfl <| ?_
     refine WL_nil <| At_then <| WC_seq <| WC_seq <| WC_region ?_
     refine Wo (Run_move (O rfl)) rfl <| Wo (Run_eqI (O rfl) Opd.c) rfl <| ?_
     refine WL_nil <| At_then ?_
     refine WC_cond (O rfl) (fun hc33 => ?_) (fun hc33 => ?_)
     ·
      replace hm := bif_t hc33 hm
      refine WC_seq ?_
      refine WC_block ?_
      refine WC_loop (σ := Int) (γ := Unit) (F := (scrutinyref12_Tokens_L3 text out9 i12 again13)) (N := FUEL) (s0 := i12) (r := r) (fun i35 (_ : Unit) w34 => Sat (osl (RP (RI .i64) (RP RS (RP (RI .i64) (RI .i64)))) 88 (sl v10) out9 R11 :: Φ) w34) (fun i35 (_ : Unit) => [(0, true, (S text)), (5, true, (sl v10)), (6, true, (.int .i64 i35)), (8, true, (.int .i64 i12))]) hm () (hs.re 1 [0] rfl) rfl ?_
      rintro again36 i35 _ w34 hm hs
      unfold scrutinyref12_Tokens_L3 at hm
      refine WC_seq <| WC_seq <| WC_region ?_
      refine Wo (Run_move (O rfl)) rfl <| Wo (Run_move (O rfl)) rfl <| Wo (Run_lenS Tryd.underlying9 (O rfl)) rfl <| ?_
      obtain ⟨b37, e38, hm⟩ := letv_some hm
      refine Wo (Run.eqB (Run_ltI (O rfl) (O rfl)) e38) rfl <| Wo (Run_move (O rfl)) rfl <| WL_opG rfl rfl rfl rfl guard_pos (Run_move (O rfl)) rfl rfl rfl <| WL_opG rfl rfl rfl rfl guard_pos (Run_move (O rfl)) rfl rfl rfl <| ?_
      obtain ⟨k39, hm⟩ := chkG_some hm
      refine WL_opG rfl rfl rfl rfl guard_pos (Run_idxS Tryd.underlying9 (Opd.g rfl id) (Opd.g rfl id) k39) rfl rfl rfl <| ?_
      obtain ⟨r40, hr41, -, hm⟩ := callG_some hm
      refine WL_callG rfl rfl rfl guard_pos (f := 47) (first := []) (cap := []) (xs := [(.tmp 54)]) (vs := [(.int .u8 (byteAt text i35))]) (args := [(.int .u8 (byteAt text i35))]) Tryd.call47 Opd.f (.cons (Opd.g rfl id) .nil) rfl rfl (fun hg => scrutinyref12_kind_ok (hs.re 1 [0] rfl) (hr41 hg)) ?_
      intro v43 w42 hv44 hz45
      replace hs := Sat.ofG (fun hg => (hv44 hg).2.re 1 [0] rfl) hz45 hs
      refine WL_sub1 (v := (.int .i64 r40)) (fun hg => (hv44 hg).1) ?_
      replace hs := Sat.n1 (Γ := Φ) hs rfl
      obtain ⟨b46, e47, hm⟩ := letv_some hm
      refine WL_opG rfl rfl rfl rfl guard_pos (Run.eqB (Run_eqI (Opd.g rfl id) Opd.c) e47) rfl rfl rfl <| WL_opG rfl rfl rfl rfl guard_pos (Run_move (Opd.g rfl id)) rfl rfl rfl <| WL_opG rfl rfl rfl rfl guard_neg' (Run_move (O rfl)) rfl rfl rfl <| WL_opG rfl rfl rfl rfl guard_neg' (Run_move (O rfl)) rfl rfl rfl <| ?_
      obtain ⟨k48, hm⟩ := chkG_some hm
      refine WL_opG rfl rfl rfl rfl guard_neg' (Run_idxS Tryd.underlying9 (Opd.g rfl id) (Opd.g rfl id) k48) rfl rfl rfl <| ?_
      obtain ⟨r49, hr50, -, hm⟩ := callG_some hm
      refine WL_callG rfl rfl rfl guard_neg' (f := 47) (first := []) (cap := []) (xs := [(.tmp 60)]) (vs := [(.int .u8 (byteAt text i35))]) (args := [(.int .u8 (byteAt text i35))]) Tryd.call47 Opd.f (.cons (Opd.g rfl id) .nil) rfl rfl (fun hg => scrutinyref12_kind_ok (hs.re 1 [0] rfl) (hr50 hg)) ?_
      intro v52 w51 hv53 hz54
      replace hs := Sat.ofG (fun hg => (hv53 hg).2.re 1 [0] rfl) hz54 hs
      refine WL_sub1 (v := (.int .i64 r49)) (fun hg => (hv53 hg).1) ?_
      replace hs := Sat.n1 (Γ := Φ) hs rfl
      obtain ⟨b55, e56, hm⟩ := letv_some hm
      refine WL_opG rfl rfl rfl rfl guard_neg' (Run.eqB (Run_eqI (Opd.g rfl id) Opd.c) e56) rfl rfl rfl <| ?_
      obtain ⟨b57, e58, hm⟩ := letv_some hm
      refine WL_opG rfl rfl rfl rfl guard_pos (Run.eqB (Run_or (Opd.g rfl id) (Opd.g rfl id)) e58) rfl rfl rfl <| ?_
      obtain ⟨b59, e60, hm⟩ := letv_some hm
      refine Wo (Run.eqB (Run_and (O rfl) (Opd.g rfl id)) e60) rfl <| ?_
      refine WL_nil <| At_then ?_
      refine WC_cond (O rfl) (fun hc61 => ?_) (fun hc61 => ?_)
      ·
       replace hm := bif_t hc61 hm
       refine WC_skip ?_
       refine At_then ?_
       refine WC_block ?_
       refine WC_region ?_
       refine Wo (Run_move (O rfl)) rfl <| Wo (Run_add (O rfl) Opd.c) rfl <| Wo (Run_assign (O rfl)) rfl <| ?_
       refine WL_nil ?_
       refine At_blk_normal ?_
       exact At_again (IntKind.i64.wrap (i35 + 1)) () hm (hs.re 1 [0] rfl) rfl
      ·
       replace hm := bif_f hc61 hm
       refine WC_exit ?_
       refine At_then_exit <| At_then_exit <| At_blk_here <| ?_
       refine At_then <| WC_seq <| WC_seq <| WC_region ?_
       refine Wo (Run_move (O rfl)) rfl <| Wo (Run_move (O rfl)) rfl <| Wo (Run_sub (O rfl) (O rfl)) rfl <| Wo (Run_gtI (O rfl) Opd.c) rfl <| ?_
       refine WL_nil <| At_then ?_
       refine WC_cond (O rfl) (fun hc62 => ?_) (fun hc62 => ?_)
       ·
        replace hm := bif_t hc62 hm
        refine WC_seq <| WC_region ?_
        refine Wo (Run_move (O rfl)) rfl <| Wo (Run_assign Opd.c) rfl <| Wo (Run_assign Opd.c) rfl <| Wo (Run_assign (O rfl)) rfl <| ?_
        refine WL_nil <| At_then ?_
        refine WC_ret ?_
        refine At_then_ret <| At_then_ret <| At_blk_ret <| At_then_ret <| At_blk_ret <| At_then_ret <| ?_
        refine At_r3 rfl (ResIs.t rfl) (ResIs.t rfl) (ResIs.t rfl) ?_
        replace hs := hs.addNil (RP (RI .i64) (RP RS (RP (RI .i64) (RI .i64)))) 88
        cases hm
        exact ⟨(none, 0, 0), [], rfl, (hs.re 2 [0] rfl)⟩
       ·
        replace hm := bif_f hc62 hm
        refine WC_skip ?_
        refine At_then <| WC_seq <| WC_region ?_
        refine Wo (Run_move (O rfl)) rfl <| Wo (Run_move (O rfl)) rfl <| Wo (Run_move (O rfl)) rfl <| Wo (Run_move (O rfl)) rfl <| ?_
        obtain ⟨k63, hm⟩ := chk_some hm
        refine Wo (Run_cutS (lo := (some (.tmp 74))) (hi := (some (.tmp 75))) Tryd.underlying9 (O rfl) ⟨_, (O rfl)⟩ ⟨_, (O rfl)⟩ (fun _ => k63)) rfl <| Wo (Run_move (O rfl)) rfl <| Wo (Run_build (parts := [(0, (.const (.int .i64 1))), (1, (.tmp 76)), (3, (.tmp 77))]) (v := (.agg #[(.int .i64 1), (S (cut text i12 i35)), (.int .i64 0), (.int .i64 i12)])) (.cons Opd.c (.cons (O rfl) (.cons (O rfl) .nil))) (fun _ => by kernel_rfl)) rfl <| ?_
        refine WS_lit (A := (RP (RI .i64) (RP RS (RP (RI .i64) (RI .i64))))) (xs := [(1, (cut text i12 i35), 0, i12)]) (zs := [(.int .i64 0), (S []), (.int .i64 0), (.int .i64 0)]) (cells := [(.int .i64 1), (S (cut text i12 i35)), (.int .i64 0), (.int .i64 i12)]) (parts := [(0, (.tmp 78))]) hs Tryd.underlying82 ti88 rfl rfl rfl (.cons (O rfl) .nil) (by kernel_rfl) rfl (ARd.cons (A := (RP (RI .i64) (RP RS (RP (RI .i64) (RI .i64))))) (c := [(.int .i64 1), (S (cut text i12 i35)), (.int .i64 0), (.int .i64 i12)]) (x := (1, (cut text i12 i35), 0, i12)) ⟨_, _, rfl, rfl, ⟨_, _, rfl, rfl, ⟨_, _, rfl, rfl, rfl⟩⟩⟩ ARd.nil) rfl ?_
        intro b64 w65 hs
        replace hs := Sat.n2 (Γ := Φ) hs rfl
        replace hs := hs.freeze (i := 0) rfl
        obtain ⟨k66, hm⟩ := chk_some hm
        refine WS_append (A := (RP (RI .i64) (RP RS (RP (RI .i64) (RI .i64))))) hs 1 rfl Tryd.underlying82 ti88 rfl rfl (O rfl) (O rfl) (hs.sl (i := 0) rfl) k66 rfl ?_
        intro v67 R68 w69 hs
        replace hs := Sat.n2 (Γ := Φ) hs rfl
        refine Wo (Run_assign (O rfl)) rfl <| ?_
        refine WL_nil <| At_then ?_
        refine WC_exit ?_
        refine At_then_exit <| At_blk_here <| ?_
        exact At_again ((out9 ++ ([(1, (cut text i12 i35), 0, i12)] : List (Int × Str × Int × Int))), i35) (v67, R68) hm (hs.re 2 [1] rfl) rfl
     ·
      replace hm := bif_f hc33 hm
      refine WC_skip ?_
      refine At_then <| WC_seq <| WC_seq <| WC_region ?_
      refine Wo (Run_move (O rfl)) rfl <| Wo (Run_eqI (O rfl) Opd.c) rfl <| ?_
      refine WL_nil <| At_then ?_
      refine WC_cond (O rfl) (fun hc70 => ?_) (fun hc70 => ?_)
      ·
       replace hm := bif_t hc70 hm
       refine WC_seq <| WC_region ?_
       refine Wo (Run_assign Opd.c) rfl <| ?_
       refine WL_nil <| At_then <| WC_seq ?_
       refine WC_block ?_
       refine WC_loop (σ := Int × Int) (γ := Unit) (F := (scrutinyref12_Tokens_L4 text out9 i12 again13)) (N := FUEL) (s0 := (i12, 0)) (r := r) (fun ⟨i72, n73⟩ (_ : Unit) w71 => Sat (osl (RP (RI .i64) (RP RS (RP (RI .i64) (RI .i64)))) 88 (sl v10) out9 R11 :: Φ) w71) (fun ⟨i72, n73⟩ (_ : Unit) => [(0, true, (S text)), (5, true, (sl v10)), (6, true, (.int .i64 i72)), (8, true, (.int .i64 i12)), (9, true, (.int .i64 n73))]) hm () (hs.re 1 [0] rfl) rfl ?_
       rintro again74 ⟨i72, n73⟩ _ w71 hm hs
       unfold scrutinyref12_Tokens_L4 at hm
       dsimp only at hm
       refine WC_seq <| WC_seq <| WC_region ?_
       refine Wo (Run_move (O rfl)) rfl <| Wo (Run_move (O rfl)) rfl <| Wo (Run_lenS Tryd.underlying9 (O rfl)) rfl <| ?_
       obtain ⟨b75, e76, hm⟩ := letv_some hm
       refine Wo (Run.eqB (Run_ltI (O rfl) (O rfl)) e76) rfl <| Wo (Run_move (O rfl)) rfl <| WL_opG rfl rfl rfl rfl guard_pos (Run_move (O rfl)) rfl rfl rfl <| WL_opG rfl rfl rfl rfl guard_pos (Run_move (O rfl)) rfl rfl rfl <| ?_
       obtain ⟨k77, hm⟩ := chkG_some hm
       refine WL_opG rfl rfl rfl rfl guard_pos (Run_idxS Tryd.underlying9 (Opd.g rfl id) (Opd.g rfl id) k77) rfl rfl rfl <| ?_
       obtain ⟨r78, hr79, -, hm⟩ := callG_some hm
       refine WL_callG rfl rfl rfl guard_pos (f := 47) (first := []) (cap := []) (xs := [(.tmp 90)]) (vs := [(.int .u8 (byteAt text i72))]) (args := [(.int .u8 (byteAt text i72))]) Tryd.call47 Opd.f (.cons (Opd.g rfl id) .nil) rfl rfl (fun hg => scrutinyref12_kind_ok (hs.re 1 [0] rfl) (hr79 hg)) ?_
       intro v81 w80 hv82 hz83
       replace hs := Sat.ofG (fun hg => (hv82 hg).2.re 1 [0] rfl) hz83 hs
       refine WL_sub1 (v := (.int .i64 r78)) (fun hg => (hv82 hg).1) ?_
       replace hs := Sat.n1 (Γ := Φ) hs rfl
       obtain ⟨b84, e85, hm⟩ := letv_some hm
       refine WL_opG rfl rfl rfl rfl guard_pos (Run.eqB (Run_eqI (Opd.g rfl id) Opd.c) e85) rfl rfl rfl <| ?_
       obtain ⟨b86, e87, hm⟩ := letv_some hm
       refine Wo (Run.eqB (Run_and (O rfl) (Opd.g rfl id)) e87) rfl <| ?_
       refine WL_nil <| At_then ?_
       refine WC_cond (O rfl) (fun hc88 => ?_) (fun hc88 => ?_)
       ·
        replace hm := bif_t hc88 hm
        refine WC_skip ?_
        refine At_then ?_
        refine WC_block ?_
        refine WC_seq <| WC_seq <| WC_region ?_
        refine Wo (Run_move (O rfl)) rfl <| Wo (Run_leI (O rfl) Opd.c) rfl <| ?_
        refine WL_nil <| At_then ?_
        refine WC_cond (O rfl) (fun hc89 => ?_) (fun hc89 => ?_)
        ·
         replace hm := bif_t hc89 hm
         refine WC_region ?_
         refine Wo (Run_move (O rfl)) rfl <| Wo (Run_mul Opd.c (O rfl)) rfl <| Wo (Run_move (O rfl)) rfl <| Wo (Run_move (O rfl)) rfl <| ?_
         obtain ⟨k90, hm⟩ := chk_some hm
         refine Wo (Run_idxS Tryd.underlying9 (O rfl) (O rfl) (fun _ => k90)) rfl <| Wo (Run_conv Tryd.underlying5 Tryd.underlying3 (O rfl)) rfl <| Wo (Run_add (O rfl) (O rfl)) rfl <| Wo (Run_sub (O rfl) Opd.c) rfl <| Wo (Run_assign (O rfl)) rfl <| ?_
         refine WL_nil <| At_then <| WC_region ?_
         refine Wo (Run_move (O rfl)) rfl <| Wo (Run_add (O rfl) Opd.c) rfl <| Wo (Run_assign (O rfl)) rfl <| ?_
         refine WL_nil ?_
         refine At_blk_normal ?_
         exact At_again ((IntKind.i64.wrap (i72 + 1)), (IntKind.i64.wrap ((IntKind.i64.wrap ((IntKind.i64.wrap (10 * n73)) + (IntKind.i64.wrap (byteAt text i72)))) - 48))) () hm (hs.re 1 [0] rfl) rfl
        ·
         replace hm := bif_f hc89 hm
         refine WC_skip ?_
         refine At_then <| WC_region ?_
         refine Wo (Run_move (O rfl)) rfl <| Wo (Run_add (O rfl) Opd.c) rfl <| Wo (Run_assign (O rfl)) rfl <| ?_
         refine WL_nil ?_
         refine At_blk_normal ?_
         exact At_again ((IntKind.i64.wrap (i72 + 1)), n73) () hm (hs.re 1 [0] rfl) rfl
       ·
        replace hm := bif_f hc88 hm
        refine WC_exit ?_
        refine At_then_exit <| At_then_exit <| At_blk_here <| ?_
        refine At_then <| WC_seq <| WC_seq <| WC_region ?_
        refine Wo (Run_move (O rfl)) rfl <| Wo (Run_gtI (O rfl) Opd.c) rfl <| ?_
        refine WL_nil <| At_then ?_
        refine WC_cond (O rfl) (fun hc91 => ?_) (fun hc91 => ?_)
        ·
         replace hm := bif_t hc91 hm
         refine WC_seq <| WC_region ?_
         refine Wo (Run_move (O rfl)) rfl <| Wo (Run_assign Opd.c) rfl <| Wo (Run_assign Opd.c) rfl <| Wo (Run_assign (O rfl)) rfl <| ?_
         refine WL_nil <| At_then ?_
         refine WC_ret ?_
         refine At_then_ret <| At_then_ret <| At_blk_ret <| At_then_ret <| At_blk_ret <| At_then_ret <| ?_
         refine At_r3 rfl (ResIs.t rfl) (ResIs.t rfl) (ResIs.t rfl) ?_
         replace hs := hs.addNil (RP (RI .i64) (RP RS (RP (RI .i64) (RI .i64)))) 88
         cases hm
         exact ⟨(none, 0, 0), [], rfl, (hs.re 2 [0] rfl)⟩
        ·
         replace hm := bif_f hc91 hm
         refine WC_skip ?_
         refine At_then <| WC_seq <| WC_region ?_
         refine Wo (Run_move (O rfl)) rfl <| Wo (Run_move (O rfl)) rfl <| Wo (Run_move (O rfl)) rfl <| Wo (Run_move (O rfl)) rfl <| ?_
         obtain ⟨k92, hm⟩ := chk_some hm
         refine Wo (Run_cutS (lo := (some (.tmp 111))) (hi := (some (.tmp 112))) Tryd.underlying9 (O rfl) ⟨_, (O rfl)⟩ ⟨_, (O rfl)⟩ (fun _ => k92)) rfl <| Wo (Run_move (O rfl)) rfl <| Wo (Run_move (O rfl)) rfl <| Wo (Run_build (parts := [(0, (.const (.int .i64 2))), (1, (.tmp 113)), (2, (.tmp 114)), (3, (.tmp 115))]) (v := (.agg #[(.int .i64 2), (S (cut text i12 i72)), (.int .i64 n73), (.int .i64 i12)])) (.cons Opd.c (.cons (O rfl) (.cons (O rfl) (.cons (O rfl) .nil)))) (fun _ => by kernel_rfl)) rfl <| ?_
         refine WS_lit (A := (RP (RI .i64) (RP RS (RP (RI .i64) (RI .i64))))) (xs := [(2, (cut text i12 i72), n73, i12)]) (zs := [(.int .i64 0), (S []), (.int .i64 0), (.int .i64 0)]) (cells := [(.int .i64 2), (S (cut text i12 i72)), (.int .i64 n73), (.int .i64 i12)]) (parts := [(0, (.tmp 116))]) hs Tryd.underlying82 ti88 rfl rfl rfl (.cons (O rfl) .nil) (by kernel_rfl) rfl (ARd.cons (A := (RP (RI .i64) (RP RS (RP (RI .i64) (RI .i64))))) (c := [(.int .i64 2), (S (cut text i12 i72)), (.int .i64 n73), (.int .i64 i12)]) (x := (2, (cut text i12 i72), n73, i12)) ⟨_, _, rfl, rfl, ⟨_, _, rfl, rfl, ⟨_, _, rfl, rfl, rfl⟩⟩⟩ ARd.nil) rfl ?_
         intro b93 w94 hs
         replace hs := Sat.n2 (Γ := Φ) hs rfl
         replace hs := hs.freeze (i := 0) rfl
         obtain ⟨k95, hm⟩ := chk_some hm
         refine WS_append (A := (RP (RI .i64) (RP RS (RP (RI .i64) (RI .i64))))) hs 1 rfl Tryd.underlying82 ti88 rfl rfl (O rfl) (O rfl) (hs.sl (i := 0) rfl) k95 rfl ?_
         intro v96 R97 w98 hs
         replace hs := Sat.n2 (Γ := Φ) hs rfl
         refine Wo (Run_assign (O rfl)) rfl <| ?_
         refine WL_nil <| At_then ?_
         refine WC_exit ?_
         refine At_then_exit <| At_blk_here <| ?_
         exact At_again ((out9 ++ ([(2, (cut text i12 i72), n73, i12)] : List (Int × Str × Int × Int))), i72) (v96, R97) hm (hs.re 2 [1] rfl) rfl
      ·
       replace hm := bif_f hc70 hm
       refine WC_skip ?_
       refine At_then <| WC_seq <| WC_region ?_
       obtain ⟨r99, hr100, hm⟩ := bind_some' hm
       refine WL_call (f := 48) (first := []) (cap := []) (xs := []) (vs := []) (args := []) Tryd.call48 Opd.f .nil rfl rfl (scrutinyref12_Signs_ok (hs.re 1 [0] rfl) hr100) ?_
       rintro _ w103 ⟨v101, R102, rfl, hs⟩
       replace hs := Sat.n2 (Γ := Φ) hs rfl
       refine Wo (Run_assign (O rfl)) rfl <| ?_
       refine WL_nil <| At_then <| WC_seq <| WC_region ?_
       refine Wo (Run_assign Opd.c) rfl <| ?_
       refine WL_nil <| At_then <| WC_seq <| WC_seq <| WC_region ?_
       refine Wo (Run_assign Opd.c) rfl <| ?_
       refine WL_nil <| At_then ?_
       refine WC_block ?_
       refine WC_loop (σ := Str × Int) (γ := Unit) (F := (scrutinyref12_Tokens_L5 text out9 i12 again13 r99)) (N := FUEL) (s0 := ([], 0)) (r := r) (fun ⟨s105, j106⟩ (_ : Unit) w104 => Sat (osl (RP (RI .i64) (RP RS (RP (RI .i64) (RI .i64)))) 88 (sl v10) out9 R11 :: osl RS 9 (sl v101) r99 R102 :: Φ) w104) (fun ⟨s105, j106⟩ (_ : Unit) => [(0, true, (S text)), (5, true, (sl v10)), (8, true, (.int .i64 i12)), (10, true, (sl v101)), (11, true, (S s105)), (12, true, (.int .i64 j106))]) hm () (hs.re 2 [1, 0] rfl) rfl ?_
       rintro again107 ⟨s105, j106⟩ _ w104 hm hs
       unfold scrutinyref12_Tokens_L5 at hm
       dsimp only at hm
       refine WC_seq <| WC_seq <| WC_region ?_
       refine Wo (Run_move (O rfl)) rfl <| Wo (Run_move (O rfl)) rfl <| Wo (Run_lenSlG Tryd.underlying24 (O rfl) (fun _ => (hs.own (i := 1) rfl).len)) rfl <| ?_
       obtain ⟨b108, e109, hm⟩ := letv_some hm
       refine Wo (Run.eqB (Run_ltI (O rfl) (O rfl)) e109) rfl <| Wo (Run_move (O rfl)) rfl <| WL_opG rfl rfl rfl rfl guard_pos (Run_move (O rfl)) rfl rfl rfl <| ?_
       obtain ⟨b110, e111, hm⟩ := letv_some hm
       refine WL_opG rfl rfl rfl rfl guard_pos (Run.eqB (Run_eqS (Opd.g rfl id) Opd.c) e111) rfl rfl rfl <| ?_
       obtain ⟨b112, e113, hm⟩ := letv_some hm
       refine Wo (Run.eqB (Run_and (O rfl) (Opd.g rfl id)) e113) rfl <| ?_
       refine WL_nil <| At_then ?_
       refine WC_cond (O rfl) (fun hc114 => ?_) (fun hc114 => ?_)
       ·
        replace hm := bif_t hc114 hm
        refine WC_skip ?_
        refine At_then <| WC_seq ?_
        refine WC_block ?_
        refine WC_seq ?_
        refine WC_region_mixed [0, 0, 3, 4, 8, 0, 32, 0, 192, 272, 512, 1024, 1024, 1024, 1024, 1024, 50176, 66560, 132096, 271360, 531456, 1024, 1024, 6292480, 8389632, 17826816, 33555456] (.q 0 0 (.q 1 1 (.q 2 3 (.q 3 7 (.q 4 15 (.q 5 31 (.q 6 63 (.q 7 127 (.q 8 255 (.q 9 511 (.q 10 1023 (.q 11 2047 (.q 12 4095 (.q 13 8191 (.q 14 16383 (.q 15 32767 (.q 16 65535 (.q 17 131071 (.q 18 262143 (.q 19 524287 (.q 20 1048575 (.q 21 2097151 (.q 22 4194303 (.q 23 8388607 (.q 24 16777215 (.q 25 33554431 (.q 26 67108863 .nil))))))))))))))))))))))))))) (by kernel_rfl) (by kernel_rfl) ?_
        intro w115 hx116
        replace hs := hs.ext hx116
        refine WD_pure (fun _ => (Run_move (O rfl))) rfl rfl rfl rfl <| WD_pure (fun _ => (Run_move (O rfl))) rfl rfl rfl rfl <| ?_
        obtain ⟨e117, he118, hm⟩ := bind_some' hm
        refine WD_pure (fun _ => (Run_idxAddr (p := (elA (sl v101) j106 1)) Tryd.underlying24 ti9 (O rfl) (O rfl) (fun hg => (Own.atA (A := RS) (v := (sl v101)) (hs.own (i := 1) rfl) he118).1))) rfl rfl rfl rfl <| WD_op (fun w => true = true → CellsAt w (elA (sl v101) j106 1) [(S e117)]) (fun hg => (Own.cellsF (A := RS) (v := (sl v101)) (hs.own (i := 1) rfl) he118 (fun _ h => openT9 h)).sub 0 rfl) (fun _ hJ => (Run_load1 (v := (S e117)) Tryd.underlying9 rfl (O rfl) hJ)) rfl rfl rfl rfl <| WD_pure (fun _ => (Run_lenS Tryd.underlying9 (O rfl))) rfl rfl rfl rfl <| WD_pure (fun _ => (Run_move (O rfl))) rfl rfl rfl rfl <| WD_pure (fun _ => (Run_lenS Tryd.underlying9 (O rfl))) rfl rfl rfl rfl <| WD_pure (fun _ => (Run_move (O rfl))) rfl rfl rfl rfl <| WD_pure (fun _ => (Run_sub (O rfl) (O rfl))) rfl rfl rfl rfl <| ?_
        obtain ⟨b119, e120, hm⟩ := letv_some hm
        refine WD_pure (fun _ => (Run.eqB (Run_leI (O rfl) (O rfl)) e120)) rfl rfl rfl rfl <| WD_pure (fun _ => (Run_move (O rfl))) rfl rfl rfl rfl <| WD_pureG rfl rfl rfl rfl guard_pos (fun _ => (Run_move (O rfl))) rfl rfl rfl <| WD_pureG rfl rfl rfl rfl guard_pos (fun _ => (Run_move (O rfl))) rfl rfl rfl <| WD_pureG rfl rfl rfl rfl guard_pos (fun _ => (Run_move (O rfl))) rfl rfl rfl <| WD_pureG rfl rfl rfl rfl guard_pos (fun _ => (Run_move (O rfl))) rfl rfl rfl <| WD_pureG rfl rfl rfl rfl guard_pos (fun _ => (Run_move (O rfl))) rfl rfl rfl <| ?_
        obtain ⟨e121, he122, -, hm⟩ := callG_some hm
        refine WD_pureG rfl rfl rfl rfl guard_pos (fun _ => (Run_idxAddr (p := (elA (sl v101) j106 1)) Tryd.underlying24 ti9 (Opd.g rfl id) (Opd.g rfl id) (fun hg => (Own.atA (A := RS) (v := (sl v101)) (hs.own (i := 1) rfl) (he122 hg)).1))) rfl rfl rfl <| WD_opG (fun w => b119 = true → CellsAt w (elA (sl v101) j106 1) [(S e121)]) (fun hg => (Own.cellsF (A := RS) (v := (sl v101)) (hs.own (i := 1) rfl) (he122 hg) (fun _ h => openT9 h)).sub 0 rfl) rfl rfl rfl rfl guard_pos (fun _ hJ => (Run_load1 (v := (S e121)) Tryd.underlying9 rfl (Opd.g rfl id) hJ)) rfl rfl rfl <| WD_pureG rfl rfl rfl rfl guard_pos (fun _ => (Run_lenS Tryd.underlying9 (Opd.g rfl id))) rfl rfl rfl <| WD_pureG rfl rfl rfl rfl guard_pos (fun _ => (Run_add (Opd.g rfl id) (Opd.g rfl id))) rfl rfl rfl <| ?_
        obtain ⟨k123, hm⟩ := chkG_some hm
        refine WD_pureG rfl rfl rfl rfl guard_pos (fun _ => (Run_cutS (lo := (some (.tmp 142))) (hi := (some (.tmp 149))) Tryd.underlying9 (Opd.g rfl id) ⟨_, (Opd.g rfl id)⟩ ⟨_, (Opd.g rfl id)⟩ k123)) rfl rfl rfl <| WD_pureG rfl rfl rfl rfl guard_pos (fun _ => (Run_move (O rfl))) rfl rfl rfl <| WD_pureG rfl rfl rfl rfl guard_pos (fun _ => (Run_move (O rfl))) rfl rfl rfl <| ?_
        obtain ⟨e124, he125, -, hm⟩ := callG_some hm
        refine WD_pureG rfl rfl rfl rfl guard_pos (fun _ => (Run_idxAddr (p := (elA (sl v101) j106 1)) Tryd.underlying24 ti9 (Opd.g rfl id) (Opd.g rfl id) (fun hg => (Own.atA (A := RS) (v := (sl v101)) (hs.own (i := 1) rfl) (he125 hg)).1))) rfl rfl rfl <| WD_opG (fun w => b119 = true → CellsAt w (elA (sl v101) j106 1) [(S e124)]) (fun hg => (Own.cellsF (A := RS) (v := (sl v101)) (hs.own (i := 1) rfl) (he125 hg) (fun _ h => openT9 h)).sub 0 rfl) rfl rfl rfl rfl guard_pos (fun _ hJ => (Run_load1 (v := (S e124)) Tryd.underlying9 rfl (Opd.g rfl id) hJ)) rfl rfl rfl <| ?_
        obtain ⟨b126, e127, hm⟩ := letv_some hm
        refine WD_pureG rfl rfl rfl rfl guard_pos (fun _ => (Run.eqB (Run_eqS (Opd.g rfl id) (Opd.g rfl id)) e127)) rfl rfl rfl <| ?_
        obtain ⟨b128, e129, hm⟩ := letv_some hm
        refine WD_pure (fun _ => (Run.eqB (Run_and (O rfl) (Opd.g rfl id)) e129)) rfl rfl rfl rfl <| ?_
        refine WD_nil ?_
        refine At_then ?_
        refine WC_cond (O rfl) (fun hc130 => ?_) (fun hc130 => ?_)
        ·
         replace hm := bif_t hc130 hm
         refine WC_region ?_
         refine Wo (Run_move (O rfl)) rfl <| Wo (Run_move (O rfl)) rfl <| ?_
         obtain ⟨e131, he132, hm⟩ := bind_some' hm
         refine Wo (Run_idxAddr (p := (elA (sl v101) j106 1)) Tryd.underlying24 ti9 (O rfl) (O rfl) (fun hg => (Own.atA (A := RS) (v := (sl v101)) (hs.own (i := 1) rfl) he132).1)) rfl <| Wo (Run_load1 (v := (S e131)) Tryd.underlying9 rfl (O rfl) (fun hg => (Own.cellsF (A := RS) (v := (sl v101)) (hs.own (i := 1) rfl) he132 (fun _ h => openT9 h)).sub 0 rfl)) rfl <| Wo (Run_assign (O rfl)) rfl <| ?_
         refine WL_nil ?_
         refine At_blk_normal ?_
         refine At_then <| WC_region ?_
         refine Wo (Run_move (O rfl)) rfl <| Wo (Run_add (O rfl) Opd.c) rfl <| Wo (Run_assign (O rfl)) rfl <| ?_
         refine WL_nil ?_
         exact At_again (e131, (IntKind.i64.wrap (j106 + 1))) () hm (hs.re 2 [0, 1] rfl) rfl
        ·
         replace hm := bif_f hc130 hm
         refine WC_skip ?_
         refine At_blk_normal ?_
         refine At_then <| WC_region ?_
         refine Wo (Run_move (O rfl)) rfl <| Wo (Run_add (O rfl) Opd.c) rfl <| Wo (Run_assign (O rfl)) rfl <| ?_
         refine WL_nil ?_
         exact At_again (s105, (IntKind.i64.wrap (j106 + 1))) () hm (hs.re 2 [0, 1] rfl) rfl
       ·
        replace hm := bif_f hc114 hm
        refine WC_exit ?_
        refine At_then_exit <| At_then_exit <| At_blk_here <| ?_
        refine At_then <| WC_seq <| WC_seq <| WC_region ?_
        refine Wo (Run_move (O rfl)) rfl <| Wo (Run_eqS (O rfl) Opd.c) rfl <| ?_
        refine WL_nil <| At_then ?_
        refine WC_cond (O rfl) (fun hc133 => ?_) (fun hc133 => ?_)
        ·
         replace hm := bif_t hc133 hm
         refine WC_seq <| WC_region ?_
         refine Wo (Run_move (O rfl)) rfl <| Wo (Run_assign Opd.c) rfl <| Wo (Run_assign Opd.c) rfl <| Wo (Run_assign (O rfl)) rfl <| ?_
         refine WL_nil <| At_then ?_
         refine WC_ret ?_
         refine At_then_ret <| At_blk_ret <| At_then_ret <| At_blk_ret <| At_then_ret <| ?_
         refine At_r3 rfl (ResIs.t rfl) (ResIs.t rfl) (ResIs.t rfl) ?_
         replace hs := hs.addNil (RP (RI .i64) (RP RS (RP (RI .i64) (RI .i64)))) 88
         cases hm
         exact ⟨(none, 0, 0), [], rfl, (hs.re 3 [0] rfl)⟩
        ·
         replace hm := bif_f hc133 hm
         refine WC_skip ?_
         refine At_then <| WC_seq <| WC_region ?_
         refine Wo (Run_move (O rfl)) rfl <| Wo (Run_move (O rfl)) rfl <| Wo (Run_move (O rfl)) rfl <| Wo (Run_build (parts := [(0, (.const (.int .i64 3))), (1, (.tmp 165)), (3, (.tmp 166))]) (v := (.agg #[(.int .i64 3), (S s105), (.int .i64 0), (.int .i64 i12)])) (.cons Opd.c (.cons (O rfl) (.cons (O rfl) .nil))) (fun _ => by kernel_rfl)) rfl <| ?_
         refine WS_lit (A := (RP (RI .i64) (RP RS (RP (RI .i64) (RI .i64))))) (xs := [(3, s105, 0, i12)]) (zs := [(.int .i64 0), (S []), (.int .i64 0), (.int .i64 0)]) (cells := [(.int .i64 3), (S s105), (.int .i64 0), (.int .i64 i12)]) (parts := [(0, (.tmp 167))]) hs Tryd.underlying82 ti88 rfl rfl rfl (.cons (O rfl) .nil) (by kernel_rfl) rfl (ARd.cons (A := (RP (RI .i64) (RP RS (RP (RI .i64) (RI .i64))))) (c := [(.int .i64 3), (S s105), (.int .i64 0), (.int .i64 i12)]) (x := (3, s105, 0, i12)) ⟨_, _, rfl, rfl, ⟨_, _, rfl, rfl, ⟨_, _, rfl, rfl, rfl⟩⟩⟩ ARd.nil) rfl ?_
         intro b134 w135 hs
         replace hs := Sat.n3 (Γ := Φ) hs rfl
         replace hs := hs.freeze (i := 0) rfl
         obtain ⟨k136, hm⟩ := chk_some hm
         refine WS_append (A := (RP (RI .i64) (RP RS (RP (RI .i64) (RI .i64))))) hs 1 rfl Tryd.underlying82 ti88 rfl rfl (O rfl) (O rfl) (hs.sl (i := 0) rfl) k136 rfl ?_
         intro v137 R138 w139 hs
         replace hs := Sat.n3 (Γ := Φ) hs rfl
         refine Wo (Run_assign (O rfl)) rfl <| ?_
         refine WL_nil <| At_then <| WC_region ?_
         refine Wo (Run_move (O rfl)) rfl <| Wo (Run_move (O rfl)) rfl <| Wo (Run_lenS Tryd.underlying9 (O rfl)) rfl <| Wo (Run_add (O rfl) (O rfl)) rfl <| Wo (Run_assign (O rfl)) rfl <| ?_
         refine WL_nil ?_
         refine At_blk_normal ?_
         exact At_again ((out9 ++ ([(3, s105, 0, i12)] : List (Int × Str × Int × Int))), (IntKind.i64.wrap (i12 + (List.length s105 : Int)))) (v137, R138) hm (hs.re 3 [1] rfl) rfl
  ·
   replace hm := bif_f hc14 hm
   refine WC_exit ?_
   refine At_then_exit <| At_then_exit <| At_blk_here <| ?_
   refine At_then <| WC_seq <| WC_region ?_
   refine Wo (Run_move (O rfl)) rfl <| Wo (Run_move (O rfl)) rfl <| Wo (Run_lenS Tryd.underlying9 (O rfl)) rfl <| Wo (Run_build (parts := [(0, (.const (.int .i64 4))), (3, (.tmp 176))]) (v := (.agg #[(.int .i64 4), (S []), (.int .i64 0), (.int .i64 (List.length text : Int))])) (.cons Opd.c (.cons (O rfl) .nil)) (fun _ => by kernel_rfl)) rfl <| ?_
   refine WS_lit (A := (RP (RI .i64) (RP RS (RP (RI .i64) (RI .i64))))) (xs := [(4, [], 0, (List.length text : Int))]) (zs := [(.int .i64 0), (S []), (.int .i64 0), (.int .i64 0)]) (cells := [(.int .i64 4), (S []), (.int .i64 0), (.int .i64 (List.length text : Int))]) (parts := [(0, (.tmp 177))]) hs Tryd.underlying82 ti88 rfl rfl rfl (.cons (O rfl) .nil) (by kernel_rfl) rfl (ARd.cons (A := (RP (RI .i64) (RP RS (RP (RI .i64) (RI .i64))))) (c := [(.int .i64 4), (S []), (.int .i64 0), (.int .i64 (List.length text : Int))]) (x := (4, [], 0, (List.length text : Int))) ⟨_, _, rfl, rfl, ⟨_, _, rfl, rfl, ⟨_, _, rfl, rfl, rfl⟩⟩⟩ ARd.nil) rfl ?_
   intro b140 w141 hs
   replace hs := Sat.n2 (Γ := Φ) hs rfl
   replace hs := hs.freeze (i := 0) rfl
   obtain ⟨k142, hm⟩ := chk_some hm
   refine WS_append (A := (RP (RI .i64) (RP RS (RP (RI .i64) (RI .i64))))) hs 1 rfl Tryd.underlying82 ti88 rfl rfl (O rfl) (O rfl) (hs.sl (i := 0) rfl) k142 rfl ?_
   intro v143 R144 w145 hs
   replace hs := Sat.n2 (Γ := Φ) hs rfl
   refine Wo (Run_assign (O rfl)) rfl <| Wo (Run_assign Opd.c) rfl <| Wo (Run_assign Opd.c) rfl <| ?_
   refine WL_nil <| At_then ?_
   refine WC_ret ?_
   refine At_r3 rfl (ResIs.t rfl) (ResIs.t rfl) (ResIs.t rfl) ?_
   cases hm
   exact ⟨v143, R144, rfl, (hs.re 2 [1] rfl)⟩
end Go.Proofs.YtjdabjpjafkogaaDoor
namespace Go.Proofs.YtjdabjpjafkogaaDoor
open Go.Proofs
set_option maxRecDepth 100000 in
set_option maxHeartbeats 4000000 in
theorem scrutinyref14_look_is_ok {Φ : Ctx} {w : World} {kind : Int} {text : Str} {l : (List (Int × Str × Int × Int))} {at_ : Int} {Names : (List Str)} {Schema : (List (Int × Int))} {Init : (List Int)} {Procs : (List Str)} {Cmd : (List (Int × Ex × (List (Int × Ex))))} {bad : Int} {place : Int} {b : Nat} {v2 : SLV} {R : List Nat} {v4 : SLV} {R5 : List Nat} {v7 : SLV} {R8 : List Nat} {v10 : SLV} {R11 : List Nat} {v13 : SLV} {R14 : List Nat} {v16 : SLV} {R17 : List Nat} {r : Bool} (hs : Sat (box b 86 [(sl v2), (.int .i64 at_), (sl v4), (sl v7), (sl v10), (sl v13), (sl v16), (.int .i64 bad), (.int .i64 place)] :: osl (RP (RI .i64) (RP RS (RP (RI .i64) (RI .i64)))) 88 (sl v2) l R :: osl RS 9 (sl v4) Names R5 :: osl (RP (RI .i64) (RI .i64)) 72 (sl v7) Schema R8 :: osl (RI .i64) 3 (sl v10) Init R11 :: osl RS 9 (sl v13) Procs R14 :: osl (RP (RI .i64) (RP RExpr (RSl (RP (RI .i64) RExpr)))) 60 (sl v16) Cmd R17 :: Φ) w) (hm : scrutinyref14_look_is kind text l at_ Names Schema Init Procs Cmd bad place = some r) :
  CallsR Tryd.prog 36 [(.pointer (some ⟨b, 0, none⟩)), (.int .i64 kind), (S text)] w (fun v w' => v = (.bool r) ∧ Sat (box b 86 [(sl v2), (.int .i64 at_), (sl v4), (sl v7), (sl v10), (sl v13), (sl v16), (.int .i64 bad), (.int .i64 place)] :: osl (RP (RI .i64) (RP RS (RP (RI .i64) (RI .i64)))) 88 (sl v2) l R :: osl RS 9 (sl v4) Names R5 :: osl (RP (RI .i64) (RI .i64)) 72 (sl v7) Schema R8 :: osl (RI .i64) 3 (sl v10) Init R11 :: osl RS 9 (sl v13) Procs R14 :: osl (RP (RI .i64) (RP RExpr (RSl (RP (RI .i64) RExpr)))) 60 (sl v16) Cmd R17 :: Φ) w') := by
 refine CallsX_enter Tryd.func36 rfl Tryd.ntmps36 rfl ?_
 unfold scrutinyref14_look_is at hm
 refine WC_seq <| WC_region ?_
 refine Wo (Run_assign Opd.c) rfl <| ?_
 refine WL_nil <| At_then <| WC_seq ?_
 refine WC_region_mixed [0, 1, 2, 4, 8, 16, 32, 96, 160, 288, 32, 1056, 2080, 4128, 8736, 16416, 32800, 32, 196640, 262176, 524320, 1048576, 3145728, 5242880, 9437184, 1048576, 34603008, 68157440, 135266304, 286261248, 537919488, 1074790400, 1048576, 6443499520, 8590983168, 34359738367] (.q 0 0 (.q 1 1 (.q 2 3 (.q 3 7 (.q 4 15 (.q 5 31 (.q 6 63 (.q 7 127 (.q 8 255 (.q 9 511 (.q 10 1023 (.q 11 2047 (.q 12 4095 (.q 13 8191 (.q 14 16383 (.q 15 32767 (.q 16 65535 (.q 17 131071 (.q 18 262143 (.q 19 524287 (.q 20 1048575 (.q 21 2097151 (.q 22 4194303 (.q 23 8388607 (.q 24 16777215 (.q 25 33554431 (.q 26 67108863 (.q 27 134217727 (.q 28 268435455 (.q 29 536870911 (.q 30 1073741823 (.q 31 2147483647 (.q 32 4294967295 (.q 33 8589934591 (.q 34 17179869183 (.q 35 34359738367 .nil)))))))))))))))))))))))))))))))))))) (by kernel_rfl) (by kernel_rfl) ?_
 intro w3 hx4
 replace hs := hs.ext hx4
 refine WD_pure (fun _ => (Run_move (O rfl))) rfl rfl rfl rfl <| WD_pure (fun _ => (Run_nilP (O rfl))) rfl rfl rfl rfl <| WD_pure (fun _ => (Run_fieldAddr fo86_3 (O rfl))) rfl rfl rfl rfl <| WD_op (fun w => CellsAt w ⟨b, 7, none⟩ [(.int .i64 bad)]) ((hs.box (i := 0) rfl).part 7 rfl) (fun _ hJ => (Run_load1 (v := (.int .i64 bad)) Tryd.underlying3 rfl (O rfl) (fun _ => hJ))) rfl rfl rfl rfl <| ?_
 obtain ⟨b5, e6, hm⟩ := letv_some hm
 refine WD_pure (fun _ => (Run.eqB (Run_eqI (O rfl) Opd.c) e6)) rfl rfl rfl rfl <| WD_pure (fun _ => (Run_move (O rfl))) rfl rfl rfl rfl <| WD_pureG rfl rfl rfl rfl guard_pos (fun _ => (Run_move (O rfl))) rfl rfl rfl <| WD_pureG rfl rfl rfl rfl guard_pos (fun _ => (Run_nilP (Opd.g rfl id))) rfl rfl rfl <| WD_pureG rfl rfl rfl rfl guard_pos (fun _ => (Run_fieldAddr fo86_0 (Opd.g rfl id))) rfl rfl rfl <| WD_opG (fun w => CellsAt w ⟨b, 0, none⟩ [(sl v2)]) ((hs.box (i := 0) rfl).part 0 rfl) rfl rfl rfl rfl guard_pos (fun _ hJ => (Run_load1 (v := (sl v2)) Tryd.underlying82 rfl (Opd.g rfl id) (fun _ => hJ))) rfl rfl rfl <| WD_pureG rfl rfl rfl rfl guard_pos (fun _ => (Run_move (O rfl))) rfl rfl rfl <| WD_pureG rfl rfl rfl rfl guard_pos (fun _ => (Run_nilP (Opd.g rfl id))) rfl rfl rfl <| ?_
 refine WD_pureG rfl rfl rfl rfl guard_pos (fun _ => (Run_fieldAddr fo86_1 (Opd.g rfl id))) rfl rfl rfl <| WD_opG (fun w => CellsAt w ⟨b, 1, none⟩ [(.int .i64 at_)]) ((hs.box (i := 0) rfl).part 1 rfl) rfl rfl rfl rfl guard_pos (fun _ hJ => (Run_load1 (v := (.int .i64 at_)) Tryd.underlying3 rfl (Opd.g rfl id) (fun _ => hJ))) rfl rfl rfl <| ?_
 obtain ⟨e7, he8, -, hm⟩ := callG_some hm
 refine WD_pureG rfl rfl rfl rfl guard_pos (fun _ => (Run_idxAddr (p := (elA (sl v2) at_ 4)) Tryd.underlying82 ti88 (Opd.g rfl id) (Opd.g rfl id) (fun hg => (Own.atA (A := (RP (RI .i64) (RP RS (RP (RI .i64) (RI .i64))))) (v := (sl v2)) (hs.own (i := 1) rfl) (he8 hg)).1))) rfl rfl rfl <| WD_pureG rfl rfl rfl rfl guard_pos (fun _ => (Run_fieldAddr fo88_0 (Opd.g rfl id))) rfl rfl rfl <| WD_opG (fun w => b5 = true → CellsAt w ((elA (sl v2) at_ 4).add 0) [(.int .i64 e7.1)]) (fun hg => ((Own.cellsF (A := (RP (RI .i64) (RP RS (RP (RI .i64) (RI .i64))))) (v := (sl v2)) (hs.own (i := 1) rfl) (he8 hg) (fun _ h => openT88 h)).sub (us := [(.int .i64 e7.1)]) 0 rfl).sub 0 rfl) rfl rfl rfl rfl guard_pos (fun _ hJ => (Run_load1 (v := (.int .i64 e7.1)) Tryd.underlying3 rfl (Opd.g rfl id) hJ)) rfl rfl rfl <| WD_pureG rfl rfl rfl rfl guard_pos (fun _ => (Run_move (O rfl))) rfl rfl rfl <| ?_
 obtain ⟨b9, e10, hm⟩ := letv_some hm
 refine WD_pureG rfl rfl rfl rfl guard_pos (fun _ => (Run.eqB (Run_eqI (Opd.g rfl id) (Opd.g rfl id)) e10)) rfl rfl rfl <| ?_
 obtain ⟨b11, e12, hm⟩ := letv_some hm
 refine WD_pure (fun _ => (Run.eqB (Run_and (O rfl) (Opd.g rfl id)) e12)) rfl rfl rfl rfl <| WD_pure (fun _ => (Run_move (O rfl))) rfl rfl rfl rfl <| WD_pureG rfl rfl rfl rfl guard_pos (fun _ => (Run_move (O rfl))) rfl rfl rfl <| WD_pureG rfl rfl rfl rfl guard_pos (fun _ => (Run_nilP (Opd.g rfl id))) rfl rfl rfl <| WD_pureG rfl rfl rfl rfl guard_pos (fun _ => (Run_fieldAddr fo86_0 (Opd.g rfl id))) rfl rfl rfl <| WD_opG (fun w => CellsAt w ⟨b, 0, none⟩ [(sl v2)]) ((hs.box (i := 0) rfl).part 0 rfl) rfl rfl rfl rfl guard_pos (fun _ hJ => (Run_load1 (v := (sl v2)) Tryd.underlying82 rfl (Opd.g rfl id) (fun _ => hJ))) rfl rfl rfl <| WD_pureG rfl rfl rfl rfl guard_pos (fun _ => (Run_move (O rfl))) rfl rfl rfl <| WD_pureG rfl rfl rfl rfl guard_pos (fun _ => (Run_nilP (Opd.g rfl id))) rfl rfl rfl <| ?_
 refine WD_pureG rfl rfl rfl rfl guard_pos (fun _ => (Run_fieldAddr fo86_1 (Opd.g rfl id))) rfl rfl rfl <| WD_opG (fun w => CellsAt w ⟨b, 1, none⟩ [(.int .i64 at_)]) ((hs.box (i := 0) rfl).part 1 rfl) rfl rfl rfl rfl guard_pos (fun _ hJ => (Run_load1 (v := (.int .i64 at_)) Tryd.underlying3 rfl (Opd.g rfl id) (fun _ => hJ))) rfl rfl rfl <| ?_
 obtain ⟨e13, he14, -, hm⟩ := callG_some hm
 refine WD_pureG rfl rfl rfl rfl guard_pos (fun _ => (Run_idxAddr (p := (elA (sl v2) at_ 4)) Tryd.underlying82 ti88 (Opd.g rfl id) (Opd.g rfl id) (fun hg => (Own.atA (A := (RP (RI .i64) (RP RS (RP (RI .i64) (RI .i64))))) (v := (sl v2)) (hs.own (i := 1) rfl) (he14 hg)).1))) rfl rfl rfl <| WD_pureG rfl rfl rfl rfl guard_pos (fun _ => (Run_fieldAddr fo88_1 (Opd.g rfl id))) rfl rfl rfl <| WD_opG (fun w => b11 = true → CellsAt w ((elA (sl v2) at_ 4).add 1) [(S e13.2.1)]) (fun hg => ((Own.cellsF (A := (RP (RI .i64) (RP RS (RP (RI .i64) (RI .i64))))) (v := (sl v2)) (hs.own (i := 1) rfl) (he14 hg) (fun _ h => openT88 h)).sub (us := [(S e13.2.1)]) 1 rfl).sub 0 rfl) rfl rfl rfl rfl guard_pos (fun _ hJ => (Run_load1 (v := (S e13.2.1)) Tryd.underlying9 rfl (Opd.g rfl id) hJ)) rfl rfl rfl <| WD_pureG rfl rfl rfl rfl guard_pos (fun _ => (Run_move (O rfl))) rfl rfl rfl <| ?_
 obtain ⟨b15, e16, hm⟩ := letv_some hm
 refine WD_pureG rfl rfl rfl rfl guard_pos (fun _ => (Run.eqB (Run_eqS (Opd.g rfl id) (Opd.g rfl id)) e16)) rfl rfl rfl <| ?_
 obtain ⟨b17, e18, hm⟩ := letv_some hm
 refine WD_pure (fun _ => (Run.eqB (Run_and (O rfl) (Opd.g rfl id)) e18)) rfl rfl rfl rfl <| WD_pure (fun _ => (Run_assign (O rfl))) rfl rfl rfl rfl <| ?_
 refine WD_nil ?_
 refine At_then ?_
 refine WC_ret ?_
 refine At_r1 rfl (ResIs.t rfl) ?_
 cases hm
 exact ⟨rfl, (hs.re 7 [0, 1, 2, 3, 4, 5, 6] rfl)⟩
set_option maxRecDepth 100000 in
set_option maxHeartbeats 4000000 in
theorem scrutinyref13_Key_ok {Φ : Ctx} {w : World} {name : Str} {r : Bool} (hs : Sat (Φ) w) (hm : scrutinyref13_Key name = some r) :
  CallsR Tryd.prog 51 [(S name)] w (fun v w' => v = (.bool r) ∧ Sat (Φ) w') := by
 refine CallsX_enter Tryd.func51 rfl Tryd.ntmps51 rfl ?_
 unfold scrutinyref13_Key at hm
 refine WC_seq <| WC_region ?_
 refine Wo (Run_assign Opd.c) rfl <| ?_
 refine WL_nil <| At_then <| WC_seq <| WC_seq <| WC_region ?_
 refine Wo (Run_move (O rfl)) rfl <| ?_
 refine WL_nil <| At_then ?_
 refine WC_block ?_
 refine WC_seq_cut (γ := Bool) (fun t4 w3 => scrutinyref13_Key_K1 t4 = some r ∧ Sat (Φ) w3) (fun t4 => [(4, true, (.bool t4))]) ?_ ?_
 ·
  rintro t4 w3 ⟨hm, hs⟩
  unfold scrutinyref13_Key_K1 at hm
  refine WC_cond (O rfl) (fun hc5 => ?_) (fun hc5 => ?_)
  ·
   replace hm := bif_t hc5 hm
   refine WC_seq <| WC_region ?_
   refine Wo (Run_assign Opd.c) rfl <| ?_
   refine WL_nil <| At_then ?_
   refine WC_ret ?_
   refine At_blk_ret <| At_then_ret <| ?_
   refine At_r1 rfl (ResIs.t rfl) ?_
   cases hm
   exact ⟨rfl, (hs.re 0 [] rfl)⟩
  ·
   replace hm := bif_f hc5 hm
   refine WC_skip ?_
   refine At_blk_normal ?_
   refine At_then <| WC_seq <| WC_region ?_
   refine Wo (Run_assign Opd.c) rfl <| ?_
   refine WL_nil <| At_then ?_
   refine WC_ret ?_
   refine At_r1 rfl (ResIs.t rfl) ?_
   cases hm
   exact ⟨rfl, (hs.re 0 [] rfl)⟩
 ·
  refine WC_seq <| WC_region ?_
  refine Wo (Run_eqS (O rfl) Opd.c) rfl <| Wo (Run_assign (O rfl)) rfl <| ?_
  refine WL_nil <| At_then ?_
  refine WC_cond (O rfl) (fun hc6 => ?_) (fun hc6 => ?_)
  ·
   replace hm := bif_t hc6 hm
   refine WC_skip ?_
   exact At_join (name == [116, 114, 117, 101]) ⟨hm, (hs.re 0 [] rfl)⟩ rfl
  ·
   replace hm := bif_f hc6 hm
   refine WC_seq <| WC_region ?_
   refine Wo (Run_eqS (O rfl) Opd.c) rfl <| Wo (Run_assign (O rfl)) rfl <| ?_
   refine WL_nil <| At_then ?_
   refine WC_cond (O rfl) (fun hc7 => ?_) (fun hc7 => ?_)
   ·
    replace hm := bif_t hc7 hm
    refine WC_skip ?_
    exact At_join (name == [102, 97, 108, 115, 101]) ⟨hm, (hs.re 0 [] rfl)⟩ rfl
   ·
    replace hm := bif_f hc7 hm
    refine WC_seq <| WC_region ?_
    refine Wo (Run_eqS (O rfl) Opd.c) rfl <| Wo (Run_assign (O rfl)) rfl <| ?_
    refine WL_nil <| At_then ?_
    refine WC_cond (O rfl) (fun hc8 => ?_) (fun hc8 => ?_)
    ·
     replace hm := bif_t hc8 hm
     refine WC_skip ?_
     exact At_join (name == [88]) ⟨hm, (hs.re 0 [] rfl)⟩ rfl
    ·
     replace hm := bif_f hc8 hm
     refine WC_seq <| WC_region ?_
     refine Wo (Run_eqS (O rfl) Opd.c) rfl <| Wo (Run_assign (O rfl)) rfl <| ?_
     refine WL_nil <| At_then ?_
     refine WC_cond (O rfl) (fun hc9 => ?_) (fun hc9 => ?_)
     ·
      replace hm := bif_t hc9 hm
      refine WC_skip ?_
      exact At_join (name == [70]) ⟨hm, (hs.re 0 [] rfl)⟩ rfl
     ·
      replace hm := bif_f hc9 hm
      refine WC_seq <| WC_region ?_
      refine Wo (Run_eqS (O rfl) Opd.c) rfl <| Wo (Run_assign (O rfl)) rfl <| ?_
      refine WL_nil <| At_then ?_
      refine WC_cond (O rfl) (fun hc10 => ?_) (fun hc10 => ?_)
      ·
       replace hm := bif_t hc10 hm
       refine WC_skip ?_
       exact At_join (name == [71]) ⟨hm, (hs.re 0 [] rfl)⟩ rfl
      ·
       replace hm := bif_f hc10 hm
       refine WC_seq <| WC_region ?_
       refine Wo (Run_eqS (O rfl) Opd.c) rfl <| Wo (Run_assign (O rfl)) rfl <| ?_
       refine WL_nil <| At_then ?_
       refine WC_cond (O rfl) (fun hc11 => ?_) (fun hc11 => ?_)
       ·
        replace hm := bif_t hc11 hm
        refine WC_skip ?_
        exact At_join (name == [85]) ⟨hm, (hs.re 0 [] rfl)⟩ rfl
       ·
        replace hm := bif_f hc11 hm
        refine WC_seq <| WC_region ?_
        refine Wo (Run_eqS (O rfl) Opd.c) rfl <| Wo (Run_assign (O rfl)) rfl <| ?_
        refine WL_nil <| At_then ?_
        refine WC_cond (O rfl) (fun hc12 => ?_) (fun hc12 => ?_)
        ·
         replace hm := bif_t hc12 hm
         refine WC_skip ?_
         exact At_join (name == [82]) ⟨hm, (hs.re 0 [] rfl)⟩ rfl
        ·
         replace hm := bif_f hc12 hm
         refine WC_seq <| WC_region ?_
         refine Wo (Run_eqS (O rfl) Opd.c) rfl <| Wo (Run_assign (O rfl)) rfl <| ?_
         refine WL_nil <| At_then ?_
         refine WC_cond (O rfl) (fun hc13 => ?_) (fun hc13 => ?_)
         ·
          replace hm := bif_t hc13 hm
          refine WC_skip ?_
          exact At_join (name == [118, 97, 114]) ⟨hm, (hs.re 0 [] rfl)⟩ rfl
         ·
          replace hm := bif_f hc13 hm
          refine WC_region ?_
          refine Wo (Run_eqS (O rfl) Opd.c) rfl <| Wo (Run_assign (O rfl)) rfl <| ?_
          refine WL_nil ?_
          exact At_join (name == [112, 114, 111, 99]) ⟨hm, (hs.re 0 [] rfl)⟩ rfl
set_option maxRecDepth 100000 in
set_option maxHeartbeats 4000000 in
theorem scrutinyref14_look_fail_ok {Φ : Ctx} {w : World} {bad : Int} {place : Int} {l : (List (Int × Str × Int × Int))} {at_ : Int} {Names : (List Str)} {Schema : (List (Int × Int))} {Init : (List Int)} {Procs : (List Str)} {Cmd : (List (Int × Ex × (List (Int × Ex))))} {bad19 : Int} {place20 : Int} {b : Nat} {v2 : SLV} {R : List Nat} {v4 : SLV} {R5 : List Nat} {v7 : SLV} {R8 : List Nat} {v10 : SLV} {R11 : List Nat} {v13 : SLV} {R14 : List Nat} {v16 : SLV} {R17 : List Nat} {r : (Int × Int)} (hs : Sat (box b 86 [(sl v2), (.int .i64 at_), (sl v4), (sl v7), (sl v10), (sl v13), (sl v16), (.int .i64 bad19), (.int .i64 place20)] :: osl (RP (RI .i64) (RP RS (RP (RI .i64) (RI .i64)))) 88 (sl v2) l R :: osl RS 9 (sl v4) Names R5 :: osl (RP (RI .i64) (RI .i64)) 72 (sl v7) Schema R8 :: osl (RI .i64) 3 (sl v10) Init R11 :: osl RS 9 (sl v13) Procs R14 :: osl (RP (RI .i64) (RP RExpr (RSl (RP (RI .i64) RExpr)))) 60 (sl v16) Cmd R17 :: Φ) w) (hm : scrutinyref14_look_fail bad place l at_ Names Schema Init Procs Cmd bad19 place20 = some r) :
  CallsR Tryd.prog 37 [(.pointer (some ⟨b, 0, none⟩)), (.int .i64 bad), (.int .i64 place)] w (fun v w' => v = (.tuple #[]) ∧ Sat (box b 86 [(sl v2), (.int .i64 at_), (sl v4), (sl v7), (sl v10), (sl v13), (sl v16), (.int .i64 r.1), (.int .i64 r.2)] :: osl (RP (RI .i64) (RP RS (RP (RI .i64) (RI .i64)))) 88 (sl v2) l R :: osl RS 9 (sl v4) Names R5 :: osl (RP (RI .i64) (RI .i64)) 72 (sl v7) Schema R8 :: osl (RI .i64) 3 (sl v10) Init R11 :: osl RS 9 (sl v13) Procs R14 :: osl (RP (RI .i64) (RP RExpr (RSl (RP (RI .i64) RExpr)))) 60 (sl v16) Cmd R17 :: Φ) w') := by
 refine CallsX_enter Tryd.func37 rfl Tryd.ntmps37 rfl ?_
 unfold scrutinyref14_look_fail at hm
 refine WC_seq <| WC_region ?_
 refine Wo (Run_move (O rfl)) rfl <| Wo (Run_nilP (O rfl)) rfl <| Wo (Run_fieldAddr fo86_3 (O rfl)) rfl <| Wo (Run_load1 (v := (.int .i64 bad19)) Tryd.underlying3 rfl (O rfl) (fun _ => (hs.box (i := 0) rfl).part 7 rfl)) rfl <| Wo (Run_eqI (O rfl) Opd.c) rfl <| ?_
 refine WL_nil <| At_then ?_
 refine WC_cond (O rfl) (fun hc4 => ?_) (fun hc4 => ?_)
 ·
  replace hm := bif_t hc4 hm
  refine WC_seq <| WC_region ?_
  refine Wo (Run_move (O rfl)) rfl <| Wo (Run_move (O rfl)) rfl <| Wo (Run_nilP (O rfl)) rfl <| Wo (Run_fieldAddr fo86_3 (O rfl)) rfl <| ?_
  refine WS_store (us := [(.int .i64 bad)]) (vs' := [(sl v2), (.int .i64 at_), (sl v4), (sl v7), (sl v10), (sl v13), (sl v16), (.int .i64 bad), (.int .i64 place20)]) hs 0 rfl ti3 (O rfl) (O rfl) rfl rfl rfl rfl rfl ?_
  intro w5 hs
  replace hs := Sat.n7 (Γ := Φ) hs rfl
  refine WL_nil <| At_then <| WC_region ?_
  refine Wo (Run_move (O rfl)) rfl <| Wo (Run_move (O rfl)) rfl <| Wo (Run_nilP (O rfl)) rfl <| Wo (Run_fieldAddr fo86_4 (O rfl)) rfl <| ?_
  refine WS_store (us := [(.int .i64 place)]) (vs' := [(sl v2), (.int .i64 at_), (sl v4), (sl v7), (sl v10), (sl v13), (sl v16), (.int .i64 bad), (.int .i64 place)]) hs 0 rfl ti3 (O rfl) (O rfl) rfl rfl rfl rfl rfl ?_
  intro w6 hs
  replace hs := Sat.n7 (Γ := Φ) hs rfl
  refine WL_nil ?_
  refine At_e0 rfl  ?_
  cases hm
  exact ⟨rfl, (hs.re 7 [0, 1, 2, 3, 4, 5, 6] rfl)⟩
 ·
  replace hm := bif_f hc4 hm
  refine WC_skip ?_
  refine At_e0 rfl  ?_
  cases hm
  exact ⟨rfl, (hs.re 7 [0, 1, 2, 3, 4, 5, 6] rfl)⟩
set_option maxRecDepth 100000 in
set_option maxHeartbeats 4000000 in
theorem scrutinyref14_index_s2_ok {Φ : Ctx} {w : World} {l : (List Str)} {name : Str} {v1 : SLV} {R : List Nat} {r : Int} (hs : Sat (osl RS 9 (sl v1) l R :: Φ) w) (hm : scrutinyref14_index_s2 l name = some r) :
  CallsR Tryd.prog 52 [(sl v1), (S name)] w (fun v w' => v = (.int .i64 r) ∧ Sat (osl RS 9 (sl v1) l R :: Φ) w') := by
 refine CallsX_enter Tryd.func52 rfl Tryd.ntmps52 rfl ?_
 unfold scrutinyref14_index_s2 at hm
 refine WC_seq <| WC_region ?_
 refine Wo (Run_assign Opd.c) rfl <| ?_
 refine WL_nil <| At_then <| WC_seq <| WC_seq <| WC_region ?_
 refine Wo (Run_assign Opd.c) rfl <| ?_
 refine WL_nil <| At_then ?_
 refine WC_block ?_
 refine WC_loop (σ := Int) (γ := Unit) (F := (scrutinyref14_index_s2_L1 l name)) (N := FUEL) (s0 := 0) (r := r) (fun i4 (_ : Unit) w3 => Sat (osl RS 9 (sl v1) l R :: Φ) w3) (fun i4 (_ : Unit) => [(0, true, (sl v1)), (1, true, (S name)), (5, true, (.int .i64 i4))]) hm () (hs.re 1 [0] rfl) rfl ?_
 rintro again5 i4 _ w3 hm hs
 unfold scrutinyref14_index_s2_L1 at hm
 refine WC_seq <| WC_seq <| WC_region ?_
 refine Wo (Run_move (O rfl)) rfl <| Wo (Run_move (O rfl)) rfl <| Wo (Run_lenSlG Tryd.underlying24 (O rfl) (fun _ => (hs.own (i := 0) rfl).len)) rfl <| Wo (Run_ltI (O rfl) (O rfl)) rfl <| ?_
 refine WL_nil <| At_then ?_
 refine WC_cond (O rfl) (fun hc6 => ?_) (fun hc6 => ?_)
 ·
  replace hm := bif_t hc6 hm
  refine WC_skip ?_
  refine At_then <| WC_seq ?_
  refine WC_block ?_
  refine WC_seq <| WC_region ?_
  refine Wo (Run_move (O rfl)) rfl <| Wo (Run_move (O rfl)) rfl <| ?_
  obtain ⟨e7, he8, hm⟩ := bind_some' hm
  refine Wo (Run_idxAddr (p := (elA (sl v1) i4 1)) Tryd.underlying24 ti9 (O rfl) (O rfl) (fun hg => (Own.atA (A := RS) (v := (sl v1)) (hs.own (i := 0) rfl) he8).1)) rfl <| Wo (Run_load1 (v := (S e7)) Tryd.underlying9 rfl (O rfl) (fun hg => (Own.cellsF (A := RS) (v := (sl v1)) (hs.own (i := 0) rfl) he8 (fun _ h => openT9 h)).sub 0 rfl)) rfl <| Wo (Run_move (O rfl)) rfl <| Wo (Run_eqS (O rfl) (O rfl)) rfl <| ?_
  refine WL_nil <| At_then ?_
  refine WC_cond (O rfl) (fun hc9 => ?_) (fun hc9 => ?_)
  ·
   replace hm := bif_t hc9 hm
   refine WC_seq <| WC_region ?_
   refine Wo (Run_move (O rfl)) rfl <| Wo (Run_assign (O rfl)) rfl <| ?_
   refine WL_nil <| At_then ?_
   refine WC_ret ?_
   refine At_blk_ret <| At_then_ret <| At_then_ret <| At_blk_ret <| At_then_ret <| ?_
   refine At_r1 rfl (ResIs.t rfl) ?_
   cases hm
   exact ⟨rfl, (hs.re 1 [0] rfl)⟩
  ·
   replace hm := bif_f hc9 hm
   refine WC_skip ?_
   refine At_blk_normal ?_
   refine At_then <| WC_region ?_
   refine Wo (Run_move (O rfl)) rfl <| Wo (Run_add (O rfl) Opd.c) rfl <| Wo (Run_assign (O rfl)) rfl <| ?_
   refine WL_nil ?_
   exact At_again (IntKind.i64.wrap (i4 + 1)) () hm (hs.re 1 [0] rfl) rfl
 ·
  replace hm := bif_f hc6 hm
  refine WC_exit ?_
  refine At_then_exit <| At_then_exit <| At_blk_here <| ?_
  refine At_then <| WC_seq <| WC_region ?_
  refine Wo (Run_assign Opd.c) rfl <| ?_
  refine WL_nil <| At_then ?_
  refine WC_ret ?_
  refine At_r1 rfl (ResIs.t rfl) ?_
  cases hm
  exact ⟨rfl, (hs.re 1 [0] rfl)⟩
end Go.Proofs.YtjdabjpjafkogaaDoor
